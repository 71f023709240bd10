/- The walk of print.Print. -/
import Derived.Test.YtcgadbojojkchaaDoorWe
import Derived.Test.YtcgadbojojkchaaDoorWg
import Derived.Deep.DeepCutAuto
set_option linter.unusedVariables false
set_option linter.unusedSimpArgs false
namespace Go.Proofs.YtcgadbojojkchaaDoor.U
open Go.RowKit Go.Proofs.YtcgadbojojkchaaDoorW.PrintWords Go.Proofs.YtcgadbojojkchaaDoorW.PrintLast Go.Proofs.YtcgadbojojkchaaDoorW.PrintMore
attribute [local go_sem] arr5_0 arr5_1 arr5_2 arr5_3 arr5_4

theorem by_calls (n : Int) (w : World) : Calls Tryd.prog 35 #[.int .i64 n] w fun e w' => e = .returned (.string (byW n)) ∧ w' = w := by
  go_enter Tryd.func35, Tryd.ntmps35
  go_wp2
  all_goals go_ret
  all_goals exact ⟨by simp_all [byW], rfl⟩
theorem Bld_new (W : World) (B : Nat) (hB : B ≤ W.heap.size) : Bld B W.heap.size [] (W.alloc (.cells #[.pointer none, .slice none 0 0] 70 (0, 0))) :=
  .inl ⟨hB, .slice none 0 0, blk_new _ _, ⟨by simp [Lib.byteCells], .inl ⟨rfl, rfl⟩⟩, by simp [Value.ownBlock]⟩

theorem formed_nums {c : Config} (h : formedB c = true) : 0 ≤ c.total ∧ c.total ≤ 4096 ∧ 0 ≤ c.period ∧ c.period ≤ 1000 ∧ 0 ≤ c.perSeat ∧ c.perSeat ≤ 1048576 ∧ 0 ≤ c.most ∧ c.most ≤ 16 ∧ c.levels.length ≤ 16 ∧ c.schemas.length ≤ 32 ∧ (c.perSeat = 0 ↔ c.most = 0) := by
  rw [formedB_eq] at h
  simp only [Bool.and_eq_true, headB, within, decide_eq_true_eq, beq_iff_eq, decide_eq_decide] at h
  omega
theorem formed_parts {c : Config} (h : formedB c = true) : (∀ l ∈ c.levels, levelB l = true) ∧ (∀ s ∈ c.schemas, schemaB s = true) := by
  rw [formedB_eq] at h
  simp only [Bool.and_eq_true, List.all_eq_true] at h
  exact ⟨h.1.2.1, h.2.1⟩
theorem levelN_of {l : Level} (h : levelB l = true) : LevelN l := by
  unfold levelB at h
  rw [Bool.and_eq_true] at h
  have hn : l.name.size ≤ 32 := by
    have := h.1
    unfold nameB at this
    simp only [Bool.and_eq_true, decide_eq_true_eq] at this
    omega
  have h2 := h.2
  split at h2
  · simp only [decide_eq_true_eq] at h2
    exact ⟨hn, by omega, by omega, by omega, by omega, by omega, by omega, by omega, by omega⟩
  · split at h2
    · simp only [Bool.and_eq_true, shareB, within, decide_eq_true_eq] at h2
      exact ⟨hn, by omega, by omega, by omega, by omega, by omega, by omega, by omega, by omega⟩
    · split at h2
      · simp only [Bool.and_eq_true, shareB, within, decide_eq_true_eq] at h2
        exact ⟨hn, by omega, by omega, by omega, by omega, by omega, by omega, by omega, by omega⟩
      · cases h2
theorem levelW_len (l : Level) : (levelW l).length ≤ 16 := by
  unfold levelW
  split
  · simp
  · split <;> simp
theorem levelW_sizes {l : Level} (h : LevelN l) : ∀ x ∈ levelW l, x.size ≤ 600 := by
  obtain ⟨h1, h2, h3, h4, h5, h6, h7, h8, h9⟩ := h
  have d : ∀ n : Int, n ≤ 9223372036854775807 → (digitsT n).size ≤ 600 := fun n hn => Nat.le_trans (digitsT_size n hn) (by omega)
  have hb : (borrowW l.borrow).size ≤ 600 := by
    unfold borrowW
    split
    · exact d _ h4
    · decide
  intro x hx
  unfold levelW at hx
  split at hx
  · simp only [List.mem_cons, List.mem_nil_iff, or_false] at hx
    rcases hx with rfl | rfl | rfl
    · decide
    · omega
    · decide
  · rw [List.mem_append] at hx
    rcases hx with hx | hx
    · simp only [List.mem_cons, List.mem_nil_iff, or_false] at hx
      rcases hx with rfl | rfl | rfl | rfl | rfl
      · decide
      · omega
      · exact d _ h2
      · exact d _ h3
      · exact hb
    · split at hx
      · simp only [List.mem_cons, List.mem_nil_iff, or_false] at hx
        subst hx
        decide
      · simp only [List.mem_cons, List.mem_nil_iff, or_false] at hx
        rcases hx with rfl | rfl | rfl | rfl | rfl | rfl
        · decide
        · exact d _ h5
        · exact d _ h6
        · exact d _ h7
        · exact d _ h8
        · exact d _ h9
theorem flat_succ {α : Type} (f : α → List UInt8) {l : List α} {k : Nat} (hk : k < l.length) : ((l.take (k + 1)).map f).flatten = ((l.take k).map f).flatten ++ f l[k] := by
  rw [List.take_succ_eq_append_getElem hk, List.map_append, List.flatten_append]; simp
theorem levelsT_succ {l : List Level} {k : Nat} (hk : k < l.length) : levelsT (l.take (k + 1)) = levelsT (l.take k) ++ lineT (levelW l[k]) := flat_succ _ hk
theorem schemasT_succ {l : List Schema} {k : Nat} (hk : k < l.length) : schemasT (l.take (k + 1)) = schemasT (l.take k) ++ (lineT (schemaW l[k]) ++ rulesT l[k].rules) := flat_succ _ hk
theorem rulesT_succ {l : List Rule} {k : Nat} (hk : k < l.length) : rulesT (l.take (k + 1)) = rulesT (l.take k) ++ lineT (ruleW l[k]) := flat_succ _ hk
theorem Bld_lt {B b : Nat} {l : List UInt8} {w : World} (h : Bld B b l w) : b < w.heap.size := by
  rcases h with h | h
  · exact h.lt
  · exact h.lt
theorem schema_bounds {s : Schema} (h : schemaB s = true) : s.name.size ≤ 32 ∧ s.level.size ≤ 32 ∧ 1 ≤ s.rank ∧ s.rank ≤ 10000 ∧ 0 ≤ s.tells ∧ s.tells ≤ 2 ∧ s.rules.length ≤ 8 ∧ ∀ r ∈ s.rules, ruleB r = true := by
  unfold schemaB nameB within at h
  simp only [Bool.and_eq_true, decide_eq_true_eq, List.all_eq_true] at h
  refine ⟨by omega, by omega, by omega, by omega, by omega, by omega, by omega, h.2⟩
theorem byW_size (n : Int) : (byW n).size ≤ 600 := by
  unfold byW
  split
  · decide
  · split <;> decide
theorem schemaW_sizes {s : Schema} (h : schemaB s = true) : ∀ x ∈ schemaW s, x.size ≤ 600 := by
  have hb := schema_bounds h
  intro x hx
  simp only [schemaW, List.mem_cons, List.mem_nil_iff, or_false] at hx
  rcases hx with rfl | rfl | rfl | rfl | rfl
  · decide
  · omega
  · omega
  · exact Nat.le_trans (digitsT_size _ (by omega)) (by omega)
  · exact byW_size _
theorem joinT_size (xs : List ByteArray) : (joinT xs).size ≤ 600 := by
  rw [← data_length]
  unfold joinT
  split
  · next h =>
    split
    · decide
    · have hg := good_sizes h
      have := join_length xs [44] 64 (fun x hx => (hg.2 x hx).1)
      simp only [List.length_cons, List.length_nil] at this
      have e : xs.length * (64 + (0 + 1)) ≤ 8 * 65 := by omega
      show (Lib.join (xs.map (·.data.toList)) [44]).length ≤ 600
      omega
  · decide
theorem ruleW_sizes (r : Rule) : ∀ x ∈ ruleW r, x.size ≤ 600 := by
  intro x hx
  simp only [ruleW, List.mem_cons, List.mem_nil_iff, or_false] at hx
  rcases hx with rfl | rfl | rfl | rfl | rfl | rfl
  · decide
  all_goals exact joinT_size _
/-- What holds in Print's world behind the Builder's making: the Builder's bytes, the configuration's box. -/
structure PrintI (c : Config) (A B : Option Addr) (n m : Nat) (w : World) (b : Nat) (T : List UInt8) (k : Nat) (W : World) : Prop where
  bld : Bld w.heap.size b T W
  below : Below w.heap.size w W
  box : W.heap[w.heap.size]? = some (.cells #[.int .i64 c.total, .int .i64 c.period, .int .i64 c.perSeat, .int .i64 c.most, .slice A c.levels.length n, .slice B c.schemas.length m] 25 (0, 0))
  away : w.heap.size ≠ b
  len : T.length ≤ 10000 * k
theorem PrintI.step {c : Config} {A B : Option Addr} {n m : Nat} {w : World} {b k : Nat} {T : List UInt8} {W : World} (h : PrintI c A B n m w b T k W) {W' : World} (hb : Below W.heap.size W W') : PrintI c A B n m w b T k W' :=
  ⟨Bld_below h.bld hb, below_step h.below hb, blk_below h.box hb, h.away, h.len⟩
theorem PrintI.told {c : Config} {A B : Option Addr} {n m : Nat} {w : World} {b k : Nat} {T : List UInt8} {W : World} (h : PrintI c A B n m w b T k W) {W' : World} {xs : List ByteArray}
    (h1 : Bld w.heap.size b (T ++ lineT xs) W') (h2 : Below w.heap.size W W') (h3 : Oth b W W') (hx : ∀ x ∈ xs, x.size ≤ 600) (hl : xs.length ≤ 16) : PrintI c A B n m w b (T ++ lineT xs) (k + 1) W' :=
  ⟨h1, h.below.trans h2, oth_blk h3 h.box h.away (by decide), h.away, by have := lineT_length hx; have := h.len; rw [List.length_append]; omega⟩

theorem PrintI.drew {c : Config} {A B : Option Addr} {n m : Nat} {w : World} {b k : Nat} {T : List UInt8} {W : World} (h : PrintI c A B n m w b T k W) : PrintI c A B n m w b T k W.drew :=
  ⟨h.bld, below_drew h.below, h.box, h.away, h.len⟩
theorem PrintI.more {c : Config} {A B : Option Addr} {n m : Nat} {w : World} {b k : Nat} {T : List UInt8} {W : World} (h : PrintI c A B n m w b T k W) : PrintI c A B n m w b T (k + 1) W :=
  ⟨h.bld, h.below, h.box, h.away, by have := h.len; omega⟩

set_option maxHeartbeats 16000000 in
set_option maxRecDepth 100000 in
theorem print_calls (c : Config) (A B : Option Addr) (n m : Nat) (w : World) (hl : kLevel.C w A c.levels.length c.levels) (hn : c.levels.length ≤ n)
    (hs : kSchema.C w B c.schemas.length c.schemas) (hm : c.schemas.length ≤ m) (hc : ConfigS c) (ht : Tab w) :
    Calls Tryd.prog 15 #[.agg #[.int .i64 c.total, .int .i64 c.period, .int .i64 c.perSeat, .int .i64 c.most, .slice A c.levels.length n, .slice B c.schemas.length m]] w fun e w' =>
      e = .returned (.tuple #[.string (printT c).1, .int .i64 (printT c).2]) ∧ Below w.heap.size w w' := by
  have HL := Aside0.mk hl
  have HS := Aside0.mk hs
  have HC := Aside0.mk hc
  have HT := Aside0.mk ht
  clear hl hs hc ht
  have hu25 := Tryd.underlying25
  have hu40 := Tryd.underlying40
  have hu46 := Tryd.underlying46
  have hu53 := Tryd.underlying53
  have hu70 := Tryd.underlying70
  cases hf : formedB c with
  | false =>
    have HF := Aside0.mk (show printT c = (⟨#[]⟩, 2) by unfold printT; rw [if_pos hf])
    go_enter Tryd.func15, Tryd.ntmps15
    go_wp2_with (go_at_call 17; refine (formed_calls c A B n m _ (Kd.C_below HL.out (below_alloc (Below.refl _ _) _)) hn (Kd.C_below HS.out (below_alloc (Below.refl _ _) _)) hm HC.out).mono ?_; rintro e w1 ⟨rfl, hb1⟩; have H1 := Aside0.mk hb1; clear hb1)
    go_ret2
    exact ⟨by rw [HF.out]; rfl, below_step (below_alloc (Below.refl _ _) _) H1.out⟩
  | true =>
    have HF := Aside0.mk hf
    go_enter Tryd.func15, Tryd.ntmps15
    go_upto_if 19 with (go_at_call 17; refine (formed_calls c A B n m _ (Kd.C_below HL.out (below_alloc (Below.refl _ _) _)) hn (Kd.C_below HS.out (below_alloc (Below.refl _ _) _)) hm HC.out).mono ?_; rintro e w1 ⟨rfl, hb1⟩; rw [hf]; have H1 := Aside0.mk hb1; have X1 := Aside0.mk (blk_below (blk_new w _) hb1); have x0 : w1.cell? ⟨w.heap.size, 0, none⟩ = some (.int .i64 c.total) := (blk_cell X1.out 0).trans rfl; have z1 : w.heap.size < w1.heap.size := blk_lt X1.out; clear hb1)
    have I0 : Aside0 (PrintI c A B n m w w1.heap.size [] 0 (w1.alloc (.cells #[.pointer none, .slice none 0 0] 70))) :=
      ⟨⟨Bld_new _ _ (by omega), below_alloc (below_step (below_alloc (Below.refl _ _) _) H1.out) _, blk_alloc X1.out _, by omega, by simp⟩⟩
    obtain ⟨w2, hw2⟩ : ∃ w2, w2 = w1.alloc (.cells #[.pointer none, .slice none 0 0] 70) := ⟨_, rfl⟩
    have I0 : Aside0 (PrintI c A B n m w w1.heap.size [] 0 w2) := ⟨by rw [hw2]; exact I0.out⟩
    rw [← hw2]
    clear hw2 x0 z1 X1 H1
    generalize w1.heap.size = b at *
    have l1 : c.total ≤ 9223372036854775807 := by have := formed_nums HF.out; omega
    have l2 : c.period ≤ 9223372036854775807 := by have := formed_nums HF.out; omega
    have l3 : c.perSeat ≤ 9223372036854775807 := by have := formed_nums HF.out; omega
    have l4 : c.most ≤ 9223372036854775807 := by have := formed_nums HF.out; omega
    have x0 : w2.cell? ⟨w.heap.size, 0, none⟩ = some (.int .i64 c.total) := (blk_cell I0.out.box 0).trans rfl
    go_cut [] (fun wx => Aside0 (PrintI c A B n m w b ([] ++ totalT c) 1 wx))
    case first =>
      by_cases hq : 0 < c.total
      · have HQ := Aside0.mk (show totalT c = lineT [⟨#[116, 111, 116, 97, 108]⟩, digitsT c.total] by unfold totalT; rw [if_pos hq])
        go_wp2_with (first
          | (go_at_call 33; refine (digits_calls c.total (by assumption) _ (tab_of HT.out I0.out.below)).mono ?_; rintro e wd ⟨rfl, hb1⟩; have J := Aside0.mk (I0.out.step hb1); clear hb1)
          | (go_at_call 32; refine (tell_lit w.heap.size b [] [⟨#[116, 111, 116, 97, 108]⟩, digitsT c.total] wd _ 2 rfl rfl J.out.bld J.out.below.size (by simp) (by simp) (by intro x hx; simp only [List.mem_cons, List.mem_nil_iff, or_false] at hx; rcases hx with rfl | rfl <;> first | omega | decide | (refine Nat.le_trans (digitsT_size _ (by assumption)) (by omega))) (by have := J.out.len; omega)).mono ?_; rintro e we ⟨rfl, hb1, hb2, hb3⟩; have H1 := Aside0.mk hb1; have H2 := Aside0.mk hb2; have H3 := Aside0.mk hb3; clear hb1 hb2 hb3))
        go_meet
        rw [HQ.out]
        exact ⟨J.out.told H1.out H2.out H3.out (by intro x hx; simp only [List.mem_cons, List.mem_nil_iff, or_false] at hx; rcases hx with rfl | rfl <;> first | omega | decide | (refine Nat.le_trans (digitsT_size _ (by assumption)) (by omega))) (by simp)⟩
      · have HQ := Aside0.mk (show totalT c = [] by unfold totalT; rw [if_neg hq])
        go_wp2_with fail
        go_meet
        rw [HQ.out, List.append_nil]
        exact ⟨I0.out.more⟩
    case rest =>
    clear x0
    obtain ⟨w3, rfl⟩ : ∃ w3 : World, w3 = wc := ⟨_, rfl⟩
    have I1 : Aside0 (PrintI c A B n m w b ([] ++ totalT c) 1 w3) := hcut
    clear hcut
    have x1 : w3.cell? ⟨w.heap.size, 1, none⟩ = some (.int .i64 c.period) := (blk_cell I1.out.box 1).trans rfl
    go_upto_if 27 with fail
    have x1 : w3.cell? ⟨w.heap.size, 1, none⟩ = some (.int .i64 c.period) := (blk_cell I1.out.box 1).trans rfl
    go_cut [] (fun wx => Aside0 (PrintI c A B n m w b ([] ++ totalT c ++ periodT c) 2 wx))
    case first =>
      by_cases hq : 0 < c.period
      · have HQ := Aside0.mk (show periodT c = lineT [⟨#[112, 101, 114, 105, 111, 100]⟩, digitsT c.period] by unfold periodT; rw [if_pos hq])
        go_wp2_with (first
          | (go_at_call 33; refine (digits_calls c.period (by assumption) _ (tab_of HT.out I1.out.below)).mono ?_; rintro e wd ⟨rfl, hb1⟩; have J := Aside0.mk (I1.out.step hb1); clear hb1)
          | (go_at_call 32; refine (tell_lit w.heap.size b ([] ++ totalT c) [⟨#[112, 101, 114, 105, 111, 100]⟩, digitsT c.period] wd _ 2 rfl rfl J.out.bld J.out.below.size (by simp) (by simp) (by intro x hx; simp only [List.mem_cons, List.mem_nil_iff, or_false] at hx; rcases hx with rfl | rfl <;> first | omega | decide | (refine Nat.le_trans (digitsT_size _ (by assumption)) (by omega))) (by have := J.out.len; omega)).mono ?_; rintro e we ⟨rfl, hb1, hb2, hb3⟩; have H1 := Aside0.mk hb1; have H2 := Aside0.mk hb2; have H3 := Aside0.mk hb3; clear hb1 hb2 hb3))
        go_meet
        rw [HQ.out]
        exact ⟨J.out.told H1.out H2.out H3.out (by intro x hx; simp only [List.mem_cons, List.mem_nil_iff, or_false] at hx; rcases hx with rfl | rfl <;> first | omega | decide | (refine Nat.le_trans (digitsT_size _ (by assumption)) (by omega))) (by simp)⟩
      · have HQ := Aside0.mk (show periodT c = [] by unfold periodT; rw [if_neg hq])
        go_wp2_with fail
        go_meet
        rw [HQ.out, List.append_nil]
        exact ⟨I1.out.more⟩
    case rest =>
    clear x1
    obtain ⟨w4, rfl⟩ : ∃ w4 : World, w4 = wc := ⟨_, rfl⟩
    have I2 : Aside0 (PrintI c A B n m w b ([] ++ totalT c ++ periodT c) 2 w4) := hcut
    clear hcut
    have x2 : w4.cell? ⟨w.heap.size, 2, none⟩ = some (.int .i64 c.perSeat) := (blk_cell I2.out.box 2).trans rfl
    go_upto_if 35 with fail
    have x3 : w4.cell? ⟨w.heap.size, 3, none⟩ = some (.int .i64 c.most) := (blk_cell I2.out.box 3).trans rfl
    go_cut [] (fun wx => Aside0 (PrintI c A B n m w b ([] ++ totalT c ++ periodT c ++ seatsT c) 3 wx))
    case first =>
      by_cases hq : 0 < c.perSeat
      · have HQ := Aside0.mk (show seatsT c = lineT [⟨#[115, 101, 97, 116, 115]⟩, digitsT c.perSeat, digitsT c.most] by unfold seatsT; rw [if_pos hq])
        go_wp2_with fail
        go_region_held3 (fun w' => w'.cell? ⟨w.heap.size, 2, none⟩ = some (.int .i64 c.perSeat) ∧ w'.cell? ⟨w.heap.size, 3, none⟩ = some (.int .i64 c.most))
          (go_keep)
          (first
            | (go_at_call 33; refine (digits_calls c.perSeat l3 _ (tab_of HT.out (below_drew I2.out.below))).mono ?_; rintro e wd ⟨rfl, hb1⟩; have J := Aside0.mk (I2.out.drew.step hb1); have t2 : wd.cell? ⟨w.heap.size, 2, none⟩ = some (.int .i64 c.perSeat) := (blk_cell J.out.box 2).trans rfl; have t3 : wd.cell? ⟨w.heap.size, 3, none⟩ = some (.int .i64 c.most) := (blk_cell J.out.box 3).trans rfl; clear hb1)
            | (go_at_call 33; refine (digits_calls c.most l4 _ (tab_of HT.out J.out.below)).mono ?_; rintro e wf ⟨rfl, hb1⟩; have J2 := Aside0.mk (J.out.step hb1); have t2 : wf.cell? ⟨w.heap.size, 2, none⟩ = some (.int .i64 c.perSeat) := (blk_cell J2.out.box 2).trans rfl; have t3 : wf.cell? ⟨w.heap.size, 3, none⟩ = some (.int .i64 c.most) := (blk_cell J2.out.box 3).trans rfl; clear hb1)
            | (go_at_call 32; refine (tell_lit w.heap.size b ([] ++ totalT c ++ periodT c) [⟨#[115, 101, 97, 116, 115]⟩, digitsT c.perSeat, digitsT c.most] wf _ 3 rfl rfl J2.out.bld J2.out.below.size (by simp) (by simp) (by intro x hx; simp only [List.mem_cons, List.mem_nil_iff, or_false] at hx; rcases hx with rfl | rfl | rfl <;> first | omega | decide | (refine Nat.le_trans (digitsT_size _ (by assumption)) (by omega))) (by have := J2.out.len; omega)).mono ?_; rintro e we ⟨rfl, hb1, hb2, hb3⟩; have J3 := Aside0.mk (J2.out.told hb1 hb2 hb3 (by intro x hx; simp only [List.mem_cons, List.mem_nil_iff, or_false] at hx; rcases hx with rfl | rfl | rfl <;> first | omega | decide | (refine Nat.le_trans (digitsT_size _ (by assumption)) (by omega))) (by simp)); have t2 : we.cell? ⟨w.heap.size, 2, none⟩ = some (.int .i64 c.perSeat) := (blk_cell J3.out.box 2).trans rfl; have t3 : we.cell? ⟨w.heap.size, 3, none⟩ = some (.int .i64 c.most) := (blk_cell J3.out.box 3).trans rfl; clear hb1 hb2 hb3))
        go_wp2_with fail
        go_meet
        rw [HQ.out]
        exact J3
      · have HQ := Aside0.mk (show seatsT c = [] by unfold seatsT; rw [if_neg hq])
        go_wp2_with fail
        go_meet
        rw [HQ.out, List.append_nil]
        exact ⟨I2.out.more⟩
    case rest =>
    clear x2 x3
    obtain ⟨w5, rfl⟩ : ∃ w5 : World, w5 = wc := ⟨_, rfl⟩
    have I3 : Aside0 (PrintI c A B n m w b ([] ++ totalT c ++ periodT c ++ seatsT c) 3 w5) := hcut
    clear hcut
    obtain ⟨H, hH⟩ : ∃ H, H = ([] ++ totalT c ++ periodT c ++ seatsT c) := ⟨_, rfl⟩
    have EH := Aside0.mk hH
    have I3 : Aside0 (PrintI c A B n m w b H 3 w5) := ⟨by rw [hH]; exact I3.out⟩
    clear hH
    have x4 : w5.cell? ⟨w.heap.size, 4, none⟩ = some (.slice A c.levels.length n) := (blk_cell I3.out.box 4).trans rfl
    have hll := HC.out.llen
    have hsl := HC.out.slen
    go_wp2_with fail
    clear x4
    go_loopw [47] (fun v wr => ∃ k : Nat, k ≤ c.levels.length ∧ v = .int .i64 k ∧ Aside0 (PrintI c A B n m w b (H ++ levelsT (c.levels.take k)) (3 + k) wr)) (fun v _ => c.levels.length - (intOf v).toNat)
    case atStart => exact ⟨0, Nat.zero_le _, rfl, ⟨by simpa [levelsT] using I3.out⟩⟩
    case round =>
      clear I3
      obtain ⟨wo, rfl⟩ : ∃ wo : World, wo = wr := ⟨_, rfl⟩
      obtain ⟨k, hk, rfl, I⟩ := hrel
      have h16 : c.levels.length ≤ 16 := by have := formed_nums HF.out; omega
      by_cases hlt : k < c.levels.length
      · obtain ⟨ad, e, h0, h1, h2, h3, h4, h5, h6, h7, h8, h9⟩ := level_at (Kd.C_below HL.out I.out.below) k hlt
        subst e
        have hN := levelN_of ((formed_parts HF.out).1 _ (List.getElem_mem hlt))
        have HN := Aside0.mk hN
        clear hN
        go_wp2_with (go_at_call 34; refine (tellLevel_calls w.heap.size b (H ++ levelsT (c.levels.take k)) c.levels[k] _ (I.out.step (below_alloc (Below.refl _ _) _)).bld (I.out.step (below_alloc (Below.refl _ _) _)).below.size (tab_of HT.out (I.out.step (below_alloc (Below.refl _ _) _)).below) HN.out (by have := I.out.len; omega)).mono ?_; rintro e we ⟨rfl, hb1, hb2, hb3⟩; have J := Aside0.mk ((I.out.step (below_alloc (Below.refl _ _) _)).told hb1 hb2 hb3 (levelW_sizes HN.out) (levelW_len _)); clear hb1 hb2 hb3)
        go_roundw
        case rel => exact ⟨k + 1, by omega, by go_num, ⟨by rw [levelsT_succ hlt, ← List.append_assoc]; exact J.out⟩⟩
        case measure => simp [intOf]; omega
      · obtain rfl : k = c.levels.length := by omega
        have I4 : Aside0 (PrintI c A B n m w b (H ++ levelsT c.levels) 19 wo) := ⟨by have := I.out; rw [List.take_length] at this; exact ⟨this.bld, this.below, this.box, this.away, by have := this.len; omega⟩⟩
        clear I
        have x5 : wo.cell? ⟨w.heap.size, 5, none⟩ = some (.slice B c.schemas.length m) := (blk_cell I4.out.box 5).trans rfl
        go_wp2_with fail
        clear x5
        obtain ⟨G, hG⟩ : ∃ G, G = H ++ levelsT c.levels := ⟨_, rfl⟩
        have EG := Aside0.mk hG
        have I4 : Aside0 (PrintI c A B n m w b G 19 wo) := ⟨by rw [hG]; exact I4.out⟩
        clear hG
        go_loopw [57] (fun v wr => ∃ k : Nat, k ≤ c.schemas.length ∧ v = .int .i64 k ∧ Aside0 (PrintI c A B n m w b (G ++ schemasT (c.schemas.take k)) (19 + 9 * k) wr)) (fun v _ => c.schemas.length - (intOf v).toNat)
        case atStart => exact ⟨0, Nat.zero_le _, rfl, ⟨by simpa [schemasT] using I4.out⟩⟩
        case round =>
          clear I4
          obtain ⟨wq, rfl⟩ : ∃ wq : World, wq = wr := ⟨_, rfl⟩
          obtain ⟨k, hk, rfl, I⟩ := hrel
          have h32 : c.schemas.length ≤ 32 := by have := formed_nums HF.out; omega
          by_cases hlt : k < c.schemas.length
          · obtain ⟨ad, A4, c4, e, h0, h1, h2, h3, h4, g4⟩ := schema_at HS.out k hlt
            subst e
            have G4 := Aside0.mk g4
            have SB := Aside0.mk ((formed_parts HF.out).2 _ (List.getElem_mem hlt))
            have SC := Aside0.mk (HC.out.schemas _ (List.getElem_mem hlt))
            have l5 : c.schemas[k].rank ≤ 9223372036854775807 := by have := schema_bounds SB.out; omega
            have h8 : c.schemas[k].rules.length ≤ 8 := (schema_bounds SB.out).2.2.2.2.2.2.1
            have q0 := pw_cell_below I.out.below h0
            have q1 := pw_cell_below I.out.below h1
            have q2 := pw_cell_below I.out.below h2
            have q3 := pw_cell_below I.out.below h3
            have q4 := pw_cell_below I.out.below h4
            clear h0 h1 h2 h3 h4 g4
            go_wp2_with fail
            clear q0 q1 q2 q3 q4
            have hbq : b < wq.heap.size := Bld_lt I.out.bld
            have J0 := Aside0.mk (I.out.step (below_alloc (Below.refl wq.heap.size wq) (.cells #[.string c.schemas[k].name, .string c.schemas[k].level, .int .i64 c.schemas[k].rank, .int .i64 c.schemas[k].tells, .slice A4 c.schemas[k].rules.length c4] 46)))
            obtain ⟨ws, hws⟩ : ∃ ws, ws = wq.alloc (.cells #[.string c.schemas[k].name, .string c.schemas[k].level, .int .i64 c.schemas[k].rank, .int .i64 c.schemas[k].tells, .slice A4 c.schemas[k].rules.length c4] 46) := ⟨_, rfl⟩
            have XS0 : Aside0 (ws.heap[wq.heap.size]? = some (.cells #[.string c.schemas[k].name, .string c.schemas[k].level, .int .i64 c.schemas[k].rank, .int .i64 c.schemas[k].tells, .slice A4 c.schemas[k].rules.length c4] 46 (0, 0))) := ⟨by rw [hws]; exact blk_new _ _⟩
            have J0 : Aside0 (PrintI c A (some ad) n m w b (G ++ schemasT (c.schemas.take k)) (19 + 9 * k) ws) := ⟨by rw [hws]; exact J0.out⟩
            rw [← hws]
            clear hws
            have t0 : ws.cell? ⟨wq.heap.size, 0, none⟩ = some (.string c.schemas[k].name) := (blk_cell XS0.out 0).trans rfl
            have t1 : ws.cell? ⟨wq.heap.size, 1, none⟩ = some (.string c.schemas[k].level) := (blk_cell XS0.out 1).trans rfl
            have t2 : ws.cell? ⟨wq.heap.size, 2, none⟩ = some (.int .i64 c.schemas[k].rank) := (blk_cell XS0.out 2).trans rfl
            have t3 : ws.cell? ⟨wq.heap.size, 3, none⟩ = some (.int .i64 c.schemas[k].tells) := (blk_cell XS0.out 3).trans rfl
            go_region_held3 (fun w' => w'.cell? ⟨wq.heap.size, 0, none⟩ = some (.string c.schemas[k].name) ∧ w'.cell? ⟨wq.heap.size, 1, none⟩ = some (.string c.schemas[k].level) ∧ w'.cell? ⟨wq.heap.size, 2, none⟩ = some (.int .i64 c.schemas[k].rank) ∧ w'.cell? ⟨wq.heap.size, 3, none⟩ = some (.int .i64 c.schemas[k].tells))
              (go_keep)
              (first
                | (go_at_call 33; refine (digits_calls c.schemas[k].rank l5 _ (tab_of HT.out (below_drew J0.out.below))).mono ?_; rintro e wd ⟨rfl, hb1⟩; have J1 := Aside0.mk (J0.out.drew.step hb1); have XS1 := Aside0.mk (blk_below (blk_drew XS0.out) hb1); have t0 : wd.cell? ⟨wq.heap.size, 0, none⟩ = some (.string c.schemas[k].name) := (blk_cell XS1.out 0).trans rfl; have t1 : wd.cell? ⟨wq.heap.size, 1, none⟩ = some (.string c.schemas[k].level) := (blk_cell XS1.out 1).trans rfl; have t2 : wd.cell? ⟨wq.heap.size, 2, none⟩ = some (.int .i64 c.schemas[k].rank) := (blk_cell XS1.out 2).trans rfl; have t3 : wd.cell? ⟨wq.heap.size, 3, none⟩ = some (.int .i64 c.schemas[k].tells) := (blk_cell XS1.out 3).trans rfl; clear hb1)
                | (go_at_call 35; refine (by_calls c.schemas[k].tells _).mono ?_; rintro e wf ⟨rfl, rfl⟩)
                | (go_at_call 32; refine (tell_lit w.heap.size b (G ++ schemasT (c.schemas.take k)) [⟨#[115, 99, 104, 101, 109, 97]⟩, c.schemas[k].name, c.schemas[k].level, digitsT c.schemas[k].rank, byW c.schemas[k].tells] _ _ 5 rfl rfl J1.out.bld J1.out.below.size (by simp) (by simp) (schemaW_sizes SB.out) (by have := J1.out.len; omega)).mono ?_; rintro e we ⟨rfl, hb1, hb2, hb3⟩; have J2 := Aside0.mk (J1.out.told (xs := schemaW c.schemas[k]) hb1 hb2 hb3 (schemaW_sizes SB.out) (by simp [schemaW])); have XS2 := Aside0.mk (oth_blk hb3 XS1.out (by omega) (by decide)); have t0 : we.cell? ⟨wq.heap.size, 0, none⟩ = some (.string c.schemas[k].name) := (blk_cell XS2.out 0).trans rfl; have t1 : we.cell? ⟨wq.heap.size, 1, none⟩ = some (.string c.schemas[k].level) := (blk_cell XS2.out 1).trans rfl; have t2 : we.cell? ⟨wq.heap.size, 2, none⟩ = some (.int .i64 c.schemas[k].rank) := (blk_cell XS2.out 2).trans rfl; have t3 : we.cell? ⟨wq.heap.size, 3, none⟩ = some (.int .i64 c.schemas[k].tells) := (blk_cell XS2.out 3).trans rfl; clear hb1 hb2 hb3))
            clear t0 t1 t2 t3
            have t4 : we.cell? ⟨wq.heap.size, 4, none⟩ = some (.slice A4 c.schemas[k].rules.length c4) := (blk_cell XS2.out 4).trans rfl
            go_wp2_with fail
            clear t4
            obtain ⟨D, hD⟩ : ∃ D, D = G ++ schemasT (c.schemas.take k) ++ lineT (schemaW c.schemas[k]) := ⟨_, rfl⟩
            have ED := Aside0.mk hD
            have J2 : Aside0 (PrintI c A (some ad) n m w b D (20 + 9 * k) we) := ⟨by have := J2.out; rw [hD]; exact ⟨this.bld, this.below, this.box, this.away, by have := this.len; omega⟩⟩
            have hsr := SC.out.len
            clear hD J0 J1 XS0 XS1 XS2 I
            go_loopw [76] (fun v wr => ∃ j : Nat, j ≤ c.schemas[k].rules.length ∧ v = .int .i64 j ∧ Aside0 (PrintI c A (some ad) n m w b (D ++ rulesT (c.schemas[k].rules.take j)) (20 + 9 * k + j) wr)) (fun v _ => c.schemas[k].rules.length - (intOf v).toNat)
            case atStart => exact ⟨0, Nat.zero_le _, rfl, ⟨by simpa [rulesT] using J2.out⟩⟩
            case round =>
              clear J2
              obtain ⟨j, hj, rfl, I⟩ := hrel
              by_cases hjl : j < c.schemas[k].rules.length
              · obtain ⟨ar, A0, c0, A1, c1, A2, c2, A3, c3, A5, c5, e, h0, h1, h2, h3, h4, g0, g1, g2, g3, g5⟩ := rule_at G4.out.2 j hjl
                subst e
                have RS := Aside0.mk (SC.out.rules _ (List.getElem_mem hjl))
                have G0 := Aside0.mk g0
                have G1 := Aside0.mk g1
                have G2 := Aside0.mk g2
                have G3 := Aside0.mk g3
                have G5 := Aside0.mk g5
                have q0 := pw_cell_below I.out.below h0
                have q1 := pw_cell_below I.out.below h1
                have q2 := pw_cell_below I.out.below h2
                have q3 := pw_cell_below I.out.below h3
                have q4 := pw_cell_below I.out.below h4
                clear h0 h1 h2 h3 h4 g0 g1 g2 g3 g5
                go_wp2_with (go_at_call 36; refine (lists_calls _ _ _ _ _ _ _ _ _ _ _ _ _ _ _ _).mono ?_; rintro e w5 ⟨rfl, hb1⟩; have R5 := Aside0.mk (Kd.R_below (lit_R _ [⟨#[114, 117, 108, 101]⟩] wr.heap.size (by simp) (by simp)) hb1); have L5 := Aside0.mk (below_step (below_alloc (below_alloc (Below.refl wr.heap.size wr) _) _) hb1); clear hb1)
                clear q0 q1 q2 q3 q4
                have R5 : Aside0 (Kd.string.R 9 w5 wr.heap.size (fun _ => True) (.slice (some ⟨wr.heap.size + 1, 0, none⟩) 1 1) [⟨#[114, 117, 108, 101]⟩]) := ⟨by simpa using R5.out⟩
                refine wp_loop_rounds 6 ?_
                rw [rounds_succ]
                go_wp2_with (first
                  | (go_at_call 37; refine (join_calls _ _ _ _ (Kd.C_below G0.out.2 (below_step I.out.below L5.out)) (RS.out.users).1 G0.out.1 (RS.out.users).2).mono ?_; rintro e wd0 ⟨rfl, hb1⟩; have Rd0 := Aside0.mk (Kd.R_below R5.out hb1); have Ld0 := Aside0.mk (below_step L5.out hb1); clear hb1)
                  | ((with_reducible refine gate_builtin (b := .append) (xs := #[.tmp 86, .tmp 89]) rfl ?_); at_builtin; refine Kd.R_append Kd.string (w0 := wr) wr.heap.size rfl (.tmp 86) (.tmp 89) 51 9 (.string ⟨#[]⟩) 16 rfl Tryd.underlying51 infoStr rfl (by decide) (by omega) _ [⟨#[114, 117, 108, 101]⟩] (joinT c.schemas[k].rules[j].users) [.string (joinT c.schemas[k].rules[j].users)] (fun _ => True) (fun _ => False) rfl rfl rfl (fun _ h => h.elim) (fun _ _ => trivial) Rd0.out Ld0.out Ld0.out.size (by simp) ?_; intro v6 w6 ho hb _ _; obtain ⟨Z6, z6, rfl, hc6, hC6⟩ := Kd.R_reads ho; have R6 : Aside0 (Kd.string.R 9 w6 wr.heap.size (fun _ => True) (.slice Z6 2 z6) [⟨#[114, 117, 108, 101]⟩, joinT c.schemas[k].rules[j].users]) := ⟨ho⟩; have L6 := Aside0.mk hb; have C6 : Aside0 (Kd.string.C w6 Z6 2 [⟨#[114, 117, 108, 101]⟩, joinT c.schemas[k].rules[j].users]) := ⟨hC6⟩; have q6 : 2 ≤ z6 := hc6; clear ho hC6 hc6; clear hb))
                rw [rounds_succ]
                go_wp2_with (first
                  | (go_at_call 37; refine (join_calls _ _ _ _ (Kd.C_below G1.out.2 (below_step I.out.below L6.out)) (RS.out.groups).1 G1.out.1 (RS.out.groups).2).mono ?_; rintro e wd1 ⟨rfl, hb1⟩; have Rd1 := Aside0.mk (Kd.R_below R6.out hb1); have Ld1 := Aside0.mk (below_step L6.out hb1); clear hb1)
                  | ((with_reducible refine gate_builtin (b := .append) (xs := #[.tmp 86, .tmp 89]) rfl ?_); at_builtin; refine Kd.R_append Kd.string (w0 := wr) wr.heap.size rfl (.tmp 86) (.tmp 89) 51 9 (.string ⟨#[]⟩) 16 rfl Tryd.underlying51 infoStr rfl (by decide) (by omega) _ [⟨#[114, 117, 108, 101]⟩, joinT c.schemas[k].rules[j].users] (joinT c.schemas[k].rules[j].groups) [.string (joinT c.schemas[k].rules[j].groups)] (fun _ => True) (fun _ => False) rfl rfl rfl (fun _ h => h.elim) (fun _ _ => trivial) Rd1.out Ld1.out Ld1.out.size (by simp) ?_; intro v7 w7 ho hb _ _; obtain ⟨Z7, z7, rfl, hc7, hC7⟩ := Kd.R_reads ho; have R7 : Aside0 (Kd.string.R 9 w7 wr.heap.size (fun _ => True) (.slice Z7 3 z7) [⟨#[114, 117, 108, 101]⟩, joinT c.schemas[k].rules[j].users, joinT c.schemas[k].rules[j].groups]) := ⟨ho⟩; have L7 := Aside0.mk hb; have C7 : Aside0 (Kd.string.C w7 Z7 3 [⟨#[114, 117, 108, 101]⟩, joinT c.schemas[k].rules[j].users, joinT c.schemas[k].rules[j].groups]) := ⟨hC7⟩; have q7 : 3 ≤ z7 := hc7; clear ho hC7 hc7; clear hb))
                rw [rounds_succ]
                go_wp2_with (first
                  | (go_at_call 37; refine (join_calls _ _ _ _ (Kd.C_below G2.out.2 (below_step I.out.below L7.out)) (RS.out.verbs).1 G2.out.1 (RS.out.verbs).2).mono ?_; rintro e wd2 ⟨rfl, hb1⟩; have Rd2 := Aside0.mk (Kd.R_below R7.out hb1); have Ld2 := Aside0.mk (below_step L7.out hb1); clear hb1)
                  | ((with_reducible refine gate_builtin (b := .append) (xs := #[.tmp 86, .tmp 89]) rfl ?_); at_builtin; refine Kd.R_append Kd.string (w0 := wr) wr.heap.size rfl (.tmp 86) (.tmp 89) 51 9 (.string ⟨#[]⟩) 16 rfl Tryd.underlying51 infoStr rfl (by decide) (by omega) _ [⟨#[114, 117, 108, 101]⟩, joinT c.schemas[k].rules[j].users, joinT c.schemas[k].rules[j].groups] (joinT c.schemas[k].rules[j].verbs) [.string (joinT c.schemas[k].rules[j].verbs)] (fun _ => True) (fun _ => False) rfl rfl rfl (fun _ h => h.elim) (fun _ _ => trivial) Rd2.out Ld2.out Ld2.out.size (by simp) ?_; intro v8 w8 ho hb _ _; obtain ⟨Z8, z8, rfl, hc8, hC8⟩ := Kd.R_reads ho; have R8 : Aside0 (Kd.string.R 9 w8 wr.heap.size (fun _ => True) (.slice Z8 4 z8) [⟨#[114, 117, 108, 101]⟩, joinT c.schemas[k].rules[j].users, joinT c.schemas[k].rules[j].groups, joinT c.schemas[k].rules[j].verbs]) := ⟨ho⟩; have L8 := Aside0.mk hb; have C8 : Aside0 (Kd.string.C w8 Z8 4 [⟨#[114, 117, 108, 101]⟩, joinT c.schemas[k].rules[j].users, joinT c.schemas[k].rules[j].groups, joinT c.schemas[k].rules[j].verbs]) := ⟨hC8⟩; have q8 : 4 ≤ z8 := hc8; clear ho hC8 hc8; clear hb))
                rw [rounds_succ]
                go_wp2_with (first
                  | (go_at_call 37; refine (join_calls _ _ _ _ (Kd.C_below G3.out.2 (below_step I.out.below L8.out)) (RS.out.resources).1 G3.out.1 (RS.out.resources).2).mono ?_; rintro e wd3 ⟨rfl, hb1⟩; have Rd3 := Aside0.mk (Kd.R_below R8.out hb1); have Ld3 := Aside0.mk (below_step L8.out hb1); clear hb1)
                  | ((with_reducible refine gate_builtin (b := .append) (xs := #[.tmp 86, .tmp 89]) rfl ?_); at_builtin; refine Kd.R_append Kd.string (w0 := wr) wr.heap.size rfl (.tmp 86) (.tmp 89) 51 9 (.string ⟨#[]⟩) 16 rfl Tryd.underlying51 infoStr rfl (by decide) (by omega) _ [⟨#[114, 117, 108, 101]⟩, joinT c.schemas[k].rules[j].users, joinT c.schemas[k].rules[j].groups, joinT c.schemas[k].rules[j].verbs] (joinT c.schemas[k].rules[j].resources) [.string (joinT c.schemas[k].rules[j].resources)] (fun _ => True) (fun _ => False) rfl rfl rfl (fun _ h => h.elim) (fun _ _ => trivial) Rd3.out Ld3.out Ld3.out.size (by simp) ?_; intro v9 w9 ho hb _ _; obtain ⟨Z9, z9, rfl, hc9, hC9⟩ := Kd.R_reads ho; have R9 : Aside0 (Kd.string.R 9 w9 wr.heap.size (fun _ => True) (.slice Z9 5 z9) [⟨#[114, 117, 108, 101]⟩, joinT c.schemas[k].rules[j].users, joinT c.schemas[k].rules[j].groups, joinT c.schemas[k].rules[j].verbs, joinT c.schemas[k].rules[j].resources]) := ⟨ho⟩; have L9 := Aside0.mk hb; have C9 : Aside0 (Kd.string.C w9 Z9 5 [⟨#[114, 117, 108, 101]⟩, joinT c.schemas[k].rules[j].users, joinT c.schemas[k].rules[j].groups, joinT c.schemas[k].rules[j].verbs, joinT c.schemas[k].rules[j].resources]) := ⟨hC9⟩; have q9 : 5 ≤ z9 := hc9; clear ho hC9 hc9; clear hb))
                rw [rounds_succ]
                go_wp2_with (first
                  | (go_at_call 37; refine (join_calls _ _ _ _ (Kd.C_below G5.out.2 (below_step I.out.below L9.out)) (RS.out.spaces).1 G5.out.1 (RS.out.spaces).2).mono ?_; rintro e wd4 ⟨rfl, hb1⟩; have Rd4 := Aside0.mk (Kd.R_below R9.out hb1); have Ld4 := Aside0.mk (below_step L9.out hb1); clear hb1)
                  | ((with_reducible refine gate_builtin (b := .append) (xs := #[.tmp 86, .tmp 89]) rfl ?_); at_builtin; refine Kd.R_append Kd.string (w0 := wr) wr.heap.size rfl (.tmp 86) (.tmp 89) 51 9 (.string ⟨#[]⟩) 16 rfl Tryd.underlying51 infoStr rfl (by decide) (by omega) _ [⟨#[114, 117, 108, 101]⟩, joinT c.schemas[k].rules[j].users, joinT c.schemas[k].rules[j].groups, joinT c.schemas[k].rules[j].verbs, joinT c.schemas[k].rules[j].resources] (joinT c.schemas[k].rules[j].spaces) [.string (joinT c.schemas[k].rules[j].spaces)] (fun _ => True) (fun _ => False) rfl rfl rfl (fun _ h => h.elim) (fun _ _ => trivial) Rd4.out Ld4.out Ld4.out.size (by simp) ?_; intro v10 w10 ho hb _ _; obtain ⟨Z10, z10, rfl, hc10, hC10⟩ := Kd.R_reads ho; have R10 : Aside0 (Kd.string.R 9 w10 wr.heap.size (fun _ => True) (.slice Z10 6 z10) [⟨#[114, 117, 108, 101]⟩, joinT c.schemas[k].rules[j].users, joinT c.schemas[k].rules[j].groups, joinT c.schemas[k].rules[j].verbs, joinT c.schemas[k].rules[j].resources, joinT c.schemas[k].rules[j].spaces]) := ⟨ho⟩; have L10 := Aside0.mk hb; have C10 : Aside0 (Kd.string.C w10 Z10 6 [⟨#[114, 117, 108, 101]⟩, joinT c.schemas[k].rules[j].users, joinT c.schemas[k].rules[j].groups, joinT c.schemas[k].rules[j].verbs, joinT c.schemas[k].rules[j].resources, joinT c.schemas[k].rules[j].spaces]) := ⟨hC10⟩; have q10 : 6 ≤ z10 := hc10; clear ho hC10 hc10; clear hb))
                rw [rounds_succ]
                go_wp2_with fail
                refine (tell_n w.heap.size b (D ++ rulesT (c.schemas[k].rules.take j)) _ _ (ruleW c.schemas[k].rules[j]) _ 6 rfl (I.out.step L10.out).bld (I.out.step L10.out).below.size C10.out (by simp [ruleW]) q10 (by simp [ruleW]) (ruleW_sizes _) (by have := I.out.len; omega)).mono ?_
                rintro e w9 ⟨rfl, hb1, hb2, hb3⟩
                have K1 := Aside0.mk ((I.out.step L10.out).told hb1 hb2 hb3 (ruleW_sizes _) (by simp [ruleW]))
                clear hb1 hb2 hb3
                go_wp2_with fail
                go_roundw
                case rel => exact ⟨j + 1, by omega, by go_num, ⟨by rw [rulesT_succ hjl, ← List.append_assoc]; exact K1.out⟩⟩
                case measure => simp [intOf]; omega
              · obtain rfl : j = c.schemas[k].rules.length := by omega
                have K1 : Aside0 (PrintI c A (some ad) n m w b (G ++ schemasT (c.schemas.take (k + 1))) (19 + 9 * (k + 1)) wr) := ⟨by
                  have := I.out
                  rw [List.take_length, ED.out, List.append_assoc, List.append_assoc, ← schemasT_succ hlt] at this
                  exact ⟨this.bld, this.below, this.box, this.away, by have := this.len; omega⟩⟩
                clear I
                go_wp2_with fail
                go_roundw
                case rel => exact ⟨k + 1, by omega, by go_num, K1⟩
                case measure => simp [intOf]; omega
          · obtain rfl : k = c.schemas.length := by omega
            have I5 : Aside0 (PrintI c A B n m w b (G ++ schemasT c.schemas) (19 + 9 * c.schemas.length) wq) := ⟨by have := I.out; rw [List.take_length] at this; exact this⟩
            have ET : Aside0 (G ++ schemasT c.schemas = textT c) := ⟨by rw [EG.out, EH.out]; simp [textT]⟩
            have I5 : Aside0 (PrintI c A B n m w b (textT c) (19 + 9 * c.schemas.length) wq) := ⟨by rw [← ET.out]; exact I5.out⟩
            clear I
            by_cases hlen : 65536 < (textT c).length
            · have HP := Aside0.mk (show printT c = (⟨#[]⟩, 3) by unfold printT; rw [HF.out, if_neg (by simp), if_pos hlen])
              have e1 : decide (65536 < ((Lib.byteCells (textT c)).length : Int)) = true := decide_eq_true (by rw [Lib.byteCells_length]; omega)
              clear hlen
              go_wp2_with (go_at_call 38; refine (Tryd.Builder_Len_f w.heap.size b _ _ I5.out.bld).mono ?_; rintro e w7 ⟨rfl, rfl⟩)
              go_ret2
              exact ⟨by rw [HP.out]; rfl, I5.out.below⟩
            · have HP := Aside0.mk (show printT c = (⟨(textT c).toArray⟩, 0) by unfold printT; rw [HF.out, if_neg (by simp), if_neg hlen])
              have e1 : decide (65536 < ((Lib.byteCells (textT c)).length : Int)) = false := decide_eq_false (by rw [Lib.byteCells_length]; omega)
              clear hlen
              go_wp2_with (first
                | (go_at_call 38; refine (Tryd.Builder_Len_f w.heap.size b _ _ I5.out.bld).mono ?_; rintro e w7 ⟨rfl, rfl⟩)
                | (go_at_call 39; refine (Tryd.Builder_String_any_k w.heap.size b (textT c) _ I5.out.bld I5.out.below.size).mono ?_; rintro e w8 ⟨rfl, hb1, hb2, hb3⟩; have J := Aside0.mk hb2; clear hb1 hb2 hb3))
              go_ret2
              exact ⟨by rw [HP.out]; rfl, I5.out.below.trans J.out⟩
end Go.Proofs.YtcgadbojojkchaaDoor.U
