/- The walks of usherlaw11.awake and PrintPart. -/
import Derived.Test.YtcgadbojojkchaaDoorWh
import Derived.Test.YtcgadbojojkchaaDoorWj
set_option linter.unusedVariables false
set_option linter.unusedSimpArgs false
namespace Go.Proofs.YtcgadbojojkchaaDoor.U
open Go.RowKit Go.Proofs.YtcgadbojojkchaaDoorW.PrintWords Go.Proofs.YtcgadbojojkchaaDoorW.PrintLast Go.Proofs.YtcgadbojojkchaaDoorW.PrintMore

theorem nil_C {α : Type} (d : Kd α) (w : World) (A : Option Addr) : d.C w A 0 [] := ⟨rfl, by omega, fun h => absurd h (Nat.lt_irrefl 0)⟩
theorem lit1_C {α : Type} (d : Kd α) (W : World) (x : α) (cs : List Value) (e : Nat) (hl : cs.length = d.sz) (hK : d.K (W.alloc (.cells cs.toArray e (0, 0))) x cs) : d.C (W.alloc (.cells cs.toArray e (0, 0))) (some ⟨W.heap.size, 0, none⟩) 1 [x] := by
  refine ⟨rfl, by omega, fun _ => ⟨_, rfl, fun j p hj => ?_⟩⟩
  cases j with
  | succ j => simp at hj
  | zero =>
    obtain rfl : x = p := by simpa using hj
    refine ⟨cs, hl, hK, fun i u hu => ?_⟩
    rw [Nat.zero_mul, Nat.zero_add, add_plain, blk_cell (blk_new _ _)]
    simpa using hu

def awakeL : Level := ⟨⟨#[97]⟩, 2, 5, 0, -1, 0, 0, 0, 0, 0⟩
def awakeC : Config := ⟨10, 0, 0, 0, [awakeL], []⟩
def awakeS : ByteArray := ⟨#[116, 111, 116, 97, 108, 32, 49, 48, 10, 108, 101, 118, 101, 108, 32, 97, 32, 53, 32, 48, 32, 97, 108, 108, 32, 114, 101, 106, 101, 99, 116, 10]⟩
theorem awake_print : printT awakeC = (awakeS, 0) := by
  kernel_rfl
theorem awake_cfg : ConfigS awakeC := ⟨by simp [awakeC], by intro l hl; simp [awakeC] at hl; subst hl; decide, by simp [awakeC], by simp [awakeC]⟩
set_option maxHeartbeats 4000000 in
set_option maxRecDepth 100000 in
theorem awake11_calls (w : World) (ht : Tab w) : Calls Tryd.prog 12 #[] w fun e w' => e = .returned (.bool true) ∧ Below w.heap.size w w' := by
  have HT := Aside0.mk ht
  clear ht
  have hu40 := Tryd.underlying40
  have hu25 := Tryd.underlying25
  go_enter Tryd.func12, Tryd.ntmps12
  go_wp2_with fail
  refine (print_calls awakeC (some ⟨w.heap.size, 0, none⟩) none 1 0 _ (lit1_C kLevel w awakeL [.string ⟨#[97]⟩, .int .i64 2, .int .i64 5, .int .i64 0, .int .i64 (-1), .int .i64 0, .int .i64 0, .int .i64 0, .int .i64 0, .int .i64 0] 40 rfl (kLevel_mk _ awakeL)) (by simp [awakeC]) (nil_C _ _ _) (by simp [awakeC]) awake_cfg (tab_of HT.out (below_alloc (Below.refl _ _) _))).mono ?_
  rintro e w1 ⟨rfl, hb1⟩
  have H1 := Aside0.mk hb1
  clear hb1
  rw [awake_print]
  simp only [awakeS]
  go_wp2_with fail
  go_ret
  exact ⟨rfl, below_step (below_alloc (Below.refl _ _) _) H1.out⟩

def partC (c : Config) (a b : Nat) : Config := { c with levels := c.levels.take a, schemas := c.schemas.take b }
theorem formed_part {c : Config} (h : formedB c = true) (a b : Nat) : formedB (partC c a b) = true := by
  rw [formedB_eq] at h ⊢
  simp only [Bool.and_eq_true, headB, List.all_eq_true, decide_eq_true_eq] at h ⊢
  obtain ⟨⟨h1, h2, h3⟩, h4, h5⟩ := h
  refine ⟨⟨⟨⟨h1.1.1, ?_⟩, ?_⟩, fun x hx => h2 x (List.mem_of_mem_take hx), ?_⟩, fun x hx => h4 x (List.mem_of_mem_take hx), ?_⟩
  · have := h1.1.2; simp only [partC, List.length_take]; omega
  · have := h1.2; simp only [partC, List.length_take]; omega
  · show ((c.levels.take a).map (·.name)).Nodup
    rw [List.map_take]
    exact h3.sublist (List.take_sublist _ _)
  · show ((c.schemas.take b).map (·.name)).Nodup
    rw [List.map_take]
    exact h5.sublist (List.take_sublist _ _)
theorem flat_take {α : Type} (f : α → List UInt8) (l : List α) (k : Nat) : ((l.take k).map f).flatten.length ≤ (l.map f).flatten.length := by
  have : l.map f = (l.take k).map f ++ (l.drop k).map f := by rw [← List.map_append, List.take_append_drop]
  rw [this, List.flatten_append, List.length_append]
  omega
theorem text_eq (c : Config) : textT c = totalT c ++ periodT c ++ seatsT c ++ levelsT c.levels ++ schemasT c.schemas := rfl
theorem text_part (c : Config) (a b : Nat) : (textT (partC c a b)).length ≤ (textT c).length := by
  have h1 : (levelsT (partC c a b).levels).length ≤ (levelsT c.levels).length := flat_take (fun l => lineT (levelW l)) c.levels a
  have h2 : (schemasT (partC c a b).schemas).length ≤ (schemasT c.schemas).length := flat_take (fun s => lineT (schemaW s) ++ rulesT s.rules) c.schemas b
  have h3 : totalT (partC c a b) = totalT c := rfl
  have h4 : periodT (partC c a b) = periodT c := rfl
  have h5 : seatsT (partC c a b) = seatsT c := rfl
  rw [text_eq, text_eq, h3, h4, h5]
  simp only [List.length_append]
  omega
theorem part_end {c : Config} (h : formedB c = true) (a b : Nat) : (printT c).2 ≠ 0 ∨ ((printT (partC c a b)).2 = 0 ∧ ((printT (partC c a b)).1.size : Int) ≤ (printT c).1.size) := by
  have hl := text_part c a b
  have hf := formed_part h a b
  unfold printT
  rw [h, hf]
  simp only [Bool.true_eq_false, if_false]
  by_cases hc : 65536 < (textT c).length
  · rw [if_pos hc]; exact .inl (by decide)
  · rw [if_neg hc, if_neg (by omega)]
    exact .inr ⟨rfl, by show (((textT (partC c a b)).toArray.size : Nat) : Int) ≤ (((textT c).toArray.size : Nat) : Int); simp only [List.size_toArray]; omega⟩

theorem config_part {c : Config} (h : ConfigS c) (a b : Nat) : ConfigS (partC c a b) :=
  ⟨by have := h.1; show (c.levels.take a).length ≤ _; rw [List.length_take]; omega, fun x hx => h.2 x (List.mem_of_mem_take hx), by have := h.3; show (c.schemas.take b).length ≤ _; rw [List.length_take]; omega, fun x hx => h.4 x (List.mem_of_mem_take hx)⟩
theorem take_len {α : Type} {l : List α} {a : Nat} (h : a ≤ l.length) : (l.take a).length = a := by rw [List.length_take]; omega
theorem print_part (c : Config) (A B : Option Addr) (n m a b : Nat) (w : World) (hl : kLevel.C w A c.levels.length c.levels) (hn : c.levels.length ≤ n)
    (hs : kSchema.C w B c.schemas.length c.schemas) (hm : c.schemas.length ≤ m) (ha : a ≤ c.levels.length) (hb : b ≤ c.schemas.length) (hc : ConfigS c) (ht : Tab w) :
    Calls Tryd.prog 15 #[.agg #[.int .i64 c.total, .int .i64 c.period, .int .i64 c.perSeat, .int .i64 c.most, .slice A a n, .slice B b m]] w fun e w' =>
      e = .returned (.tuple #[.string (printT (partC c a b)).1, .int .i64 (printT (partC c a b)).2]) ∧ Below w.heap.size w w' := by
  have P := print_calls (partC c a b) A B n m w (Kd.C_take hl ha) (by show (c.levels.take a).length ≤ n; rw [take_len ha]; omega) (Kd.C_take hs hb) (by show (c.schemas.take b).length ≤ m; rw [take_len hb]; omega) (config_part hc a b) ht
  rw [show (partC c a b).levels.length = a from take_len ha, show (partC c a b).schemas.length = b from take_len hb] at P
  exact P
theorem formed_part_calls (c : Config) (A B : Option Addr) (n m a b : Nat) (w : World) (hl : kLevel.C w A c.levels.length c.levels) (hn : c.levels.length ≤ n)
    (hs : kSchema.C w B c.schemas.length c.schemas) (hm : c.schemas.length ≤ m) (ha : a ≤ c.levels.length) (hb : b ≤ c.schemas.length) (hc : ConfigS c) (hf : formedB c = true) :
    Calls Tryd.prog 17 #[.agg #[.int .i64 c.total, .int .i64 c.period, .int .i64 c.perSeat, .int .i64 c.most, .slice A a n, .slice B b m]] w fun e w' => e = .returned (.bool true) ∧ Below w.heap.size w w' := by
  have P := formed_calls (partC c a b) A B n m w (Kd.C_take hl ha) (by show (c.levels.take a).length ≤ n; rw [take_len ha]; omega) (Kd.C_take hs hb) (by show (c.schemas.take b).length ≤ m; rw [take_len hb]; omega) (config_part hc a b)
  rw [show (partC c a b).levels.length = a from take_len ha, show (partC c a b).schemas.length = b from take_len hb, formed_part hf a b] at P
  exact P

set_option maxHeartbeats 16000000 in
set_option maxRecDepth 100000 in
theorem printPart_calls (c : Config) (A B : Option Addr) (n m : Nat) (lv sc : Int) (w : World) (hl : kLevel.C w A c.levels.length c.levels) (hn : c.levels.length ≤ n)
    (hs : kSchema.C w B c.schemas.length c.schemas) (hm : c.schemas.length ≤ m) (ht : Tab w) :
    Calls Tryd.prog 4 #[.agg #[.int .i64 c.total, .int .i64 c.period, .int .i64 c.perSeat, .int .i64 c.most, .slice A c.levels.length n, .slice B c.schemas.length m], .int .i64 lv, .int .i64 sc] w fun e w' => e = .returned (.bool true) ∧ Below w.heap.size w w' := by
  have hll := len_of hl
  have hsl := len_of hs
  have HL := Aside0.mk hl
  have HS := Aside0.mk hs
  have HT := Aside0.mk ht
  clear hl hs ht
  have hu25 := Tryd.underlying25
  have hu22 := Tryd.underlying22
  have hu23 := Tryd.underlying23
  go_enter Tryd.func4, Tryd.ntmps4
  go_wp2_with (first
    | (go_at_call 12; go_must (refine (awake11_calls _ (tab_of HT.out (below_alloc (Below.refl _ _) _))).mono ?_; rintro e w1 ⟨rfl, hb1⟩; have B1 := Aside0.mk (below_step (below_alloc (Below.refl w.heap.size w) _) hb1); have X1 := Aside0.mk (blk_below (blk_new w (.cells #[.int .i64 c.total, .int .i64 c.period, .int .i64 c.perSeat, .int .i64 c.most, .slice A c.levels.length n, .slice B c.schemas.length m] 25)) hb1); clear hb1; have x0 : w1.cell? ⟨w.heap.size, 0, none⟩ = some (.int .i64 c.total) := (blk_cell X1.out 0).trans rfl; have x1 : w1.cell? ⟨w.heap.size, 1, none⟩ = some (.int .i64 c.period) := (blk_cell X1.out 1).trans rfl; have x2 : w1.cell? ⟨w.heap.size, 2, none⟩ = some (.int .i64 c.perSeat) := (blk_cell X1.out 2).trans rfl; have x3 : w1.cell? ⟨w.heap.size, 3, none⟩ = some (.int .i64 c.most) := (blk_cell X1.out 3).trans rfl; have x4 : w1.cell? ⟨w.heap.size, 4, none⟩ = some (.slice A c.levels.length n) := (blk_cell X1.out 4).trans rfl; have x5 : w1.cell? ⟨w.heap.size, 5, none⟩ = some (.slice B c.schemas.length m) := (blk_cell X1.out 5).trans rfl))
    | (go_at_call 13; go_must (refine (small_calls c A B n m w1 (kLevel.C_below HL.out B1.out) hn (kSchema.C_below HS.out B1.out) hm).mono ?_; rintro e w2 ⟨⟨b, rfl, hb⟩, hb2⟩; cases b; (focus (have B2 := Aside0.mk (below_step B1.out hb2); clear hb hb2; go_wp2_with fail; go_ret; exact ⟨rfl, B2.out⟩)); have sm := hb rfl; have SM := Aside0.mk sm; clear hb sm; have B2 := Aside0.mk (below_step B1.out hb2); have X2 := Aside0.mk (blk_below X1.out hb2); clear x0 x1 x2 x3 x4 x5 hb2 X1; have x0 : w2.cell? ⟨w.heap.size, 0, none⟩ = some (.int .i64 c.total) := (blk_cell X2.out 0).trans rfl; have x1 : w2.cell? ⟨w.heap.size, 1, none⟩ = some (.int .i64 c.period) := (blk_cell X2.out 1).trans rfl; have x2 : w2.cell? ⟨w.heap.size, 2, none⟩ = some (.int .i64 c.perSeat) := (blk_cell X2.out 2).trans rfl; have x3 : w2.cell? ⟨w.heap.size, 3, none⟩ = some (.int .i64 c.most) := (blk_cell X2.out 3).trans rfl; have x4 : w2.cell? ⟨w.heap.size, 4, none⟩ = some (.slice A c.levels.length n) := (blk_cell X2.out 4).trans rfl; have x5 : w2.cell? ⟨w.heap.size, 5, none⟩ = some (.slice B c.schemas.length m) := (blk_cell X2.out 5).trans rfl))
    | (go_at_call 17; go_must (rename ¬ lv < 0 => l0; rename ¬ _ < lv => l1; rename ¬ sc < 0 => s0; rename ¬ _ < sc => s1; have l0' := Aside0.mk l0; have l1' := Aside0.mk l1; have s0' := Aside0.mk s0; have s1' := Aside0.mk s1; clear l0 l1 s0 s1; refine (formed_calls c A B n m w2 (kLevel.C_below HL.out B2.out) hn (kSchema.C_below HS.out B2.out) hm (small_config SM.out)).mono ?_; rintro e w3 ⟨rfl, hb3⟩; rcases hf : formedB c with _ | _; (focus (have B3 := Aside0.mk (below_step B2.out hb3); clear hb3; go_wp2_with fail; go_ret; exact ⟨rfl, B3.out⟩)); have HF := Aside0.mk hf; clear hf; have B3 := Aside0.mk (below_step B2.out hb3); have X3 := Aside0.mk (blk_below X2.out hb3); clear x0 x1 x2 x3 x4 x5 hb3 X2; have x0 : w3.cell? ⟨w.heap.size, 0, none⟩ = some (.int .i64 c.total) := (blk_cell X3.out 0).trans rfl; have x1 : w3.cell? ⟨w.heap.size, 1, none⟩ = some (.int .i64 c.period) := (blk_cell X3.out 1).trans rfl; have x2 : w3.cell? ⟨w.heap.size, 2, none⟩ = some (.int .i64 c.perSeat) := (blk_cell X3.out 2).trans rfl; have x3 : w3.cell? ⟨w.heap.size, 3, none⟩ = some (.int .i64 c.most) := (blk_cell X3.out 3).trans rfl; have x4 : w3.cell? ⟨w.heap.size, 4, none⟩ = some (.slice A c.levels.length n) := (blk_cell X3.out 4).trans rfl; have x5 : w3.cell? ⟨w.heap.size, 5, none⟩ = some (.slice B c.schemas.length m) := (blk_cell X3.out 5).trans rfl))
    | (go_at_call 14; go_must (refine (copy_calls c A B n m w3 (kLevel.C_below HL.out B3.out) hn (kSchema.C_below HS.out B3.out) hm (small_copy SM.out).1 (small_copy SM.out).2).mono ?_; rintro e w4 ⟨v4, v5, rfl, r4, r5, hb4⟩; obtain ⟨A4, c4, rfl, hc4, C4⟩ := Kd.R_reads r4; obtain ⟨A5, c5, rfl, hc5, C5⟩ := Kd.R_reads r5; clear r4 r5; have D4 := Aside0.mk C4; have D5 := Aside0.mk C5; clear C4 C5; have B4 := Aside0.mk (below_step B3.out hb4); have X4 := Aside0.mk (blk_below X3.out hb4); clear x0 x1 x2 x3 x4 x5 hb4 X3; have x0 : w4.cell? ⟨w.heap.size, 0, none⟩ = some (.int .i64 c.total) := (blk_cell X4.out 0).trans rfl; have x1 : w4.cell? ⟨w.heap.size, 1, none⟩ = some (.int .i64 c.period) := (blk_cell X4.out 1).trans rfl; have x2 : w4.cell? ⟨w.heap.size, 2, none⟩ = some (.int .i64 c.perSeat) := (blk_cell X4.out 2).trans rfl; have x3 : w4.cell? ⟨w.heap.size, 3, none⟩ = some (.int .i64 c.most) := (blk_cell X4.out 3).trans rfl; have x4 : w4.cell? ⟨w.heap.size, 4, none⟩ = some (.slice A c.levels.length n) := (blk_cell X4.out 4).trans rfl; have x5 : w4.cell? ⟨w.heap.size, 5, none⟩ = some (.slice B c.schemas.length m) := (blk_cell X4.out 5).trans rfl)))
  iterate 4 (focus (go_ret; first | exact ⟨rfl, B2.out⟩))
  obtain ⟨a, rfl⟩ := Int.eq_ofNat_of_zero_le l0'.out
  obtain ⟨b, rfl⟩ := Int.eq_ofNat_of_zero_le s0'.out
  clear l0' s0'
  have ha : a ≤ c.levels.length := by have := l1'.out; omega
  have hb : b ≤ c.schemas.length := by have := s1'.out; omega
  clear l1' s1'
  go_region
  obtain ⟨w5, hw5⟩ : ∃ w5, w5 = (w4.alloc (.cells #[.int .i64 c.total, .int .i64 c.period, .int .i64 c.perSeat, .int .i64 c.most, .slice A4 a c4, .slice A5 b c5] 25)).drew := ⟨_, rfl⟩
  rw [← hw5]
  have Y5 : Aside0 (w5.heap[w4.heap.size]? = some (.cells #[.int .i64 c.total, .int .i64 c.period, .int .i64 c.perSeat, .int .i64 c.most, .slice A4 a c4, .slice A5 b c5] 25 (0, 0))) := ⟨by rw [hw5]; exact blk_drew (blk_new w4 _)⟩
  have X5 : Aside0 (w5.heap[w.heap.size]? = some (.cells #[.int .i64 c.total, .int .i64 c.period, .int .i64 c.perSeat, .int .i64 c.most, .slice A c.levels.length n, .slice B c.schemas.length m] 25 (0, 0))) := ⟨by rw [hw5]; exact blk_drew (blk_alloc X4.out _)⟩
  have B5 : Aside0 (Below w.heap.size w w5) := ⟨by rw [hw5]; exact below_drew1 (below_alloc B4.out _)⟩
  have L5 : Aside0 (Below w4.heap.size w4 w5) := ⟨by rw [hw5]; exact below_drew1 (below_alloc (Below.refl w4.heap.size w4) _)⟩
  clear x0 x1 x2 x3 x4 x5 hw5
  have x0 : w5.cell? ⟨w.heap.size, 0, none⟩ = some (.int .i64 c.total) := (blk_cell X5.out 0).trans rfl
  have x1 : w5.cell? ⟨w.heap.size, 1, none⟩ = some (.int .i64 c.period) := (blk_cell X5.out 1).trans rfl
  have x2 : w5.cell? ⟨w.heap.size, 2, none⟩ = some (.int .i64 c.perSeat) := (blk_cell X5.out 2).trans rfl
  have x3 : w5.cell? ⟨w.heap.size, 3, none⟩ = some (.int .i64 c.most) := (blk_cell X5.out 3).trans rfl
  have x4 : w5.cell? ⟨w.heap.size, 4, none⟩ = some (.slice A c.levels.length n) := (blk_cell X5.out 4).trans rfl
  have x5 : w5.cell? ⟨w.heap.size, 5, none⟩ = some (.slice B c.schemas.length m) := (blk_cell X5.out 5).trans rfl
  have q4 := Aside0.mk (show w.heap.size < w4.heap.size from blk_lt X4.out)
  clear X4
  go_wp2_with (first
    | (go_at_call 15; (have u5 := X5); clear u5; go_must (refine (print_calls c A B n m w5 (kLevel.C_below HL.out B5.out) hn (kSchema.C_below HS.out B5.out) hm (small_config SM.out) (tab_of HT.out B5.out)).mono ?_; rintro e w6 ⟨rfl, hb6⟩; have Y6 := Aside0.mk (blk_below Y5.out hb6); have B6 := Aside0.mk (below_step B5.out hb6); have L6 := Aside0.mk (below_step L5.out hb6); clear hb6 x0 x1 x2 x3 x4 x5 X5 Y5; have y0 : w6.cell? ⟨w4.heap.size, 0, none⟩ = some (.int .i64 c.total) := (blk_cell Y6.out 0).trans rfl; have y1 : w6.cell? ⟨w4.heap.size, 1, none⟩ = some (.int .i64 c.period) := (blk_cell Y6.out 1).trans rfl; have y2 : w6.cell? ⟨w4.heap.size, 2, none⟩ = some (.int .i64 c.perSeat) := (blk_cell Y6.out 2).trans rfl; have y3 : w6.cell? ⟨w4.heap.size, 3, none⟩ = some (.int .i64 c.most) := (blk_cell Y6.out 3).trans rfl; have y4 : w6.cell? ⟨w4.heap.size, 4, none⟩ = some (.slice A4 a c4) := (blk_cell Y6.out 4).trans rfl; have y5 : w6.cell? ⟨w4.heap.size, 5, none⟩ = some (.slice A5 b c5) := (blk_cell Y6.out 5).trans rfl))
    | (go_at_call 15; go_must (refine (print_part c A4 A5 c4 c5 a b w6 (kLevel.C_below D4.out L6.out) hc4 (kSchema.C_below D5.out L6.out) hc5 ha hb (small_config SM.out) (tab_of HT.out B6.out)).mono ?_; rintro e w7 ⟨rfl, hb7⟩; have Y7 := Aside0.mk (blk_below Y6.out hb7); have B7 := Aside0.mk (below_step B6.out hb7); have L7 := Aside0.mk (below_step L6.out hb7); clear hb7 y0 y1 y2 y3 y4 y5 Y6; have y0 : w7.cell? ⟨w4.heap.size, 0, none⟩ = some (.int .i64 c.total) := (blk_cell Y7.out 0).trans rfl; have y1 : w7.cell? ⟨w4.heap.size, 1, none⟩ = some (.int .i64 c.period) := (blk_cell Y7.out 1).trans rfl; have y2 : w7.cell? ⟨w4.heap.size, 2, none⟩ = some (.int .i64 c.perSeat) := (blk_cell Y7.out 2).trans rfl; have y3 : w7.cell? ⟨w4.heap.size, 3, none⟩ = some (.int .i64 c.most) := (blk_cell Y7.out 3).trans rfl; have y4 : w7.cell? ⟨w4.heap.size, 4, none⟩ = some (.slice A4 a c4) := (blk_cell Y7.out 4).trans rfl; have y5 : w7.cell? ⟨w4.heap.size, 5, none⟩ = some (.slice A5 b c5) := (blk_cell Y7.out 5).trans rfl))
    | (go_at_call 17; go_must (refine (formed_part_calls c A4 A5 c4 c5 a b w7 (kLevel.C_below D4.out L7.out) hc4 (kSchema.C_below D5.out L7.out) hc5 ha hb (small_config SM.out) HF.out).mono ?_; rintro e w8 ⟨rfl, hb8⟩; have B8 := Aside0.mk (below_step B7.out hb8); clear hb8)))
  focus (go_ret; exact ⟨rfl, B8.out⟩)
  · rename (printT c).snd = 0 => e1
    rcases part_end HF.out a b with h | ⟨h1, h2⟩
    · exact absurd e1 h
    · go_ret
      refine ⟨?_, B8.out⟩
      rw [decide_eq_true (Int.ofNat_le.1 h2)]; rfl
  · rename (printT c).snd = 0 => e1
    rename ¬ (printT (partC c a b)).snd = 0 => e2
    rcases part_end HF.out a b with h | ⟨h1, h2⟩
    · exact absurd e1 h
    · exact absurd h1 e2
end Go.Proofs.YtcgadbojojkchaaDoor.U
