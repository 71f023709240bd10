/- The walks of words.Join, print.schema, print.Formed. -/
import Derived.Test.YtcgadbojojkchaaDoorWc
set_option linter.unusedVariables false
set_option linter.unusedSimpArgs false
namespace Go.Proofs.YtcgadbojojkchaaDoor.U
open Go.RowKit Go.Proofs.YtcgadbojojkchaaDoorW.PrintWords Go.Proofs.YtcgadbojojkchaaDoorW.PrintLast Go.Proofs.YtcgadbojojkchaaDoorW.PrintMore

theorem join_length (xs : List ByteArray) (sep : List UInt8) (m : Nat) (h : ∀ x ∈ xs, x.size ≤ m) : (Lib.join (xs.map (·.data.toList)) sep).length ≤ xs.length * (m + sep.length) := by
  unfold Lib.join
  induction xs with
  | nil => simp
  | cons x l ih =>
    cases l with
    | nil => simp; have := h x (by simp); rw [← data_length] at this; simp at this; omega
    | cons y r =>
      have ih := ih (fun z hz => h z (List.mem_cons_of_mem _ hz))
      have hx := h x (by simp)
      rw [← data_length] at hx
      simp only [List.map_cons, List.length_cons] at ih ⊢
      rw [List.intercalate_cons_cons]
      simp only [List.length_append] at ih ⊢
      have e : (r.length + 1 + 1) * (m + sep.length) = (r.length + 1) * (m + sep.length) + (m + sep.length) := by rw [Nat.add_mul, Nat.one_mul]
      omega
theorem good_sizes {xs : List ByteArray} (h : goodB xs = true) : xs.length ≤ 8 ∧ ∀ x ∈ xs, x.size ≤ 64 ∧ 1 ≤ x.size := by
  unfold goodB at h
  rw [Bool.or_eq_true, decide_eq_true_eq] at h
  rcases h with rfl | h
  · exact ⟨by simp, fun x hx => by simp at hx; subst hx; exact ⟨by decide, by decide⟩⟩
  · simp only [Bool.and_eq_true, decide_eq_true_eq] at h
    refine ⟨h.1.1, fun x hx => ?_⟩
    have := h.1.2 x hx
    unfold wordB at this
    simp only [Bool.and_eq_true, decide_eq_true_eq] at this
    omega
theorem joinT_empty (xs : List ByteArray) : (joinT xs).toList.isEmpty = !goodB xs := by
  rw [isEmpty_iff]
  unfold joinT
  cases hg : goodB xs with
  | false => rfl
  | true =>
    rw [if_pos rfl]
    by_cases he : xs = []
    · rw [if_pos he]; rfl
    · rw [if_neg he]
      obtain ⟨x, l, rfl⟩ := List.exists_cons_of_ne_nil he
      have h1 := ((good_sizes hg).2 x (by simp)).2
      rw [← data_length] at h1
      apply decide_eq_false
      intro h0
      rw [← data_length] at h0
      cases l with
      | nil => simp [Lib.join] at h0; rw [h0] at h1; simp at h1
      | cons y r => simp [Lib.join] at h0

theorem cells_of {w : World} {A : Option Addr} {xs : List ByteArray} (h : Kd.string.C w A xs.length xs) (hp : 0 < xs.length) : ∃ bk o, A = some ⟨bk, o, none⟩ ∧ bk < w.heap.size ∧ ∀ (j : Nat) x, xs[j]? = some x → w.cell? ⟨bk, o + j, none⟩ = some (.string x) := by
  obtain ⟨ad, rfl, h0⟩ := str_at h 0 hp
  rw [addr0] at h0
  have hs : ad.spot = none := by
    unfold World.cell? at h0
    cases hh : w.heap[ad.block]? with
    | none => rw [hh] at h0; cases h0
    | some ob =>
      rw [hh] at h0
      cases ob with
      | cells c e f =>
        cases q : ad.spot with
        | none => rfl
        | some s => simp [q] at h0
      | _ => cases h0
  obtain ⟨bk, o, sp⟩ := ad
  obtain rfl : sp = none := hs
  refine ⟨bk, o, rfl, World.block_lt_of_cell? w _ h0, fun j x hx => ?_⟩
  obtain ⟨hj, rfl⟩ := List.getElem?_eq_some_iff.1 hx
  obtain ⟨ad, e, hc⟩ := str_at h j hj
  obtain rfl := Option.some.inj e
  rw [← hc]
  congr 1
  unfold Addr.add
  split
  · next q => subst q; rfl
  · rfl

theorem good_nil (A : Option Addr) (c : Nat) (w : World) (h : Kd.string.C w A 0 []) :
    Calls Tryd.prog 66 #[.slice A 0 c] w fun e w' => e = .returned (.bool true) ∧ w' = w :=
  good_calls A c [] w h (by simp) (by simp) (by simp)
theorem join_calls (A : Option Addr) (c : Nat) (xs : List ByteArray) (w : World) (h : Kd.string.C w A xs.length xs) (hn : xs.length ≤ 9223372036854775807) (hc : xs.length ≤ c) (hx : ∀ x ∈ xs, x.size ≤ 140737488351232) :
    Calls Tryd.prog 37 #[.slice A xs.length c] w fun e w' => e = .returned (.string (joinT xs)) ∧ Below w.heap.size w w' := by
  have H := Aside0.mk h
  have HX := Aside0.mk hx
  clear h hx
  by_cases hg : goodB xs = true
  · by_cases h0 : xs = []
    · subst h0
      go_enter Tryd.func37, Tryd.ntmps37
      go_wp2_with (go_at_call 66; refine (good_nil A c _ H.out).mono ?_; rintro e w' ⟨rfl, rfl⟩)
      go_ret
      exact ⟨rfl, Below.refl _ _⟩
    · have hp : 0 < xs.length := List.length_pos_iff.2 h0
      obtain ⟨bk, o, rfl, hb, hcs⟩ := cells_of H.out hp
      have HC := Aside0.mk hcs
      have e0 : ((xs.length : Int) == 0) = false := beq_eq_false_iff_ne.2 (by omega)
      have hl := join_length xs [44] 64 (fun x hx => ((good_sizes hg).2 x hx).1)
      have hj : joinT xs = ⟨(Lib.join (xs.map (·.data.toList)) [44]).toArray⟩ := by unfold joinT; rw [if_pos hg, if_neg h0]
      have HL := Aside0.mk hl
      have HG := Aside0.mk hg
      have HJ := Aside0.mk hj
      have h8 := (good_sizes hg).1
      have e1 : (!goodB xs) = false := by rw [hg]; rfl
      clear hl hj hcs h0 hg
      go_enter Tryd.func37, Tryd.ntmps37
      go_wp2_with (first | (go_at_call 66; refine (good_calls _ _ _ _ H.out hn hc HX.out).mono ?_; rintro e w' ⟨rfl, rfl⟩) | (go_at_call 63; refine (Tryd.strings_Join bk o c xs ⟨#[44]⟩ _ HC.out hb (by omega) hc (by have := HL.out; show (Lib.join (xs.map (·.data.toList)) [44]).length ≤ 140737488355328; simp only [List.length_cons, List.length_nil] at this; omega)).mono ?_; rintro e w1 ⟨rfl, hb1⟩))
      go_ret
      exact ⟨by rw [HJ.out]; rfl, hb1⟩
  · have e1 : (!goodB xs) = true := by cases h : goodB xs with
      | true => exact absurd h hg
      | false => rfl
    have HJ := Aside0.mk (show joinT xs = ⟨#[]⟩ by unfold joinT; rw [if_neg hg])
    clear hg
    go_enter Tryd.func37, Tryd.ntmps37
    go_wp2_with (go_at_call 66; refine (good_calls _ _ _ _ H.out hn hc HX.out).mono ?_; rintro e w' ⟨rfl, rfl⟩)
    go_ret
    exact ⟨by rw [HJ.out]; rfl, Below.refl _ _⟩

/-- The texts that a rule, a schema, a level, a configuration holds are no greater than what can be read. -/
def listS (l : List ByteArray) : Prop := l.length ≤ 9223372036854775807 ∧ ∀ x ∈ l, x.size ≤ 140737488351232
structure RuleS (r : Rule) : Prop where
  users : listS r.users
  groups : listS r.groups
  verbs : listS r.verbs
  resources : listS r.resources
  spaces : listS r.spaces
structure SchemaS (s : Schema) : Prop where
  name : s.name.size ≤ 140737488351232
  level : s.level.size ≤ 140737488351232
  len : s.rules.length ≤ 9223372036854775807
  rules : ∀ r ∈ s.rules, RuleS r
theorem rule_at {w : World} {A : Option Addr} {xs : List Rule} (h : kRule.C w A xs.length xs) (k : Nat) (hk : k < xs.length) :
    ∃ ad A0 c0 A1 c1 A2 c2 A3 c3 A4 c4, A = some ad ∧ w.cell? (ad.add (k * 5)) = some (.slice A0 xs[k].users.length c0) ∧
      w.cell? ⟨(ad.add (k * 5)).block, (ad.add (k * 5)).off + 1, none⟩ = some (.slice A1 xs[k].groups.length c1) ∧
      w.cell? ⟨(ad.add (k * 5)).block, (ad.add (k * 5)).off + 2, none⟩ = some (.slice A2 xs[k].verbs.length c2) ∧
      w.cell? ⟨(ad.add (k * 5)).block, (ad.add (k * 5)).off + 3, none⟩ = some (.slice A3 xs[k].resources.length c3) ∧
      w.cell? ⟨(ad.add (k * 5)).block, (ad.add (k * 5)).off + 4, none⟩ = some (.slice A4 xs[k].spaces.length c4) ∧
      (xs[k].users.length ≤ c0 ∧ Kd.string.C w A0 xs[k].users.length xs[k].users) ∧ (xs[k].groups.length ≤ c1 ∧ Kd.string.C w A1 xs[k].groups.length xs[k].groups) ∧
      (xs[k].verbs.length ≤ c2 ∧ Kd.string.C w A2 xs[k].verbs.length xs[k].verbs) ∧ (xs[k].resources.length ≤ c3 ∧ Kd.string.C w A3 xs[k].resources.length xs[k].resources) ∧
      (xs[k].spaces.length ≤ c4 ∧ Kd.string.C w A4 xs[k].spaces.length xs[k].spaces) := by
  have e : rd_Rule xs (k : Int) = xs[k] := by unfold rd_Rule; rw [Int.toNat_natCast, List.getD_eq_getElem?_getD, List.getElem?_eq_getElem hk]; rfl
  have := at_Rule h (k : Int) (by omega) (by omega)
  rw [e, Int.toNat_natCast] at this
  obtain ⟨ad, A0, c0, A1, c1, A2, c2, A3, c3, A4, c4, e, h0, h1, h2, h3, h4, l0, g0, l1, g1, l2, g2, l3, g3, l4, g4⟩ := this
  exact ⟨ad, A0, c0, A1, c1, A2, c2, A3, c3, A4, c4, e, h0, h1, h2, h3, h4, ⟨l0, g0⟩, ⟨l1, g1⟩, ⟨l2, g2⟩, ⟨l3, g3⟩, ⟨l4, g4⟩⟩

theorem joinT_yes {xs : List ByteArray} (h : (joinT xs).toList.isEmpty = true) : goodB xs = false := by
  rw [joinT_empty] at h
  cases g : goodB xs with
  | false => rfl
  | true => rw [g] at h; cases h
theorem joinT_no {xs : List ByteArray} (h : (joinT xs).toList.isEmpty = false) : goodB xs = true := by
  rw [joinT_empty] at h
  cases g : goodB xs with
  | true => rfl
  | false => rw [g] at h; cases h
theorem ruleB_bad0 {r : Rule} (h : goodB r.users = false) : ruleB r = false := by unfold ruleB; rw [h]; simp
theorem ruleB_bad1 {r : Rule} (h : goodB r.groups = false) : ruleB r = false := by unfold ruleB; rw [h]; simp
theorem ruleB_bad2 {r : Rule} (h : goodB r.verbs = false) : ruleB r = false := by unfold ruleB; rw [h]; simp
theorem ruleB_bad3 {r : Rule} (h : goodB r.resources = false) : ruleB r = false := by unfold ruleB; rw [h]; simp
theorem ruleB_bad4 {r : Rule} (h : goodB r.spaces = false) : ruleB r = false := by unfold ruleB; rw [h]; simp
theorem schema_bad {s : Schema} {k : Nat} (hk : k < s.rules.length) (h : ruleB s.rules[k] = false) : schemaB s = false := by
  unfold schemaB
  have : s.rules.all ruleB = false := by
    rw [List.all_eq_false]
    exact ⟨_, List.getElem_mem hk, by rw [h]; simp⟩
  rw [this]; simp
theorem arr5_0 (A0 A1 A2 A3 A4 : Option Addr) (n0 n1 n2 n3 n4 c0 c1 c2 c3 c4 : Nat) (w : World) : (Instr.index 73 (.agg #[.slice A0 n0 c0, .slice A1 n1 c1, .slice A2 n2 c2, .slice A3 n3 c3, .slice A4 n4 c4]) (.int .i64 0)).run Tryd.prog w = .ok (.slice A0 n0 c0) w := by kernel_rfl
theorem arr5_1 (A0 A1 A2 A3 A4 : Option Addr) (n0 n1 n2 n3 n4 c0 c1 c2 c3 c4 : Nat) (w : World) : (Instr.index 73 (.agg #[.slice A0 n0 c0, .slice A1 n1 c1, .slice A2 n2 c2, .slice A3 n3 c3, .slice A4 n4 c4]) (.int .i64 1)).run Tryd.prog w = .ok (.slice A1 n1 c1) w := by kernel_rfl
theorem arr5_2 (A0 A1 A2 A3 A4 : Option Addr) (n0 n1 n2 n3 n4 c0 c1 c2 c3 c4 : Nat) (w : World) : (Instr.index 73 (.agg #[.slice A0 n0 c0, .slice A1 n1 c1, .slice A2 n2 c2, .slice A3 n3 c3, .slice A4 n4 c4]) (.int .i64 2)).run Tryd.prog w = .ok (.slice A2 n2 c2) w := by kernel_rfl
theorem arr5_3 (A0 A1 A2 A3 A4 : Option Addr) (n0 n1 n2 n3 n4 c0 c1 c2 c3 c4 : Nat) (w : World) : (Instr.index 73 (.agg #[.slice A0 n0 c0, .slice A1 n1 c1, .slice A2 n2 c2, .slice A3 n3 c3, .slice A4 n4 c4]) (.int .i64 3)).run Tryd.prog w = .ok (.slice A3 n3 c3) w := by kernel_rfl
theorem arr5_4 (A0 A1 A2 A3 A4 : Option Addr) (n0 n1 n2 n3 n4 c0 c1 c2 c3 c4 : Nat) (w : World) : (Instr.index 73 (.agg #[.slice A0 n0 c0, .slice A1 n1 c1, .slice A2 n2 c2, .slice A3 n3 c3, .slice A4 n4 c4]) (.int .i64 4)).run Tryd.prog w = .ok (.slice A4 n4 c4) w := by kernel_rfl
attribute [local go_sem] arr5_0 arr5_1 arr5_2 arr5_3 arr5_4
set_option maxHeartbeats 2000000 in
set_option maxRecDepth 100000 in
theorem schema_calls (s : Schema) (A : Option Addr) (c : Nat) (w : World) (hr : kRule.C w A s.rules.length s.rules) (hc : s.rules.length ≤ c) (hs : SchemaS s) :
    Calls Tryd.prog 43 #[.agg #[.string s.name, .string s.level, .int .i64 s.rank, .int .i64 s.tells, .slice A s.rules.length c]] w fun e w' =>
      e = .returned (.bool (schemaB s)) ∧ Below w.heap.size w w' := by
  have HR := Aside0.mk hr
  have HS := Aside0.mk hs
  have hl := hs.len
  clear hr hs
  have hu46 := Tryd.underlying46
  have hu53 := Tryd.underlying53
  by_cases h8 : 8 < s.rules.length
  · have e8 : decide (8 < (s.rules.length : Int)) = true := decide_eq_true (by omega)
    have H8 := Aside0.mk (show schemaB s = false by unfold schemaB; rw [decide_eq_false (show ¬ s.rules.length ≤ 8 by omega)]; simp)
    clear h8
    go_enter Tryd.func43, Tryd.ntmps43
    go_wp2_with (first | (go_at_call 69; refine (name_calls _ (by first | exact HS.out.name | exact HS.out.level) _).mono ?_; rintro e w' ⟨rfl, rfl⟩) | (go_at_call 41; refine (within_calls _ _ _ _).mono ?_; rintro e w' ⟨rfl, rfl⟩))
    all_goals go_ret
    all_goals exact ⟨by rw [H8.out]; rfl, by repeat (first | exact Below.refl _ _ | apply below_alloc)⟩
  have e8 : decide (8 < (s.rules.length : Int)) = false := decide_eq_false (by omega)
  have H8 := Aside0.mk h8
  clear h8
  cases h7 : within s.tells 0 2 with
  | false =>
    have H7 := Aside0.mk (show schemaB s = false by unfold schemaB; rw [h7]; simp)
    go_enter Tryd.func43, Tryd.ntmps43
    go_wp2_with (first | (go_at_call 69; refine (name_calls _ (by first | exact HS.out.name | exact HS.out.level) _).mono ?_; rintro e w' ⟨rfl, rfl⟩) | (go_at_call 41; refine (within_calls _ _ _ _).mono ?_; rintro e w' ⟨rfl, rfl⟩))
    all_goals go_ret
    all_goals exact ⟨by rw [H7.out]; rfl, by repeat (first | exact Below.refl _ _ | apply below_alloc)⟩
  | true =>
  go_enter Tryd.func43, Tryd.ntmps43
  go_wp2_with (first | (go_at_call 69; refine (name_calls _ (by first | exact HS.out.name | exact HS.out.level) _).mono ?_; rintro e w' ⟨rfl, rfl⟩) | (go_at_call 41; refine (within_calls _ _ _ _).mono ?_; rintro e w' ⟨rfl, rfl⟩))
  · go_ret
    exact ⟨by simp_all [schemaB], by repeat (first | exact Below.refl _ _ | apply below_alloc)⟩
  · go_ret
    exact ⟨by simp_all [schemaB], by repeat (first | exact Below.refl _ _ | apply below_alloc)⟩
  · go_ret
    exact ⟨by simp_all [schemaB], by repeat (first | exact Below.refl _ _ | apply below_alloc)⟩
  have HH : Aside0 (nameB s.name = true ∧ nameB s.level = true ∧ within s.rank 1 10000 = true ∧ within s.tells 0 2 = true ∧ s.rules.length ≤ 8) := ⟨by assumption, by assumption, by assumption, by assumption, by have := H8.out; omega⟩
  have HB := Aside0.mk (below_alloc (Below.refl w.heap.size w) (.cells #[.string s.name, .string s.level, .int .i64 s.rank, .int .i64 s.tells, .slice A s.rules.length c] 46))
  go_loopw [38] (fun v wr => ∃ k : Nat, k ≤ s.rules.length ∧ v = .int .i64 k ∧ Aside0 (∀ i, i < k → ∀ h : i < s.rules.length, ruleB s.rules[i] = true) ∧ Aside0 (Below w.heap.size w wr)) (fun v _ => s.rules.length - (intOf v).toNat)
  case atStart => exact ⟨0, Nat.zero_le _, rfl, ⟨fun i hi => absurd hi (Nat.not_lt_zero _)⟩, HB⟩
  case round =>
    clear HB
    obtain ⟨k, hk, rfl, hall, HB⟩ := hrel
    by_cases hlt : k < s.rules.length
    · obtain ⟨ad, A0, c0, A1, c1, A2, c2, A3, c3, A4, c4, e, h0, h1, h2, h3, h4, g0, g1, g2, g3, g4⟩ := rule_at (Kd.C_below HR.out HB.out) k hlt
      subst e
      have RS := Aside0.mk (HS.out.rules _ (List.getElem_mem hlt))
      have G0 := Aside0.mk g0
      have G1 := Aside0.mk g1
      have G2 := Aside0.mk g2
      have G3 := Aside0.mk g3
      have G4 := Aside0.mk g4
      clear g0 g1 g2 g3 g4
      go_wp2_with (first | (go_at_call 36; refine (lists_calls _ _ _ _ _ _ _ _ _ _ _ _ _ _ _ _).mono ?_; rintro e w1 ⟨rfl, hb1⟩; have HW := Aside0.mk (below_step (below_alloc (Below.refl wr.heap.size wr) _) hb1); clear hb1))
      refine wp_loop_rounds 6 ?_
      rw [rounds_succ]
      go_wp2_with (go_at_call 37; refine (join_calls _ _ _ _ (Kd.C_below G0.out.2 HW.out) (RS.out.users).1 G0.out.1 (RS.out.users).2).mono ?_; rintro e w2 ⟨rfl, hb1⟩; have HW2 := Aside0.mk (below_step HW.out hb1); clear hb1 HW)
      · go_ret
        have g := joinT_yes (show (joinT s.rules[k].users).toList.isEmpty = true by assumption)
        refine ⟨?_, below_step HB.out HW2.out⟩
        rw [schema_bad hlt (ruleB_bad0 g)]; rfl
      have F0 : Aside0 (goodB s.rules[k].users = true) := ⟨joinT_no (show (joinT s.rules[k].users).toList.isEmpty = false by assumption)⟩
      have HW := HW2
      clear HW2
      rw [rounds_succ]
      go_wp2_with (go_at_call 37; refine (join_calls _ _ _ _ (Kd.C_below G1.out.2 HW.out) (RS.out.groups).1 G1.out.1 (RS.out.groups).2).mono ?_; rintro e w2 ⟨rfl, hb1⟩; have HW2 := Aside0.mk (below_step HW.out hb1); clear hb1 HW)
      · go_ret
        have g := joinT_yes (show (joinT s.rules[k].groups).toList.isEmpty = true by assumption)
        refine ⟨?_, below_step HB.out HW2.out⟩
        rw [schema_bad hlt (ruleB_bad1 g)]; rfl
      have F1 : Aside0 (goodB s.rules[k].groups = true) := ⟨joinT_no (show (joinT s.rules[k].groups).toList.isEmpty = false by assumption)⟩
      have HW := HW2
      clear HW2
      rw [rounds_succ]
      go_wp2_with (go_at_call 37; refine (join_calls _ _ _ _ (Kd.C_below G2.out.2 HW.out) (RS.out.verbs).1 G2.out.1 (RS.out.verbs).2).mono ?_; rintro e w2 ⟨rfl, hb1⟩; have HW2 := Aside0.mk (below_step HW.out hb1); clear hb1 HW)
      · go_ret
        have g := joinT_yes (show (joinT s.rules[k].verbs).toList.isEmpty = true by assumption)
        refine ⟨?_, below_step HB.out HW2.out⟩
        rw [schema_bad hlt (ruleB_bad2 g)]; rfl
      have F2 : Aside0 (goodB s.rules[k].verbs = true) := ⟨joinT_no (show (joinT s.rules[k].verbs).toList.isEmpty = false by assumption)⟩
      have HW := HW2
      clear HW2
      rw [rounds_succ]
      go_wp2_with (go_at_call 37; refine (join_calls _ _ _ _ (Kd.C_below G3.out.2 HW.out) (RS.out.resources).1 G3.out.1 (RS.out.resources).2).mono ?_; rintro e w2 ⟨rfl, hb1⟩; have HW2 := Aside0.mk (below_step HW.out hb1); clear hb1 HW)
      · go_ret
        have g := joinT_yes (show (joinT s.rules[k].resources).toList.isEmpty = true by assumption)
        refine ⟨?_, below_step HB.out HW2.out⟩
        rw [schema_bad hlt (ruleB_bad3 g)]; rfl
      have F3 : Aside0 (goodB s.rules[k].resources = true) := ⟨joinT_no (show (joinT s.rules[k].resources).toList.isEmpty = false by assumption)⟩
      have HW := HW2
      clear HW2
      rw [rounds_succ]
      go_wp2_with (go_at_call 37; refine (join_calls _ _ _ _ (Kd.C_below G4.out.2 HW.out) (RS.out.spaces).1 G4.out.1 (RS.out.spaces).2).mono ?_; rintro e w2 ⟨rfl, hb1⟩; have HW2 := Aside0.mk (below_step HW.out hb1); clear hb1 HW)
      · go_ret
        have g := joinT_yes (show (joinT s.rules[k].spaces).toList.isEmpty = true by assumption)
        refine ⟨?_, below_step HB.out HW2.out⟩
        rw [schema_bad hlt (ruleB_bad4 g)]; rfl
      have F4 : Aside0 (goodB s.rules[k].spaces = true) := ⟨joinT_no (show (joinT s.rules[k].spaces).toList.isEmpty = false by assumption)⟩
      have HW := HW2
      clear HW2
      rw [rounds_succ]
      go_wp2_with fail
      go_roundw
      case rel =>
       exact ⟨k + 1, by omega, by go_num, ⟨upto_succ hall.out fun _ => by unfold ruleB; rw [F0.out, F1.out, F2.out, F3.out, F4.out]; rfl⟩, ⟨below_step HB.out HW.out⟩⟩
      case measure => simp [intOf]; omega
    · go_wp2_with fail
      go_ret
      refine ⟨?_, HB.out⟩
      have : schemaB s = true := by
        have h := HH.out
        simp only [schemaB, h.1, h.2.1, h.2.2.1, h.2.2.2.1, decide_eq_true h.2.2.2.2, Bool.true_and, List.all_eq_true]
        intro x hx
        obtain ⟨i, hi, rfl⟩ := List.mem_iff_getElem.1 hx
        exact hall.out i (by omega) hi
      rw [this]; rfl
end Go.Proofs.YtcgadbojojkchaaDoor.U
