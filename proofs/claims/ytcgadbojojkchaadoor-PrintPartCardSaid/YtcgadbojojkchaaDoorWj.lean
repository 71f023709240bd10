/- usherref10.Copy makes the same configuration in memory of its own. -/
import Derived.Test.YtcgadbojojkchaaDoorCopy
import Derived.Test.YtcgadbojojkchaaDoorWi
set_option linter.unusedVariables false
set_option linter.unusedSimpArgs false
namespace Go.Proofs.YtcgadbojojkchaaDoor.U
open Go.RowKit Go.Proofs.YtcgadbojojkchaaDoorW.PrintWords Go.Proofs.YtcgadbojojkchaaDoorW.PrintLast Go.Proofs.YtcgadbojojkchaaDoorW.PrintMore

theorem words_eval (l : List ByteArray) (h : l.length ≤ 1000000) : usherref10_words.f l = some l := by
  unfold usherref10_words.f
  simp only [Option.bind_some, List.length_nil, List.nil_append]
  rw [if_pos (by omega)]
theorem w64 {n : Nat} (h : n ≤ 1000000) : wrap64 ((n : Int) + 1) = ((n + 1 : Nat) : Int) := by
  unfold wrap64
  omega
structure RuleC (r : Rule) : Prop where
  users : r.users.length ≤ 1000000
  groups : r.groups.length ≤ 1000000
  verbs : r.verbs.length ≤ 1000000
  resources : r.resources.length ≤ 1000000
  spaces : r.spaces.length ≤ 1000000
def CopyC (l : List Schema) : Prop := l.length ≤ 1000000 ∧ ∀ i (h : i < l.length), l[i].rules.length ≤ 1000000 ∧ ∀ j (h' : j < l[i].rules.length), RuleC l[i].rules[j]
theorem rdS {l : List Schema} {k : Nat} (h : k < l.length) : rd_Schema l (k : Int) = l[k] := by unfold rd_Schema; rw [Int.toNat_natCast, List.getD_eq_getElem?_getD, List.getElem?_eq_getElem h]; rfl
theorem rdR {l : List Rule} {k : Nat} (h : k < l.length) : rd_Rule l (k : Int) = l[k] := by unfold rd_Rule; rw [Int.toNat_natCast, List.getD_eq_getElem?_getD, List.getElem?_eq_getElem h]; rfl

theorem copy_loops (a b c d : Int) (lv : List Level) (l : List Schema) (hl : CopyC l) : ∀ q i, i ≤ l.length → l.length - i = q → ∃ k, usherref10_Copy.l0 k (l.take i) (i : Int) a b c d lv l = some (a, b, c, d, lv, l) := by
  intro q
  induction q with
  | zero =>
    intro i hi hq
    refine ⟨1, ?_⟩
    simp only [usherref10_Copy.l0]
    rw [if_neg (by omega), List.take_of_length_le (by omega)]
  | succ q ih =>
    intro i hi hq
    have hlt : i < l.length := by omega
    obtain ⟨k, hk⟩ := ih (i + 1) (by omega) (by omega)
    have hs := hl.2 i hlt
    have inner : ∀ p j, j ≤ l[i].rules.length → l[i].rules.length - j = p → ∃ k, usherref10_Copy.l1 k (l.take i) (i : Int) (l[i].rules.take j) (j : Int) a b c d lv l l[i].name l[i].level l[i].rank l[i].tells l[i].rules = some (a, b, c, d, lv, l) := by
      intro p
      induction p with
      | zero =>
        intro j hj hp
        refine ⟨k + 1, ?_⟩
        simp only [usherref10_Copy.l1]
        rw [if_neg (by omega), List.take_of_length_le (show l[i].rules.length ≤ j by omega), if_pos (by have := hl.1; rw [List.length_take]; omega), w64 (by have := hl.1; omega)]
        have e : (l.take i ++ [(⟨l[i].name, l[i].level, l[i].rank, l[i].tells, l[i].rules⟩ : Schema)]) = l.take (i + 1) := by rw [List.take_succ_eq_append_getElem hlt]
        rw [e]
        exact hk
      | succ p ihp =>
        intro j hj hp
        have hjl : j < l[i].rules.length := by omega
        obtain ⟨k2, hk2⟩ := ihp (j + 1) (by omega) (by omega)
        have hr := hs.2 j hjl
        refine ⟨k2 + 1, ?_⟩
        simp only [usherref10_Copy.l1]
        rw [if_pos (by omega), if_pos (by omega), rdR hjl, words_eval _ hr.users, words_eval _ hr.groups, words_eval _ hr.verbs, words_eval _ hr.resources, words_eval _ hr.spaces]
        simp only [Option.bind_some]
        rw [if_pos (by have := hs.1; rw [List.length_take]; omega), w64 (by have := hs.1; omega)]
        have e : (l[i].rules.take j ++ [(⟨l[i].rules[j].users, l[i].rules[j].groups, l[i].rules[j].verbs, l[i].rules[j].resources, l[i].rules[j].spaces⟩ : Rule)]) = l[i].rules.take (j + 1) := by rw [List.take_succ_eq_append_getElem hjl]
        rw [e]
        exact hk2
    obtain ⟨k1, hk1⟩ := inner _ 0 (Nat.zero_le _) rfl
    refine ⟨k1 + 1, ?_⟩
    simp only [usherref10_Copy.l0]
    rw [if_pos (by omega), if_pos (by omega), rdS hlt]
    exact hk1

theorem copy_calls (c : Config) (A B : Option Addr) (n m : Nat) (w : World) (hl : kLevel.C w A c.levels.length c.levels) (hn : c.levels.length ≤ n)
    (hs : kSchema.C w B c.schemas.length c.schemas) (hm : c.schemas.length ≤ m) (h1 : c.levels.length ≤ 1000000) (h2 : CopyC c.schemas) :
    Calls Tryd.prog 14 #[.agg #[.int .i64 c.total, .int .i64 c.period, .int .i64 c.perSeat, .int .i64 c.most, .slice A c.levels.length n, .slice B c.schemas.length m]] w fun e w' =>
      ∃ v4 v5 : Value, e = .returned (.agg #[.int .i64 c.total, .int .i64 c.period, .int .i64 c.perSeat, .int .i64 c.most, v4, v5]) ∧ Kd.R kLevel 40 w' w.heap.size (fun _ => True) v4 c.levels ∧ Kd.R kSchema 46 w' w.heap.size (fun _ => True) v5 c.schemas ∧ Below w.heap.size w w' := by
  obtain ⟨k, hk⟩ := copy_loops c.total c.period c.perSeat c.most c.levels c.schemas h2 c.schemas.length 0 (Nat.zero_le _) (by omega)
  refine usherref10_Copy.calls k c.total c.period c.perSeat c.most A n c.levels B m c.schemas c.total c.period c.perSeat c.most c.levels c.schemas w hl hn hs hm ?_
  unfold usherref10_Copy.f
  simp only [Option.bind_some, List.length_nil, List.nil_append]
  rw [if_pos (by omega)]
  exact hk
theorem small_copy {c : Config} (h : SmallC c) : c.levels.length ≤ 1000000 ∧ CopyC c.schemas := by
  obtain ⟨h1, h2, _, h4⟩ := h
  refine ⟨by omega, by omega, fun i hi => ⟨by have := (h4 i hi).1; omega, fun j hj => ?_⟩⟩
  have := (h4 i hi).2.2.2 j hj
  exact ⟨by have := (this 0 (by omega)).1; exact Nat.le_trans this (by omega), by have := (this 1 (by omega)).1; exact Nat.le_trans this (by omega), by have := (this 2 (by omega)).1; exact Nat.le_trans this (by omega), by have := (this 3 (by omega)).1; exact Nat.le_trans this (by omega), by have := (this 4 (by omega)).1; exact Nat.le_trans this (by omega)⟩
theorem small_listS {l : List ByteArray} (h : listSm l) : listS l := ⟨by have := h.1; omega, fun x hx => by
  obtain ⟨i, hi, rfl⟩ := List.mem_iff_getElem.1 hx
  have := h.2 i hi
  omega⟩
theorem small_config {c : Config} (h : SmallC c) : ConfigS c := by
  obtain ⟨h1, h2, h3, h4⟩ := h
  refine ⟨by omega, fun x hx => ?_, by omega, fun x hx => ?_⟩
  · obtain ⟨i, hi, rfl⟩ := List.mem_iff_getElem.1 hx
    have := h3 i hi
    omega
  · obtain ⟨i, hi, rfl⟩ := List.mem_iff_getElem.1 hx
    obtain ⟨g1, g2, g3, g4⟩ := h4 i hi
    refine ⟨by omega, by omega, by omega, fun r hr => ?_⟩
    obtain ⟨j, hj, rfl⟩ := List.mem_iff_getElem.1 hr
    have := g4 j hj
    exact ⟨small_listS (this 0 (by omega)), small_listS (this 1 (by omega)), small_listS (this 2 (by omega)), small_listS (this 3 (by omega)), small_listS (this 4 (by omega))⟩
end Go.Proofs.YtcgadbojojkchaaDoor.U
