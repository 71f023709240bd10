/- What came in, opened: a configuration, slices of slices of structs, as cells of memory say it. -/
import Derived.Test.YtcgadbojojkchaaDoorWc
import Derived.WalkKit
import Derived.ProofKit
import Derived.OpenShut
import Derived.ChangeOld
import Derived.Below
import Derived.Carry
import Derived.Deep.Slices
import Derived.Deep.Fields
import Derived.Deep.DeepHandedRow
import Derived.Lib.LaidTab
import Derived.LaidSub
import Derived.Lay
set_option maxRecDepth 100000
set_option linter.unusedVariables false
set_option linter.unusedSimpArgs false
namespace Go.Proofs.YtcgadbojojkchaaDoor.U
open Go.RowKit Go.Proofs.YtcgadbojojkchaaDoorW.PrintWords Go.Proofs.YtcgadbojojkchaaDoorW.PrintLast Go.Proofs.YtcgadbojojkchaaDoorW.PrintMore
open Go.ChangeShapes Go.WideShapes Go.Deep

section
variable {H : Type} {enc : TypeId × Value → H} {w : World} {base : Nat} {spare : Nat → Bool} {held : Bool}

/-- Cells that read at a type are an element of the kind. -/
def Opn {α : Type} (enc : TypeId × Value → H) (w : World) (base : Nat) (spare : Nat → Bool) (held : Bool) (d : Kd α) (t : TypeId) : Prop :=
  ∀ (fuel : Nat) (cs : List Value) (x : DataW H × List MemPlace), DataW.trod enc Tryd.prog w base spare held fuel t cs = some x → ∃ a, d.K w a cs

theorem opn_string : Opn enc w base spare held Kd.string 9 := by
  intro fuel cs x h
  obtain ⟨s, rfl, _⟩ := DataW.trod_string Tryd.underlying9 h
  exact ⟨s, rfl⟩
theorem opn_int {t : TypeId} (ht : Tryd.prog.underlying t = some (.int .i64)) : Opn enc w base spare held (Kd.int .i64) t := by
  intro fuel cs x h
  obtain ⟨s, rfl, _⟩ := DataW.trod_int ht h
  exact ⟨s, rfl⟩
theorem list_lt {α : Type} {Q : Nat → α → Prop} : ∀ {n : Nat}, (∀ i, i < n → ∃ p, Q i p) → ∃ xs : List α, xs.length = n ∧ ∀ i p, xs[i]? = some p → Q i p
  | 0, _ => ⟨[], rfl, fun i p h => by simp at h⟩
  | n + 1, h => by
    obtain ⟨xs, hl, hx⟩ := list_lt (n := n) (fun i hi => h i (by omega))
    obtain ⟨q, hq⟩ := h n (by omega)
    refine ⟨xs ++ [q], by simp [hl], fun i p hp => ?_⟩
    rw [List.getElem?_append] at hp
    split at hp
    · exact hx i p hp
    · rename_i hi
      cases hk : i - xs.length with
      | zero =>
        rw [hk] at hp
        obtain rfl : q = p := by simpa using hp
        obtain rfl : i = n := by omega
        exact hq
      | succ k => rw [hk] at hp; simp at hp
theorem opn_slice {α : Type} {d : Kd α} {t e : TypeId} (ht : Tryd.prog.underlying t = some (.slice e)) (hsz : Tryd.prog.cellsOf e = d.sz) (hd : Opn enc w base spare held d e) : Opn enc w base spare held (Kd.slice e d) t := by
  classical
  intro fuel cs x h
  rcases open_slice ht h with ⟨rfl, _⟩ | ⟨a, len, cap, m, n, D, Pl, rfl, _, hl, hm, hmm, _, hx⟩
  · exact ⟨[], none, 0, rfl, Nat.le_refl _, rfl, by simp, fun h => absurd h (Nat.lt_irrefl 0)⟩
  · have hle : len ≤ m := by rw [hmm]; split <;> omega
    have hall : ∀ i, i < len → ∃ p : α, ∃ cs' : List Value, cs'.length = d.sz ∧ d.K w p cs' ∧ ∀ j u, cs'[j]? = some u → w.cell? (a.add (i * d.sz + j)) = some u := by
      intro i hi
      obtain ⟨cs', h1, h2⟩ := hx i (by omega)
      obtain ⟨p, hp⟩ := hd _ _ _ h2
      obtain ⟨_, g2, g3⟩ := World.cells?_some h1
      refine ⟨p, cs', by rw [g2, hsz], hp, fun j u hj => ?_⟩
      have hjl : j < Tryd.prog.cellsOf e := by rw [← g2]; exact (List.getElem?_eq_some_iff.1 hj).1
      have := g3 j hjl
      rw [Go.Deep.add_add, hsz, hj] at this
      exact this
    obtain ⟨xs, hxl, hxs⟩ := list_lt hall
    refine ⟨xs, some a, cap, by rw [hxl], by rw [hxl]; exact hl, rfl, ?_, fun _ => ⟨a, rfl, fun j p hj => ?_⟩⟩
    · rw [hxl]; unfold maxLen at hm; omega
    · exact hxs j p hj
theorem field_of {t : TypeId} {fs : Array Field} {fuel : Nat} {cs : List Value} {x : DataW H × List MemPlace} (ht : Tryd.prog.underlying t = some (.struct fs)) (hone : oneCellFields Tryd.prog fs = true)
    (h : DataW.trod enc Tryd.prog w base spare held fuel t cs = some x) : cs.length = Tryd.prog.cellsOf t ∧ ∀ (i : Nat) (f : Field), fs[i]? = some f → ∀ u, cs[i]? = some u → ∃ n y, DataW.trod enc Tryd.prog w base spare held n f.type [u] = some y := by
  obtain ⟨xs, n, _, _, hl, hxl, hf⟩ := DataW.trod_struct ht h
  refine ⟨hl, fun i f hi u hu => ?_⟩
  obtain ⟨o, k⟩ := hone_of hone i f hi
  have hlt : i < xs.length := by rw [hxl]; exact (Array.getElem?_eq_some_iff.1 hi).1
  have := hf i f hi
  rw [o, k, List.getElem?_eq_getElem hlt] at this
  obtain ⟨h1, h2⟩ := List.getElem?_eq_some_iff.1 hu
  have e : (cs.drop i).take 1 = [u] := by rw [List.drop_eq_getElem_cons h1, h2]; rfl
  rw [e] at this
  exact ⟨n, xs[i], this⟩
theorem list5 {α : Type} {l : List α} (h : l.length = 5) : ∃ a b c d e, l = [a, b, c, d, e] := by
  match l, h with
  | [a, b, c, d, e], _ => exact ⟨a, b, c, d, e, rfl⟩
theorem list6 {α : Type} {l : List α} (h : l.length = 6) : ∃ a b c d e f, l = [a, b, c, d, e, f] := by
  match l, h with
  | [a, b, c, d, e, f], _ => exact ⟨a, b, c, d, e, f, rfl⟩
theorem list10 {α : Type} {l : List α} (h : l.length = 10) : ∃ a b c d e f g i j k, l = [a, b, c, d, e, f, g, i, j, k] := by
  match l, h with
  | [a, b, c, d, e, f, g, i, j, k], _ => exact ⟨a, b, c, d, e, f, g, i, j, k, rfl⟩
theorem one_string {n : Nat} {u : Value} {y : DataW H × List MemPlace} (h : DataW.trod enc Tryd.prog w base spare held n 9 [u] = some y) : ∃ s, u = .string s := by
  obtain ⟨s, e, _⟩ := DataW.trod_string Tryd.underlying9 h
  exact ⟨s, by simpa using e⟩
theorem one_int {t : TypeId} (ht : Tryd.prog.underlying t = some (.int .i64)) {n : Nat} {u : Value} {y : DataW H × List MemPlace} (h : DataW.trod enc Tryd.prog w base spare held n t [u] = some y) : ∃ s, u = .int .i64 s := by
  obtain ⟨s, e, _⟩ := DataW.trod_int ht h
  exact ⟨s, by simpa using e⟩
theorem one_slice {α : Type} {d : Kd α} {t e : TypeId} (hs : Opn enc w base spare held (Kd.slice e d) t) {n : Nat} {u : Value} {y : DataW H × List MemPlace} (h : DataW.trod enc Tryd.prog w base spare held n t [u] = some y) : ∃ A c xs, u = .slice A xs.length c ∧ xs.length ≤ c ∧ d.C w A xs.length xs := by
  obtain ⟨xs, A, c, e, h1, h2⟩ := hs _ _ _ h
  exact ⟨A, c, xs, by simpa using e, h1, h2⟩
theorem opn_words : Opn enc w base spare held (Kd.slice 9 Kd.string) 51 := opn_slice Tryd.underlying51 (by kernel_rfl) opn_string
theorem opn_rule : Opn enc w base spare held kRule 53 := by
  intro fuel cs x h
  obtain ⟨hl, hf⟩ := field_of Tryd.underlying53 (by kernel_rfl) h
  obtain ⟨u0, u1, u2, u3, u4, rfl⟩ := list5 (hl.trans (by kernel_rfl))
  obtain ⟨_, _, t0⟩ := hf 0 _ rfl u0 rfl
  obtain ⟨_, _, t1⟩ := hf 1 _ rfl u1 rfl
  obtain ⟨_, _, t2⟩ := hf 2 _ rfl u2 rfl
  obtain ⟨_, _, t3⟩ := hf 3 _ rfl u3 rfl
  obtain ⟨_, _, t4⟩ := hf 4 _ rfl u4 rfl
  obtain ⟨A0, c0, x0, rfl, l0, g0⟩ := one_slice opn_words t0
  obtain ⟨A1, c1, x1, rfl, l1, g1⟩ := one_slice opn_words t1
  obtain ⟨A2, c2, x2, rfl, l2, g2⟩ := one_slice opn_words t2
  obtain ⟨A3, c3, x3, rfl, l3, g3⟩ := one_slice opn_words t3
  obtain ⟨A4, c4, x4, rfl, l4, g4⟩ := one_slice opn_words t4
  exact ⟨⟨x0, x1, x2, x3, x4⟩, kRule_mk w ⟨x0, x1, x2, x3, x4⟩ l0 g0 l1 g1 l2 g2 l3 g3 l4 g4⟩
theorem opn_rules : Opn enc w base spare held (Kd.slice 53 kRule) 44 := opn_slice Tryd.underlying44 (by kernel_rfl) opn_rule
theorem opn_schema : Opn enc w base spare held kSchema 46 := by
  intro fuel cs x h
  obtain ⟨hl, hf⟩ := field_of Tryd.underlying46 (by kernel_rfl) h
  obtain ⟨u0, u1, u2, u3, u4, rfl⟩ := list5 (hl.trans (by kernel_rfl))
  obtain ⟨_, _, t0⟩ := hf 0 _ rfl u0 rfl
  obtain ⟨_, _, t1⟩ := hf 1 _ rfl u1 rfl
  obtain ⟨_, _, t2⟩ := hf 2 _ rfl u2 rfl
  obtain ⟨_, _, t3⟩ := hf 3 _ rfl u3 rfl
  obtain ⟨_, _, t4⟩ := hf 4 _ rfl u4 rfl
  obtain ⟨x0, rfl⟩ := one_string t0
  obtain ⟨x1, rfl⟩ := one_string t1
  obtain ⟨x2, rfl⟩ := one_int (by kernel_rfl) t2
  obtain ⟨x3, rfl⟩ := one_int (by kernel_rfl) t3
  obtain ⟨A4, c4, x4, rfl, l4, g4⟩ := one_slice opn_rules t4
  exact ⟨⟨x0, x1, x2, x3, x4⟩, kSchema_mk w ⟨x0, x1, x2, x3, x4⟩ l4 g4⟩
theorem opn_level : Opn enc w base spare held kLevel 40 := by
  intro fuel cs x h
  obtain ⟨hl, hf⟩ := field_of Tryd.underlying40 (by kernel_rfl) h
  obtain ⟨u0, u1, u2, u3, u4, u5, u6, u7, u8, u9, rfl⟩ := list10 (hl.trans (by kernel_rfl))
  obtain ⟨_, _, t0⟩ := hf 0 _ rfl u0 rfl
  obtain ⟨x0, rfl⟩ := one_string t0
  obtain ⟨_, _, t1⟩ := hf 1 _ rfl u1 rfl
  obtain ⟨x1, rfl⟩ := one_int (by kernel_rfl) t1
  obtain ⟨_, _, t2⟩ := hf 2 _ rfl u2 rfl
  obtain ⟨x2, rfl⟩ := one_int (by kernel_rfl) t2
  obtain ⟨_, _, t3⟩ := hf 3 _ rfl u3 rfl
  obtain ⟨x3, rfl⟩ := one_int (by kernel_rfl) t3
  obtain ⟨_, _, t4⟩ := hf 4 _ rfl u4 rfl
  obtain ⟨x4, rfl⟩ := one_int (by kernel_rfl) t4
  obtain ⟨_, _, t5⟩ := hf 5 _ rfl u5 rfl
  obtain ⟨x5, rfl⟩ := one_int (by kernel_rfl) t5
  obtain ⟨_, _, t6⟩ := hf 6 _ rfl u6 rfl
  obtain ⟨x6, rfl⟩ := one_int (by kernel_rfl) t6
  obtain ⟨_, _, t7⟩ := hf 7 _ rfl u7 rfl
  obtain ⟨x7, rfl⟩ := one_int (by kernel_rfl) t7
  obtain ⟨_, _, t8⟩ := hf 8 _ rfl u8 rfl
  obtain ⟨x8, rfl⟩ := one_int (by kernel_rfl) t8
  obtain ⟨_, _, t9⟩ := hf 9 _ rfl u9 rfl
  obtain ⟨x9, rfl⟩ := one_int (by kernel_rfl) t9
  exact ⟨⟨x0, x1, x2, x3, x4, x5, x6, x7, x8, x9⟩, kLevel_mk w ⟨x0, x1, x2, x3, x4, x5, x6, x7, x8, x9⟩⟩
theorem opn_levels : Opn enc w base spare held (Kd.slice 40 kLevel) 22 := opn_slice Tryd.underlying22 (by kernel_rfl) opn_level
theorem opn_schemas : Opn enc w base spare held (Kd.slice 46 kSchema) 23 := opn_slice Tryd.underlying23 (by kernel_rfl) opn_schema
/-- A configuration that came in by value. -/
theorem open_config {r : Reach} {b0 : Nat} {v : Value} {d : DataW H} {p : List MemPlace} (hv : Value.okWide Tryd.prog w r b0 25 v) (h : DataW.Trod enc Tryd.prog w base spare held 25 v d p) :
    ∃ (c : Config) (A B : Option Addr) (n m : Nat), v = .agg #[.int .i64 c.total, .int .i64 c.period, .int .i64 c.perSeat, .int .i64 c.most, .slice A c.levels.length n, .slice B c.schemas.length m] ∧
      c.levels.length ≤ n ∧ kLevel.C w A c.levels.length c.levels ∧ c.schemas.length ≤ m ∧ kSchema.C w B c.schemas.length c.schemas := by
  obtain ⟨⟨cs⟩, rfl, hsz⟩ := okWide_struct Tryd.underlying25 hv
  obtain ⟨fuel, hf0⟩ := h
  have hf1 : DataW.trod enc Tryd.prog w base spare held fuel 25 cs = some (d, p) := by simpa [Value.cells] using hf0
  obtain ⟨hl, hf⟩ := field_of Tryd.underlying25 (by kernel_rfl) hf1
  obtain ⟨u0, u1, u2, u3, u4, u5, rfl⟩ := list6 (hl.trans (by kernel_rfl))
  obtain ⟨_, _, t0⟩ := hf 0 _ rfl u0 rfl
  obtain ⟨_, _, t1⟩ := hf 1 _ rfl u1 rfl
  obtain ⟨_, _, t2⟩ := hf 2 _ rfl u2 rfl
  obtain ⟨_, _, t3⟩ := hf 3 _ rfl u3 rfl
  obtain ⟨_, _, t4⟩ := hf 4 _ rfl u4 rfl
  obtain ⟨_, _, t5⟩ := hf 5 _ rfl u5 rfl
  obtain ⟨x0, rfl⟩ := one_int (by kernel_rfl) t0
  obtain ⟨x1, rfl⟩ := one_int (by kernel_rfl) t1
  obtain ⟨x2, rfl⟩ := one_int (by kernel_rfl) t2
  obtain ⟨x3, rfl⟩ := one_int (by kernel_rfl) t3
  obtain ⟨A4, c4, x4, rfl, l4, g4⟩ := one_slice opn_levels t4
  obtain ⟨A5, c5, x5, rfl, l5, g5⟩ := one_slice opn_schemas t5
  exact ⟨⟨x0, x1, x2, x3, x4, x5⟩, A4, A5, c4, c5, rfl, l4, g4, l5, g5⟩
end
set_option maxRecDepth 100000 in
theorem laidOut : laidOutB Tryd.prog = true := by kernel_rfl
set_option maxRecDepth 100000 in
theorem own : ownKnob Tryd.prog.godebug = none := by kernel_rfl
end Go.Proofs.YtcgadbojojkchaaDoor.U
