/- The walks of print.tell and tellLevel: a line of words is written behind a Builder's bytes. -/
import Derived.Test.YtcgadbojojkchaaDoorWd
import Derived.Test.YtcgadbojojkchaaDoorShelfB
import Derived.Deep.RegionHeld3
import Derived.Lib.ItoaLen
set_option linter.unusedVariables false
set_option linter.unusedSimpArgs false
namespace Go.Proofs.YtcgadbojojkchaaDoor.U
open Go.RowKit Go.Proofs.YtcgadbojojkchaaDoorW.PrintWords Go.Proofs.YtcgadbojojkchaaDoorW.PrintLast Go.Proofs.YtcgadbojojkchaaDoorW.PrintMore

/-- The Builder at block b holds the bytes l; its row lies from block B on. -/
abbrev Bld (B b : Nat) (l : List UInt8) (w : World) : Prop := Lib.IsBuilderF 70 5 B b (Lib.byteCells l) w
abbrev Oth (b : Nat) (w w' : World) : Prop := Lib.OthersKept 5 (some b) w w'
theorem Bld_below {B b : Nat} {l : List UInt8} {w W : World} (h : Bld B b l w) (hb : Below w.heap.size w W) : Bld B b l W := by
  have key : ∀ p, Lib.BuilderAtF 70 5 B b p (Lib.byteCells l) w → Lib.BuilderAtF 70 5 B b p (Lib.byteCells l) W := by
    rintro p ⟨hB, v, hh, ho, hn⟩
    exact ⟨hB, v, blk_below hh hb, ho.kept (grown_of_below hb none) (by cases hv : v.ownBlock <;> simp), hn⟩
  rcases h with h | h
  · exact .inl (key _ h)
  · exact .inr (key _ h)
theorem oth_below {b : Nat} {w W : World} (hb : Below w.heap.size w W) : Oth b w W := fun k o h _ _ => blk_below h hb
theorem oth_blk {b g t : Nat} {w W : World} {cs : Array Value} (h : Oth b w W) (hk : w.heap[g]? = some (.cells cs t (0, 0))) (hne : g ≠ b) (ht : t ≠ 5) : W.heap[g]? = some (.cells cs t (0, 0)) :=
  h g _ hk (fun e => hne (Option.some.inj e)) (fun c fz e => by injection e with _ e2 _; exact ht e2)
theorem below_tail {B : Nat} {w W : World} (hB : B ≤ w.heap.size) (h : Below w.heap.size w W) : Below B w W := h.mono hB

theorem tell_calls (B b : Nat) (l : List UInt8) (A : Option Addr) (c : Nat) (xs : List ByteArray) (w : World) (hb : Bld B b l w) (hB : B ≤ w.heap.size) (h : Kd.string.C w A xs.length xs) (hp : 0 < xs.length) (hc : xs.length ≤ c)
    (hn : xs.length ≤ 140737488355328) (hlen : l.length + (Lib.join (xs.map (·.data.toList)) [32]).length + 1 ≤ 140737488355328) :
    Calls Tryd.prog 32 #[.pointer (some ⟨b, 0, none⟩), .slice A xs.length c] w fun e w' =>
      e = .returned (.tuple #[]) ∧ Bld B b (l ++ lineT xs) w' ∧ Below B w w' ∧ Oth b w w' := by
  obtain ⟨bk, o, rfl, hbk, hcs⟩ := cells_of h hp
  have HCS := Aside0.mk hcs
  have HL := Aside0.mk hlen
  have HBD := Aside0.mk hb
  have HBS := Aside0.mk hB
  clear hcs h hlen hb hB
  go_enter Tryd.func32, Tryd.ntmps32
  go_wp2_with (first
    | (go_at_call 63; refine (Tryd.strings_Join bk o c xs ⟨#[32]⟩ _ HCS.out hbk (by omega) hc (by have := HL.out; show (Lib.join (xs.map (·.data.toList)) [32]).length ≤ 140737488355328; omega)).mono ?_; rintro e w1 ⟨rfl, hb1⟩; have HW1 := Aside0.mk hb1; clear hb1)
    | (go_at_call 62; refine (Tryd.write_string B b (Lib.byteCells l) _ _ (Bld_below HBD.out HW1.out) (by have := HL.out; rw [Lib.byteCells_length, ← data_length]; show l.length + (Lib.join (xs.map (·.data.toList)) [32]).length ≤ 140737488355328; omega) (Nat.le_trans HBS.out HW1.out.size)).mono ?_; rintro e w2 ⟨rfl, hb2, hb3, hb4⟩; have HW2 := Aside0.mk hb2; have HW3 := Aside0.mk hb3; have HW4 := Aside0.mk hb4; clear hb2 hb3 hb4)
    | (go_at_call 64; refine (Tryd.write_byte B b _ 10 _ (.inr HW2.out) (by have := HL.out; rw [List.length_append, Lib.byteCells_length, Lib.strCells_length, ← data_length]; show l.length + (Lib.join (xs.map (·.data.toList)) [32]).length + 1 ≤ 140737488355328; omega) (Nat.le_trans HBS.out (Nat.le_trans HW1.out.size HW3.out.size))).mono ?_; rintro e w3 ⟨rfl, hb2, hb3, hb4⟩; have HX2 := Aside0.mk hb2; have HX3 := Aside0.mk hb3; have HX4 := Aside0.mk hb4; clear hb2 hb3 hb4))
  go_end0
  refine ⟨rfl, .inr ?_, (below_tail HBS.out HW1.out).trans (HW3.out.trans HX3.out), (oth_below HW1.out).trans (HW4.out.trans HX4.out)⟩
  have := HX2.out
  have e : Lib.byteCells (l ++ lineT xs) = Lib.byteCells l ++ Lib.strCells ⟨(Lib.join (xs.map (·.data.toList)) [32]).toArray⟩ ++ [.int .u8 10] := by
    simp [Lib.byteCells, Lib.strCells, lineT]
  rw [e]
  exact this

theorem digitsT_size (n : Int) (h : n ≤ 9223372036854775807) : (digitsT n).size ≤ 21 := by
  rw [← data_length]
  unfold digitsT
  exact Lib.itoa_length_le _ (by split <;> omega) (by split <;> omega)
theorem lineT_length {xs : List ByteArray} (hx : ∀ x ∈ xs, x.size ≤ 600) : (lineT xs).length ≤ xs.length * 601 + 1 := by
  have := join_length xs [32] 600 hx
  unfold lineT
  simp only [List.length_append, List.length_cons, List.length_nil] at this ⊢
  omega
theorem cells_lit (W : World) (xs : List ByteArray) (T : Nat) (i : Nat) : (W.alloc (.cells (xs.map Value.string).toArray T (0, 0))).cell? ⟨W.heap.size, i, none⟩ = (xs[i]?).map Value.string := by
  rw [blk_cell (blk_new W _)]
  simp
theorem lit_C (W : World) (xs : List ByteArray) (T : Nat) (hl : xs.length ≤ 1000) : Kd.string.C (W.alloc (.cells (xs.map Value.string).toArray T (0, 0))) (some ⟨W.heap.size, 0, none⟩) xs.length xs := by
  refine Kd.C_of_reads (enc := Value.string) (d := ByteArray.empty) (h1 := fun _ => rfl) ⟨rfl, by omega, fun hp => ⟨_, rfl, fun j hj => ?_⟩⟩
  rw [add_plain, cells_lit, List.getD_eq_getElem?_getD, List.getElem?_eq_getElem hj]
  rfl

/-- A line told of words that were just laid down. -/
theorem tell_lit (B b : Nat) (l : List UInt8) (xs : List ByteArray) (W : World) (g n : Nat) (hg : g = W.heap.size) (hn : n = xs.length) (hb : Bld B b l W) (hB : B ≤ W.heap.size) (hp : 0 < xs.length) (hl : xs.length ≤ 16) (hx : ∀ x ∈ xs, x.size ≤ 600) (hlen : l.length ≤ 140737488300000) :
    Calls Tryd.prog 32 #[.pointer (some ⟨b, 0, none⟩), .slice (some ⟨g, 0, none⟩) n n] (W.alloc (.cells (xs.map Value.string).toArray 9 (0, 0))) fun e w' =>
      e = .returned (.tuple #[]) ∧ Bld B b (l ++ lineT xs) w' ∧ Below B W w' ∧ Oth b W w' := by
  subst hg hn
  have hj := join_length xs [32] 600 hx
  simp only [List.length_cons, List.length_nil] at hj
  refine (tell_calls B b l _ _ xs _ (Bld_below hb (below_alloc (Below.refl _ _) _)) (by simp; omega) (lit_C W xs _ (by omega)) hp (Nat.le_refl _) (by omega) (by omega)).mono ?_
  rintro e w' ⟨he, h1, h2, h3⟩
  exact ⟨he, h1, (below_tail hB (below_alloc (Below.refl _ _) _)).trans h2, (oth_below (below_alloc (Below.refl _ _) _)).trans h3⟩

/-- Words that were just laid down are a row of one's own. -/
theorem lit_R (W : World) (xs : List ByteArray) (base : Nat) (hb : base ≤ W.heap.size) (hl : xs.length ≤ 1000) :
    Kd.string.R 9 (W.alloc (.cells (xs.map Value.string).toArray 9 (0, 0))) base (fun _ => True) (.slice (some ⟨W.heap.size, 0, none⟩) xs.length xs.length) xs :=
  Kd.R_of_own (enc := Value.string) (h1 := fun _ => rfl) ⟨by simp [encs], .inr ⟨W.heap.size, xs.length, _, rfl, hb, blk_new _ _, Nat.le_refl _, by simp only [maxLen]; omega, by simp, by simp only [encs, Nat.mul_one]; exact List.take_of_length_le (by simp)⟩⟩ (fun _ _ => trivial)

/-- A line told of words that lie in memory. -/
theorem tell_n (B b : Nat) (l : List UInt8) (A : Option Addr) (c : Nat) (xs : List ByteArray) (w : World) (n : Nat) (hn : n = xs.length) (hb : Bld B b l w) (hB : B ≤ w.heap.size) (h : Kd.string.C w A n xs) (hp : 0 < xs.length) (hc : n ≤ c)
    (hl : xs.length ≤ 16) (hx : ∀ x ∈ xs, x.size ≤ 600) (hlen : l.length ≤ 140737488300000) :
    Calls Tryd.prog 32 #[.pointer (some ⟨b, 0, none⟩), .slice A n c] w fun e w' =>
      e = .returned (.tuple #[]) ∧ Bld B b (l ++ lineT xs) w' ∧ Below B w w' ∧ Oth b w w' := by
  subst hn
  have hj := join_length xs [32] 600 hx
  simp only [List.length_cons, List.length_nil] at hj
  exact tell_calls B b l A c xs w hb hB h hp hc (by omega) (by omega)
end Go.Proofs.YtcgadbojojkchaaDoor.U
