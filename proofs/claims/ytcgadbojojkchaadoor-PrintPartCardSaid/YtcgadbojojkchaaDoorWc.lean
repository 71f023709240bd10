/- The walks of words.Join, words.Digits, print.within, lists, level, schema. -/
import Derived.Test.YtcgadbojojkchaaDoorWb
import Derived.Lib.AppendIntMem
import Derived.RegionTactic
set_option linter.unusedVariables false
set_option linter.unusedSimpArgs false
namespace Go.Proofs.YtcgadbojojkchaaDoor.U
open Go.RowKit Go.Proofs.YtcgadbojojkchaaDoorW.PrintWords Go.Proofs.YtcgadbojojkchaaDoorW.PrintLast Go.Proofs.YtcgadbojojkchaaDoorW.PrintMore
attribute [local go_sem] max2_int max_two

theorem within_calls (n a b : Int) (w : World) : Calls Tryd.prog 41 #[.int .i64 n, .int .i64 a, .int .i64 b] w fun e w' => e = .returned (.bool (within n a b)) ∧ w' = w := by
  go_enter Tryd.func41, Tryd.ntmps41
  go_wp2
  all_goals go_ret
  all_goals exact ⟨by simp [within, *] <;> omega, rfl⟩

theorem lists_calls (w : World) (A0 A1 A2 A3 A4 : Option Addr) (n0 n1 n2 n3 n4 c0 c1 c2 c3 c4 : Nat) :
    Calls Tryd.prog 36 #[.agg #[.slice A0 n0 c0, .slice A1 n1 c1, .slice A2 n2 c2, .slice A3 n3 c3, .slice A4 n4 c4]] w fun e w' =>
      e = .returned (.agg #[.slice A0 n0 c0, .slice A1 n1 c1, .slice A2 n2 c2, .slice A3 n3 c3, .slice A4 n4 c4]) ∧ Below w.heap.size w w' := by
  have hu53 := Tryd.underlying53
  have hu73 := Tryd.underlying73
  have hu51 := Tryd.underlying51
  go_enter Tryd.func36, Tryd.ntmps36
  go_wp2
  exact bodyPost_ret (v := .agg #[.slice A0 n0 c0, .slice A1 n1 c1, .slice A2 n2 c2, .slice A3 n3 c3, .slice A4 n4 c4]) (by simp [results, Tryd.results36, go_sem, hu73]) rfl ⟨rfl, below_alloc (below_alloc (Below.refl _ _) _) _⟩

/-- The table of the powers of ten lies in the world. -/
abbrev Tab (w : World) : Prop := Lib.TabIs Tryd.prog w "internal/strconv.uint64pow10" .u64 Lib.pow10Tab
theorem tab_of {w W : World} (h : Tab w) (hb : Below w.heap.size w W) : Tab W := by
  unfold Tab Lib.TabIs World.var? at h ⊢
  cases hg : Tryd.prog.globalNamed "internal/strconv.uint64pow10" with
  | none => rw [hg] at h; cases h
  | some g =>
    rw [hg] at h
    have h' : (match w.heap[g]? with | some (.cells cs _ _) => some cs | _ => none) = some ((Lib.pow10Tab.map fun z => Value.int .u64 z).toArray) := h
    have hlt : g < w.heap.size := by
      rcases Nat.lt_or_ge g w.heap.size with q | q
      · exact q
      · rw [Array.getElem?_eq_none q] at h'; cases h'
    show (match W.heap[g]? with | some (.cells cs _ _) => some cs | _ => none) = _
    rw [hb.block g hlt]
    exact h'
theorem digits_calls (n : Int) (h1 : n ≤ 9223372036854775807) (w : World) (ht : Tab w) :
    Calls Tryd.prog 33 #[.int .i64 n] w fun e w' => e = .returned (.string (digitsT n)) ∧ Below w.heap.size w w' := by
  have HT := Aside0.mk ht
  clear ht
  by_cases hn : n < 0
  all_goals
    go_enter Tryd.func33, Tryd.ntmps33
    go_wp2_with (go_at_call 65; refine (Tryd.strconv_Itoa _ (by omega) (by omega) _ HT.out).mono ?_; rintro e w' ⟨rfl, k, os, rfl⟩)
    go_ret
    exact ⟨by (first | (rw [digitsT, if_pos hn]; rfl) | (rw [digitsT, if_neg (by omega)]; rfl)), Lib.below_grow _ _ (Nat.le_refl _) _ _⟩

attribute [local go_sem high] eqLevel
set_option maxRecDepth 100000 in
theorem level_calls (l : Level) (hs : l.name.size ≤ 140737488351232) (w : World) :
    Calls Tryd.prog 42 #[.agg #[.string l.name, .int .i64 l.kind, .int .i64 l.shares, .int .i64 l.lend, .int .i64 l.borrow, .int .i64 l.queues, .int .i64 l.hand, .int .i64 l.length, .int .i64 l.wait, .int .i64 l.guess]] w fun e w' =>
      e = .returned (.bool (levelB l)) ∧ Below w.heap.size w w' := by
  obtain ⟨nm, kd, sh, le, bo, qu, ha, ln, wa, gu⟩ := l
  simp only at hs ⊢
  have hu40 := Tryd.underlying40
  go_enter Tryd.func42, Tryd.ntmps42
  go_wp2_with (first | (go_at_call 69; refine (name_calls _ hs _).mono ?_; rintro e w' ⟨rfl, rfl⟩) | (go_at_call 41; refine (within_calls _ _ _ _).mono ?_; rintro e w' ⟨rfl, rfl⟩))
  all_goals try (go_region; go_wp2_with (first | (go_at_call 41; refine (within_calls _ _ _ _).mono ?_; rintro e w' ⟨rfl, rfl⟩)))
  all_goals go_ret
  all_goals refine ⟨?_, ?_⟩
  all_goals first
    | ((repeat (first | exact Below.refl _ _ | apply below_alloc | apply pw_below_drewN | apply below_drew | (refine Below.setCell ?_ (by simp) _))); done)
    | (simp_all [levelB, shareB]; done)
    | (simp_all [levelB, shareB]; omega)
    | (simp_all [levelB, shareB]; rfl)
end Go.Proofs.YtcgadbojojkchaaDoor.U
