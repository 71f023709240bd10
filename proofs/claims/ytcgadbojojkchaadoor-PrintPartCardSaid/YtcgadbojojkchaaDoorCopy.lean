/- The walks of usherref10.words and Copy: a text that the kit's print wrote, turned by a program of the session to its own structures. -/
import Derived.Test.YtcgadbojojkchaaDoorBase
import Derived.Test.YtcgadbojojkchaaDoorWNEv
import Derived.Test.YtcgadbojojkchaaDoorWGuard
import Derived.Test.YtcgadbojojkchaaDoorWInvWords
import Derived.OrdersHeld
import Derived.Laws.BitsLemmas
namespace Go.Proofs.YtcgadbojojkchaaDoor.U
open Go.RowKit Go.Proofs.YtcgadbojojkchaaDoorW.PrintWords Go.Proofs.YtcgadbojojkchaaDoorW.PrintLast Go.Proofs.YtcgadbojojkchaaDoorW.PrintMore
attribute [local go_sem] max2_int min2_int max_two min_two max_three min_three max_four min_four
set_option linter.unusedVariables false
set_option linter.unusedSimpArgs false

/-! ### usherref10_words: function 31 -/
def usherref10_words.f (l0 : List ByteArray) : Option (List ByteArray) := (some (([] : List ByteArray) : List ByteArray)).bind fun y101 => (if y101.length + l0.length < 8796093022208 then (some (y101 ++ l0)) else (none))
set_option maxHeartbeats 8000000 in
set_option maxRecDepth 100000 in
theorem usherref10_words.calls (A0 : Option Addr) (c0 : Nat) (l0 : List ByteArray) (r : List ByteArray) (w : World) (hr0 : Kd.C Kd.string w A0 l0.length l0) (hc0 : l0.length ≤ c0) (h : usherref10_words.f l0 = some r) :
    Calls Tryd.prog 31 #[.slice A0 l0.length c0] w fun e w' => ∃ v0_ : Value, e = .returned (v0_) ∧ Kd.R Kd.string 9 w' w.heap.size (fun _ => True) v0_ r ∧ Below w.heap.size w w' := by
  have HR0 := Aside0.mk hr0
  have HC0 := Aside0.mk hc0
  clear hr0 hc0
  have HB := Aside0.mk (Below.refl w.heap.size w)
  have H : ((some (([] : List ByteArray) : List ByteArray)).bind fun y101 => (if y101.length + l0.length < 8796093022208 then (some (y101 ++ l0)) else (none))) = some r := h
  clear h
  obtain ⟨y101, hy101⟩ : ∃ y_ : List ByteArray, y_ = (([] : List ByteArray)) := ⟨_, rfl⟩
  replace H : (if y101.length + l0.length < 8796093022208 then (some (y101 ++ l0)) else (none)) = some r := by first | (rw [hy101]; with_reducible exact H) | (have H2_ := (Option.bind_some _ _).symm.trans H; rw [hy101]; with_reducible exact H2_) | (have H2_ := (Option.bind_some _ _).symm.trans H; with_reducible exact H2_) | with_reducible exact H | (rw [hy101]; exact H) | exact H
  have Ny101 := Aside0.mk hy101
  clear hy101
  by_cases c2 : y101.length + l0.length < 8796093022208
  · rw [if_pos c2] at H
    have LMc2 := Aside0.mk c2
    clear c2
    obtain ⟨y104, hy104⟩ : ∃ y_ : List ByteArray, y_ = (y101 ++ l0) := ⟨_, rfl⟩
    replace H : (some y104) = some r := by first | (rw [hy104]; with_reducible exact H) | (have H2_ := (Option.bind_some _ _).symm.trans H; rw [hy104]; with_reducible exact H2_) | (have H2_ := (Option.bind_some _ _).symm.trans H; with_reducible exact H2_) | with_reducible exact H | (rw [hy104]; exact H) | exact H
    have Ny104 := Aside0.mk hy104
    clear hy104
    obtain rfl := Option.some.inj H
    go_enter Tryd.func31, Tryd.ntmps31
    go_wp2_with (first | ((with_reducible refine gate_dst (N := 3) rfl ?_); refine Kd.R_lit Kd.string _ 9 ?hg (N := 3) ?hd (xs := ([] : List ByteArray)) (inner := []) (ok := fun _ => True) (okp := fun _ => True) ?hr ?hp (fun _ hk => hk) trivial (Below.refl _ _) (Nat.le_refl _) (by simp) ?_; (case hd => rfl); (case hg => rfl); (case hr => first | (go_simp; done) | (go_simp; rfl)); (case hp => exact (Reps.none _ _)); intro v102 w3 ho4 hb hg_ hnew_; clear hg_ hnew_; (first | rw [← Ny101.out] at ho4 | (simp only [Int.reduceToNat] at ho4; rw [← Ny101.out] at ho4)); have n0_ := Aside0.mk (Kd.R_lower ho4 (below_size (by repeat (first | (with_reducible first | exact HB.out | apply below_alloc | apply pw_below_drewN | apply below_drew1) | exact HB.out)))); have n1_ := Aside0.mk (below_step (by repeat (first | (with_reducible first | exact HB.out | apply below_alloc | apply pw_below_drewN | apply below_drew1) | exact HB.out)) hb); clear HB; have HO103 := n0_; have HB := n1_; clear n0_ n1_; clear hb ho4) | ((with_reducible refine gate_builtin (b := .append) (xs := #[.tmp 3, .tmp 4]) rfl ?_); at_builtin; refine Kd.R_append_rows Kd.string (w0 := w) w.heap.size rfl (.tmp 3) (.tmp 4) 51 9 (.string ⟨#[]⟩) 16 rfl Tryd.underlying51 infoStr rfl (by decide) (by omega) v102 y101 l0 _ _ _ (fun _ => True) (fun _ => False) rfl rfl ?aO ?aR (fun _ _ h => h) (fun _ h => h.elim) ?aF ?aB ?aS ?aL ?_; (case aR => repeat (first | exact (Kd.C_below HR0.out HB.out) | (with_reducible refine Kd.C_alloc ?_ _) | (with_reducible refine Kd.C_drewN ?_ _) | (with_reducible refine Kd.C_drew ?_))); (case aB => exact (by repeat (first | (with_reducible first | exact HB.out | apply below_alloc | apply pw_below_drewN | apply below_drew1) | exact HB.out))); (case aF => exact (fun _ _ => trivial)); (case aO => exact (by (with_reducible repeat (first | apply Kd.R_alloc | apply Kd.R_drewN | apply Kd.R_drew)); exact HO103.out)); (case aS => exact (below_size (by repeat (first | (with_reducible first | exact HB.out | apply below_alloc | apply pw_below_drewN | apply below_drew1) | exact HB.out)))); (case aL => have := LMc2.out; omega); intro v105 w5 ho hb hg hat; rw [← Ny104.out] at ho; have n0_ := Aside0.mk (hb); have n1_ := Aside0.mk (ho); clear HB; clear HO103; have HB := n0_; have HO106 := n1_; clear n0_ n1_; clear ho hb hg hat))
    go_ret
    exact ⟨_, by first | rfl | (simp [errW_none, errW_some] <;> rfl) | (simp [*, errW_none, errW_some] <;> rfl), by (with_reducible repeat (first | apply Kd.R_alloc | apply Kd.R_drewN | apply Kd.R_drew)); exact HO106.out, by repeat (first | (with_reducible first | exact HB.out | apply below_alloc | apply pw_below_drewN | apply below_drew1) | exact HB.out)⟩
  · rw [if_neg c2] at H
    exact absurd H (by simp)


/-! ### usherref10_Copy: function 14 -/
mutual
def usherref10_Copy.l0 : Nat → List (Schema) → Int → Int → Int → Int → Int → List (Level) → List (Schema) → Option (Int × Int × Int × Int × (List (Level)) × (List (Schema)))
  | 0, _, _, _, _, _, _, _, _ => none
  | k + 1, x3, x4, x108000, x108001, x108002, x108003, x108004, x108005 => if x4 < (x108005.length : Int) then (if 0 ≤ x4 then (usherref10_Copy.l1 k x3 x4 ([] : List (Rule)) 0 x108000 x108001 x108002 x108003 x108004 x108005 ((rd_Schema x108005 x4).name) ((rd_Schema x108005 x4).level) ((rd_Schema x108005 x4).rank) ((rd_Schema x108005 x4).tells) ((rd_Schema x108005 x4).rules)) else (none)) else (some (x108000, x108001, x108002, x108003, x108004, x3))
def usherref10_Copy.l1 : Nat → List (Schema) → Int → List (Rule) → Int → Int → Int → Int → Int → List (Level) → List (Schema) → ByteArray → ByteArray → Int → Int → List (Rule) → Option (Int × Int × Int × Int × (List (Level)) × (List (Schema)))
  | 0, _, _, _, _, _, _, _, _, _, _, _, _, _, _, _ => none
  | k + 1, x3, x4, x6, x7, x108000, x108001, x108002, x108003, x108004, x108005, x117000, x117001, x117002, x117003, x117004 => if x7 < (x117004.length : Int) then (if 0 ≤ x7 then ((usherref10_words.f ((rd_Rule x117004 x7).users)).bind fun t122 => ((usherref10_words.f ((rd_Rule x117004 x7).groups)).bind fun t125 => ((usherref10_words.f ((rd_Rule x117004 x7).verbs)).bind fun t128 => ((usherref10_words.f ((rd_Rule x117004 x7).resources)).bind fun t131 => ((usherref10_words.f ((rd_Rule x117004 x7).spaces)).bind fun t134 => (if x6.length < 1172812402961 then (usherref10_Copy.l1 k x3 x4 (x6 ++ [(⟨t122, t125, t128, t131, t134⟩ : Rule)]) (wrap64 (x7 + 1)) x108000 x108001 x108002 x108003 x108004 x108005 x117000 x117001 x117002 x117003 x117004) else (none))))))) else (none)) else (if x3.length < 1954687338268 then (usherref10_Copy.l0 k (x3 ++ [(⟨x117000, x117001, x117002, x117003, x6⟩ : Schema)]) (wrap64 (x4 + 1)) x108000 x108001 x108002 x108003 x108004 x108005) else (none))
end
def usherref10_Copy.f (k : Nat) (a0_0 : Int) (a0_1 : Int) (a0_2 : Int) (a0_3 : Int) (l0_4 : List (Level)) (l0_5 : List (Schema)) : Option (Int × Int × Int × Int × (List (Level)) × (List (Schema))) := (some (([] : List (Level)) : List (Level))).bind fun y109 => (if y109.length + l0_4.length < 1599289640401 then (usherref10_Copy.l0 k ([] : List (Schema)) 0 a0_0 a0_1 a0_2 a0_3 (y109 ++ l0_4) l0_5) else (none))
theorem usherref10_Copy.mono_l : ∀ k, (∀ y0 y1 y2 y3 y4 y5 y6 y7, LeO (usherref10_Copy.l0 k y0 y1 y2 y3 y4 y5 y6 y7) (usherref10_Copy.l0 (k + 1) y0 y1 y2 y3 y4 y5 y6 y7)) ∧ (∀ y0 y1 y2 y3 y4 y5 y6 y7 y8 y9 y10 y11 y12 y13 y14, LeO (usherref10_Copy.l1 k y0 y1 y2 y3 y4 y5 y6 y7 y8 y9 y10 y11 y12 y13 y14) (usherref10_Copy.l1 (k + 1) y0 y1 y2 y3 y4 y5 y6 y7 y8 y9 y10 y11 y12 y13 y14))
  | 0 => ⟨fun _ _ _ _ _ _ _ _ r h => by simp [usherref10_Copy.l0] at h, fun _ _ _ _ _ _ _ _ _ _ _ _ _ _ _ r h => by simp [usherref10_Copy.l1] at h⟩
  | k + 1 => by
    obtain ⟨ih0, ih1⟩ := usherref10_Copy.mono_l k
    refine ⟨?_, ?_⟩
    · intro y0 y1 y2 y3 y4 y5 y6 y7
      unfold usherref10_Copy.l0
      repeat' first
      | (with_reducible exact ih0 _ _ _ _ _ _ _ _)
      | (with_reducible exact ih1 _ _ _ _ _ _ _ _ _ _ _ _ _ _ _)
      | (with_reducible exact LeO.refl _)
      | (with_reducible exact LeO.none _)
      | (with_reducible refine LeO.ite ?_ ?_)
      | (with_reducible refine LeO.bind ?_ (fun _ => ?_))
      | exact ih0 _ _ _ _ _ _ _ _
      | exact ih1 _ _ _ _ _ _ _ _ _ _ _ _ _ _ _
      | exact LeO.none _
      | refine LeO.ite ?_ ?_
      | refine LeO.bind ?_ (fun _ => ?_)
    · intro y0 y1 y2 y3 y4 y5 y6 y7 y8 y9 y10 y11 y12 y13 y14
      unfold usherref10_Copy.l1
      repeat' first
      | (with_reducible exact ih0 _ _ _ _ _ _ _ _)
      | (with_reducible exact ih1 _ _ _ _ _ _ _ _ _ _ _ _ _ _ _)
      | (with_reducible exact LeO.refl _)
      | (with_reducible exact LeO.none _)
      | (with_reducible refine LeO.ite ?_ ?_)
      | (with_reducible refine LeO.bind ?_ (fun _ => ?_))
      | exact ih0 _ _ _ _ _ _ _ _
      | exact ih1 _ _ _ _ _ _ _ _ _ _ _ _ _ _ _
      | exact LeO.none _
      | refine LeO.ite ?_ ?_
      | refine LeO.bind ?_ (fun _ => ?_)
theorem usherref10_Copy.mono : ∀ a0 a1 a2 a3 a4 a5 k, LeO (usherref10_Copy.f k a0 a1 a2 a3 a4 a5) (usherref10_Copy.f (k + 1) a0 a1 a2 a3 a4 a5) := by
  intro a0 a1 a2 a3 a4 a5 k
  obtain ⟨ih0, ih1⟩ := usherref10_Copy.mono_l k
  unfold usherref10_Copy.f
  repeat' first
      | (with_reducible exact ih0 _ _ _ _ _ _ _ _)
      | (with_reducible exact ih1 _ _ _ _ _ _ _ _ _ _ _ _ _ _ _)
      | (with_reducible exact LeO.refl _)
      | (with_reducible exact LeO.none _)
      | (with_reducible refine LeO.ite ?_ ?_)
      | (with_reducible refine LeO.bind ?_ (fun _ => ?_))
      | exact ih0 _ _ _ _ _ _ _ _
      | exact ih1 _ _ _ _ _ _ _ _ _ _ _ _ _ _ _
      | exact LeO.none _
      | refine LeO.ite ?_ ?_
      | refine LeO.bind ?_ (fun _ => ?_)
def usherref10_Copy.T12 : Bool × List (List Nat × List Nat) := (true, [([], []), ([], []), ([1], [1]), ([2], [2]), ([], []), ([4], [4]), ([5, 3], [5]), ([], []), ([7], [7]), ([8, 6], [8]), ([], []), ([10], [10]), ([11, 9], [11]), ([], []), ([13], [13]), ([14, 12], [14]), ([3, 6, 9, 12, 15], [3, 6, 9, 12, 15]), ([16], [16]), ([0, 17, 15], [0, 17]), ([18, 18, 0, 1, 2, 3, 4, 5, 6, 7, 8, 9, 10, 11, 12, 13, 14, 15, 16, 17, 18], [0, 18])])
def usherref10_Copy.B12 : List Nat := [0, 0, 2, 6, 0, 16, 62, 0, 128, 510, 0, 1024, 4094, 0, 8192, 32766, 65534, 131070, 262143, 524287]
theorem usherref10_Copy.tab12 : rtab .any (opsOf Tryd.f14 12) = usherref10_Copy.T12 := by kernel_rfl
theorem usherref10_Copy.bits12 : waitsOk usherref10_Copy.T12.2 usherref10_Copy.B12 = true := by kernel_rfl
set_option maxHeartbeats 8000000 in
set_option maxRecDepth 100000 in
theorem usherref10_Copy.calls (k : Nat) (a0_0 : Int) (a0_1 : Int) (a0_2 : Int) (a0_3 : Int) (A0_4 : Option Addr) (c0_4 : Nat) (l0_4 : List (Level)) (A0_5 : Option Addr) (c0_5 : Nat) (l0_5 : List (Schema)) (r1 : Int) (r2 : Int) (r3 : Int) (r4 : Int) (r5 : List (Level)) (r6 : List (Schema)) (w : World) (hr0_4 : Kd.C kLevel w A0_4 l0_4.length l0_4) (hc0_4 : l0_4.length ≤ c0_4) (hr0_5 : Kd.C kSchema w A0_5 l0_5.length l0_5) (hc0_5 : l0_5.length ≤ c0_5) (h : usherref10_Copy.f k a0_0 a0_1 a0_2 a0_3 l0_4 l0_5 = some (r1, r2, r3, r4, r5, r6)) :
    Calls Tryd.prog 14 #[.agg #[.int .i64 a0_0, .int .i64 a0_1, .int .i64 a0_2, .int .i64 a0_3, .slice A0_4 l0_4.length c0_4, .slice A0_5 l0_5.length c0_5]] w fun e w' => ∃ v4_ v5_ : Value, e = .returned (.agg #[.int .i64 r1, .int .i64 r2, .int .i64 r3, .int .i64 r4, v4_, v5_]) ∧ Kd.R kLevel 40 w' w.heap.size (fun _ => True) v4_ r5 ∧ Kd.R kSchema 46 w' w.heap.size (fun _ => True) v5_ r6 ∧ Below w.heap.size w w' := by
  have hu25 := Tryd.underlying25
  have hu46 := Tryd.underlying46
  have hu53 := Tryd.underlying53
  have HR0_4 := Aside0.mk hr0_4
  have HC0_4 := Aside0.mk hc0_4
  clear hr0_4 hc0_4
  have HR0_5 := Aside0.mk hr0_5
  have HC0_5 := Aside0.mk hc0_5
  clear hr0_5 hc0_5
  have HB := Aside0.mk (Below.refl w.heap.size w)
  have H : ((some (([] : List (Level)) : List (Level))).bind fun y109 => (if y109.length + l0_4.length < 1599289640401 then (usherref10_Copy.l0 k ([] : List (Schema)) 0 a0_0 a0_1 a0_2 a0_3 (y109 ++ l0_4) l0_5) else (none))) = some (r1, r2, r3, r4, r5, r6) := h
  clear h
  obtain ⟨y109, hy109⟩ : ∃ y_ : List (Level), y_ = (([] : List (Level))) := ⟨_, rfl⟩
  replace H : (if y109.length + l0_4.length < 1599289640401 then (usherref10_Copy.l0 k ([] : List (Schema)) 0 a0_0 a0_1 a0_2 a0_3 (y109 ++ l0_4) l0_5) else (none)) = some (r1, r2, r3, r4, r5, r6) := by first | (rw [hy109]; with_reducible exact H) | (have H2_ := (Option.bind_some _ _).symm.trans H; rw [hy109]; with_reducible exact H2_) | (have H2_ := (Option.bind_some _ _).symm.trans H; with_reducible exact H2_) | with_reducible exact H | (rw [hy109]; exact H) | exact H
  have Ny109 := Aside0.mk hy109
  clear hy109
  by_cases c2 : y109.length + l0_4.length < 1599289640401
  · rw [if_pos c2] at H
    have LMc2 := Aside0.mk c2
    clear c2
    obtain ⟨y112, hy112⟩ : ∃ y_ : List (Level), y_ = (y109 ++ l0_4) := ⟨_, rfl⟩
    replace H : (usherref10_Copy.l0 k ([] : List (Schema)) 0 a0_0 a0_1 a0_2 a0_3 y112 l0_5) = some (r1, r2, r3, r4, r5, r6) := by first | (rw [hy112]; with_reducible exact H) | (have H2_ := (Option.bind_some _ _).symm.trans H; rw [hy112]; with_reducible exact H2_) | (have H2_ := (Option.bind_some _ _).symm.trans H; with_reducible exact H2_) | with_reducible exact H | (rw [hy112]; exact H) | exact H
    have Ny112 := Aside0.mk hy112
    clear hy112
    have H' := Aside0.mk H
    clear H
    go_enter Tryd.func14, Tryd.ntmps14
    go_wp2_with (first | ((with_reducible refine gate_dst (N := 1) rfl ?_); refine box_event ?hg (N := 1) ?hd (cs := #[.int .i64 a0_0, .int .i64 a0_1, .int .i64 a0_2, .int .i64 a0_3, .slice A0_4 l0_4.length c0_4, .slice A0_5 l0_5.length c0_5]) (t := 25) ?hr ?_; (case hd => rfl); (case hg => rfl); (case hr => first | (go_simp; done) | (go_simp; rfl)); intro gb107 hg w3 hbox hb; have n0_ := Aside0.mk (below_step (by repeat (first | (with_reducible first | exact HB.out | apply below_alloc | apply pw_below_drewN | apply below_drew1) | exact HB.out)) hb); have n1_ := Aside0.mk (hbox); have n2_ := Aside0.mk ((by rw [hg]; exact (below_size (by repeat (first | (with_reducible first | exact HB.out | apply below_alloc | apply pw_below_drewN | apply below_drew1) | exact HB.out))) : w.heap.size ≤ gb107)); have n3_ := Aside0.mk ((by rw [hg]; exact (below_size (by repeat (first | (with_reducible first | exact HB.out | apply below_alloc | apply pw_below_drewN | apply below_drew1) | exact HB.out))) : w.heap.size ≤ gb107)); clear HB; have HB := n0_; have BK107 := n1_; have GW107 := n2_; have GE107 := n3_; clear n0_ n1_ n2_ n3_; clear hb hbox hg) | ((with_reducible refine gate_dst (N := 2) rfl ?_); refine box_event ?hg (N := 2) ?hd (cs := #[.int .i64 0, .int .i64 0, .int .i64 0, .int .i64 0, .slice none 0 0, .slice none 0 0]) (t := 25) ?hr ?_; (case hd => rfl); (case hg => rfl); (case hr => first | (go_simp; done) | (go_simp; rfl)); intro gb108 hg w4 hbox hb; have n0_ := Aside0.mk (blk_below (g := gb107) (o := .cells #[.int .i64 a0_0, .int .i64 a0_1, .int .i64 a0_2, .int .i64 a0_3, .slice A0_4 l0_4.length c0_4, .slice A0_5 l0_5.length c0_5] 25 (0, 0)) (by (with_reducible repeat (first | refine blk_drewN ?_ _ | refine blk_drew ?_ | refine blk_alloc ?_ _)); exact BK107.out) hb); have n1_ := Aside0.mk (below_step (by repeat (first | (with_reducible first | exact HB.out | apply below_alloc | apply pw_below_drewN | apply below_drew1 | refine below_set ?_ GE107.out) | exact HB.out)) hb); have n2_ := Aside0.mk (hbox); have n3_ := Aside0.mk ((by rw [hg]; exact (below_size (by repeat (first | (with_reducible first | exact HB.out | apply below_alloc | apply pw_below_drewN | apply below_drew1 | refine below_set ?_ GE107.out) | exact HB.out))) : w.heap.size ≤ gb108)); have n4_ := Aside0.mk ((by rw [hg]; exact (below_size (by repeat (first | (with_reducible first | exact HB.out | apply below_alloc | apply pw_below_drewN | apply below_drew1 | refine below_set ?_ GE107.out) | exact HB.out))) : w.heap.size ≤ gb108)); have n5_ := Aside0.mk ((by rw [hg]; exact Nat.ne_of_lt (blk_lt (g := gb107) (o := .cells #[.int .i64 a0_0, .int .i64 a0_1, .int .i64 a0_2, .int .i64 a0_3, .slice A0_4 l0_4.length c0_4, .slice A0_5 l0_5.length c0_5] 25 (0, 0)) (by (with_reducible repeat (first | refine blk_drewN ?_ _ | refine blk_drew ?_ | refine blk_alloc ?_ _)); exact BK107.out)) : gb107 ≠ gb108)); have n6_ := Aside0.mk ((by rw [hg]; exact Nat.ne_of_gt (blk_lt (g := gb107) (o := .cells #[.int .i64 a0_0, .int .i64 a0_1, .int .i64 a0_2, .int .i64 a0_3, .slice A0_4 l0_4.length c0_4, .slice A0_5 l0_5.length c0_5] 25 (0, 0)) (by (with_reducible repeat (first | refine blk_drewN ?_ _ | refine blk_drew ?_ | refine blk_alloc ?_ _)); exact BK107.out)) : gb108 ≠ gb107)); clear BK107; clear HB; have BK107 := n0_; have HB := n1_; have BK108 := n2_; have GW108 := n3_; have GE108 := n4_; have NB107_108 := n5_; have NB108_107 := n6_; clear n0_ n1_ n2_ n3_ n4_ n5_ n6_; clear hb hbox hg) | ((with_reducible refine gate_dst (N := 9) rfl ?_); refine Kd.R_lit kLevel _ 40 ?hg (N := 9) ?hd (xs := ([] : List (Level))) (inner := []) (ok := fun _ => True) (okp := fun _ => True) ?hr ?hp (fun _ hk => hk) trivial (Below.refl _ _) (Nat.le_refl _) (by simp) ?_; (case hd => rfl); (case hg => rfl); (case hr => first | (go_simp; done) | (go_simp; rfl)); (case hp => exact (Reps.none _ _)); intro v110 w5 ho6 hb hg_ hnew_; clear hg_ hnew_; (first | rw [← Ny109.out] at ho6 | (simp only [Int.reduceToNat] at ho6; rw [← Ny109.out] at ho6)); have n0_ := Aside0.mk (Kd.R_lower ho6 (below_size (by repeat (first | (with_reducible first | exact HB.out | apply below_alloc | apply pw_below_drewN | apply below_drew1 | refine below_set ?_ GE107.out | refine below_set ?_ GE108.out) | exact HB.out)))); have n1_ := Aside0.mk (blk_below (g := gb107) (o := .cells #[.int .i64 a0_0, .int .i64 a0_1, .int .i64 a0_2, .int .i64 a0_3, .slice A0_4 l0_4.length c0_4, .slice A0_5 l0_5.length c0_5] 25 (0, 0)) (by (with_reducible repeat (first | refine blk_drewN ?_ _ | refine blk_drew ?_ | refine blk_alloc ?_ _)); exact BK107.out) hb); have n2_ := Aside0.mk (blk_below (g := gb108) (o := .cells #[.int .i64 0, .int .i64 0, .int .i64 0, .int .i64 0, .slice none 0 0, .slice none 0 0] 25 (0, 0)) (by (with_reducible repeat (first | refine blk_drewN ?_ _ | refine blk_drew ?_ | refine blk_alloc ?_ _)); exact BK108.out) hb); have n3_ := Aside0.mk (below_step (by repeat (first | (with_reducible first | exact HB.out | apply below_alloc | apply pw_below_drewN | apply below_drew1 | refine below_set ?_ GE107.out | refine below_set ?_ GE108.out) | exact HB.out)) hb); clear BK107; clear BK108; clear HB; have HO111 := n0_; have BK107 := n1_; have BK108 := n2_; have HB := n3_; clear n0_ n1_ n2_ n3_; clear hb ho6; have hnb7 := NB107_108.out; have hnc7 := NB108_107.out; have hcz8_0 : w5.cell? ⟨gb107, 0, none⟩ = some (.int .i64 a0_0) := (blk_cell BK107.out 0).trans rfl; have hcz8_1 : w5.cell? ⟨gb107, 1, none⟩ = some (.int .i64 a0_1) := (blk_cell BK107.out 1).trans rfl; have hcz8_2 : w5.cell? ⟨gb107, 2, none⟩ = some (.int .i64 a0_2) := (blk_cell BK107.out 2).trans rfl; have hcz8_3 : w5.cell? ⟨gb107, 3, none⟩ = some (.int .i64 a0_3) := (blk_cell BK107.out 3).trans rfl; have hcz8_4 : w5.cell? ⟨gb107, 4, none⟩ = some (.slice A0_4 l0_4.length c0_4) := (blk_cell BK107.out 4).trans rfl; have hcz8_5 : w5.cell? ⟨gb107, 5, none⟩ = some (.slice A0_5 l0_5.length c0_5) := (blk_cell BK107.out 5).trans rfl; have hfz8_0 := blk_frozen BK107.out 0; have hfz8_1 := blk_frozen BK107.out 1; have hfz8_2 := blk_frozen BK107.out 2; have hfz8_3 := blk_frozen BK107.out 3; have hfz8_4 := blk_frozen BK107.out 4; have hfz8_5 := blk_frozen BK107.out 5) | ((with_reducible refine gate_builtin (b := .append) (xs := #[.tmp 9, .tmp 11]) rfl ?_); at_builtin; refine Kd.R_append_rows kLevel (w0 := w) w.heap.size rfl (.tmp 9) (.tmp 11) 22 40 (.agg #[(.string ⟨#[]⟩), (.int .i64 0), (.int .i64 0), (.int .i64 0), (.int .i64 0), (.int .i64 0), (.int .i64 0), (.int .i64 0), (.int .i64 0), (.int .i64 0)]) 88 rfl Tryd.underlying22 infoLevel rfl (by decide) (by omega) v110 y109 l0_4 _ _ _ (fun _ => True) (fun _ => False) rfl rfl ?aO ?aR (fun _ _ h => h) (fun _ h => h.elim) ?aF ?aB ?aS ?aL ?_; (case aR => repeat (first | exact (Kd.C_below HR0_4.out HB.out) | (with_reducible refine Kd.C_alloc ?_ _) | (with_reducible refine Kd.C_drewN ?_ _) | (with_reducible refine Kd.C_drew ?_))); (case aB => exact (by repeat (first | (with_reducible first | exact HB.out | apply below_alloc | apply pw_below_drewN | apply below_drew1 | refine below_set ?_ GE107.out | refine below_set ?_ GE108.out) | exact HB.out))); (case aF => exact (fun _ _ => trivial)); (case aO => exact (by (with_reducible repeat (first | apply Kd.R_alloc | apply Kd.R_drewN | apply Kd.R_drew)); exact HO111.out)); (case aS => exact (below_size (by repeat (first | (with_reducible first | exact HB.out | apply below_alloc | apply pw_below_drewN | apply below_drew1 | refine below_set ?_ GE107.out | refine below_set ?_ GE108.out) | exact HB.out)))); (case aL => have := LMc2.out; omega); intro v113 w9 ho hb hg hat; rw [← Ny112.out] at ho; have n0_ := Aside0.mk (blk_grown (g := gb107) (o := .cells #[.int .i64 a0_0, .int .i64 a0_1, .int .i64 a0_2, .int .i64 a0_3, .slice A0_4 l0_4.length c0_4, .slice A0_5 l0_5.length c0_5] 25 (0, 0)) (by (with_reducible repeat (first | refine blk_drewN ?_ _ | refine blk_drew ?_ | refine blk_alloc ?_ _)); exact BK107.out) hg (Kd.R_ne HO111.out BK107.out (by decide))); have n1_ := Aside0.mk (blk_grown (g := gb108) (o := .cells #[.int .i64 0, .int .i64 0, .int .i64 0, .int .i64 0, .slice none 0 0, .slice none 0 0] 25 (0, 0)) (by (with_reducible repeat (first | refine blk_drewN ?_ _ | refine blk_drew ?_ | refine blk_alloc ?_ _)); exact BK108.out) hg (Kd.R_ne HO111.out BK108.out (by decide))); have n2_ := Aside0.mk (hb); have n3_ := Aside0.mk (ho); clear BK107; clear BK108; clear HB; clear HO111; have BK107 := n0_; have BK108 := n1_; have HB := n2_; have HO114 := n3_; clear n0_ n1_ n2_ n3_; clear ho hb hg hat; obtain ⟨Ao10, co10, eo10⟩ := Kd.R_slice HO114.out; subst eo10; have hcz11_0 : w9.cell? ⟨gb107, 0, none⟩ = some (.int .i64 a0_0) := (blk_cell BK107.out 0).trans rfl; have hcz11_1 : w9.cell? ⟨gb107, 1, none⟩ = some (.int .i64 a0_1) := (blk_cell BK107.out 1).trans rfl; have hcz11_2 : w9.cell? ⟨gb107, 2, none⟩ = some (.int .i64 a0_2) := (blk_cell BK107.out 2).trans rfl; have hcz11_3 : w9.cell? ⟨gb107, 3, none⟩ = some (.int .i64 a0_3) := (blk_cell BK107.out 3).trans rfl; have hcz11_4 : w9.cell? ⟨gb107, 4, none⟩ = some (.slice A0_4 l0_4.length c0_4) := (blk_cell BK107.out 4).trans rfl; have hcz11_5 : w9.cell? ⟨gb107, 5, none⟩ = some (.slice A0_5 l0_5.length c0_5) := (blk_cell BK107.out 5).trans rfl; have hfz11_0 := blk_frozen BK107.out 0; have hfz11_1 := blk_frozen BK107.out 1; have hfz11_2 := blk_frozen BK107.out 2; have hfz11_3 := blk_frozen BK107.out 3; have hfz11_4 := blk_frozen BK107.out 4; have hfz11_5 := blk_frozen BK107.out 5))
    go_loopg [3, 4] k (fun kq v3 v4 w' => ∃ (x3_1 : List (Schema)) (x4_1 : Int), v4 = .int .i64 x4_1 ∧ Aside0 (usherref10_Copy.l0 kq x3_1 x4_1 a0_0 a0_1 a0_2 a0_3 y112 l0_5 = some (r1, r2, r3, r4, r5, r6)) ∧ Aside0 (kq ≤ k) ∧ Aside0 (Kd.R kSchema 46 w' w.heap.size (fun _ => True) v3 x3_1) ∧ Aside0 (Kd.R kLevel 40 w' w.heap.size (fun _ => True) (.slice Ao10 y112.length co10) y112) ∧ Aside0 (w'.heap[gb107]? = some (.cells #[.int .i64 a0_0, .int .i64 a0_1, .int .i64 a0_2, .int .i64 a0_3, (.slice Ao10 y112.length co10), (.slice A0_5 l0_5.length c0_5)] 25 (0, 0))) ∧ Aside0 (w'.heap[gb108]? = some (.cells #[.int .i64 0, .int .i64 0, .int .i64 0, .int .i64 0, (.slice none 0 0), (.slice none 0 0)] 25 (0, 0))) ∧ Aside0 (Below w.heap.size w w'))
    case atStart => exact ⟨(([] : List (Schema))), (0), (by first | rfl | (simp; done) | (simp [*]; done)), H', ⟨Nat.le_refl _⟩, ⟨by first | exact Kd.R_nil _ _ _ _ _ | exact Kd.N_nil _ _ _ _ _ | exact Kd.V_nil _ _ _ _ _ | exact Kd.Q_nil _ _ _ _ _ | exact Kd.S_nil _ _ _ _ _⟩, ⟨by (with_reducible repeat (first | apply Kd.R_alloc | apply Kd.R_drewN | apply Kd.R_drew)); exact Kd.R_mono (Kd.R_far (p := ⟨gb107, 4, none⟩) (Kd.R_types HO114.out BK107.out (by decide)) (fun _ hk => hk.2) (.slice Ao10 y112.length co10)) (fun _ hk => trivial)⟩, ⟨by (with_reducible repeat (first | refine blk_drewN ?_ _ | refine blk_drew ?_ | refine blk_alloc ?_ _)); refine blk_put (cs := #[.int .i64 a0_0, .int .i64 a0_1, .int .i64 a0_2, .int .i64 a0_3, .slice A0_4 l0_4.length c0_4, .slice A0_5 l0_5.length c0_5]) ?_ 4 _ rfl; (with_reducible repeat (first | refine blk_drewN ?_ _ | refine blk_drew ?_ | refine blk_alloc ?_ _)); exact BK107.out⟩, ⟨by (with_reducible repeat (first | refine blk_drewN ?_ _ | refine blk_drew ?_ | refine blk_alloc ?_ _)); refine blk_far ?_ NB108_107.out _; (with_reducible repeat (first | refine blk_drewN ?_ _ | refine blk_drew ?_ | refine blk_alloc ?_ _)); exact BK108.out⟩, ⟨by repeat (first | (with_reducible first | exact HB.out | apply below_alloc | apply pw_below_drewN | apply below_drew1 | refine below_set ?_ GE107.out | refine below_set ?_ GE108.out) | exact HB.out)⟩⟩
    case round =>
      clear H'
      try clear c1
      try clear c2
      try clear p2
      try clear c7
      try clear hcz11_0
      try clear hcz11_1
      try clear hcz11_2
      try clear hcz11_3
      try clear hcz11_4
      try clear hcz11_5
      try clear hcz8_0
      try clear hcz8_1
      try clear hcz8_2
      try clear hcz8_3
      try clear hcz8_4
      try clear hcz8_5
      try clear hfz11_0
      try clear hfz11_1
      try clear hfz11_2
      try clear hfz11_3
      try clear hfz11_4
      try clear hfz11_5
      try clear hfz8_0
      try clear hfz8_1
      try clear hfz8_2
      try clear hfz8_3
      try clear hfz8_4
      try clear hfz8_5
      obtain ⟨x3_1, x4_1, rfl, HA, HK1, HO_3, HO_108004, BK107, BK108, HB⟩ := hrel
      cases gk with
      | zero => exact absurd HA.out (by simp [usherref10_Copy.l0])
      | succ k1 =>
        have H := HA.out
        clear HA
        simp only [usherref10_Copy.l0] at H
        by_cases c12 : x4_1 < (l0_5.length : Int)
        · rw [if_pos c12] at H
          have c12b0 : decide (x4_1 < (l0_5.length : Int)) = true := decide_eq_true c12
          clear c12
          by_cases c13 : 0 ≤ x4_1
          · rw [if_pos c13] at H
            have c13b0 : decide (0 ≤ x4_1) = true := decide_eq_true c13
            clear c13
            have H' := Aside0.mk H
            clear H
            have hnb14 := NB107_108.out
            have hnc14 := NB108_107.out
            have hcz15_0 : wr.cell? ⟨gb107, 0, none⟩ = some (.int .i64 a0_0) := (blk_cell BK107.out 0).trans rfl
            have hcz15_1 : wr.cell? ⟨gb107, 1, none⟩ = some (.int .i64 a0_1) := (blk_cell BK107.out 1).trans rfl
            have hcz15_2 : wr.cell? ⟨gb107, 2, none⟩ = some (.int .i64 a0_2) := (blk_cell BK107.out 2).trans rfl
            have hcz15_3 : wr.cell? ⟨gb107, 3, none⟩ = some (.int .i64 a0_3) := (blk_cell BK107.out 3).trans rfl
            have hcz15_4 : wr.cell? ⟨gb107, 4, none⟩ = some (.slice Ao10 y112.length co10) := (blk_cell BK107.out 4).trans rfl
            have hcz15_5 : wr.cell? ⟨gb107, 5, none⟩ = some (.slice A0_5 l0_5.length c0_5) := (blk_cell BK107.out 5).trans rfl
            have hfz15_0 := blk_frozen BK107.out 0
            have hfz15_1 := blk_frozen BK107.out 1
            have hfz15_2 := blk_frozen BK107.out 2
            have hfz15_3 := blk_frozen BK107.out 3
            have hfz15_4 := blk_frozen BK107.out 4
            have hfz15_5 := blk_frozen BK107.out 5
            have p115 : 0 ≤ (x4_1 : Int) := of_decide_eq_true (by first | (with_reducible assumption) | assumption)
            have q115 : x4_1 < (l0_5.length : Int) := of_decide_eq_true (by first | (with_reducible assumption) | assumption)
            obtain ⟨ad115, A115_4, c115_4, e115, hx115_0, hx115_1, hx115_2, hx115_3, hx115_4, hl115_4, hi115_4⟩ := at_Schema HR0_5.out x4_1 p115 q115
            cases e115
            replace hx115_0 := (HB.out.cell (World.block_lt_of_cell? w _ hx115_0)).trans hx115_0
            replace hx115_1 := (HB.out.cell (World.block_lt_of_cell? w _ hx115_1)).trans hx115_1
            replace hx115_2 := (HB.out.cell (World.block_lt_of_cell? w _ hx115_2)).trans hx115_2
            replace hx115_3 := (HB.out.cell (World.block_lt_of_cell? w _ hx115_3)).trans hx115_3
            replace hx115_4 := (HB.out.cell (World.block_lt_of_cell? w _ hx115_4)).trans hx115_4
            have HR115_4 := Aside0.mk hi115_4
            have HC115_4 := Aside0.mk hl115_4
            clear hi115_4 hl115_4
            replace p115 := eq_true p115
            replace q115 := eq_true q115
            go_wp2_with (first | ((with_reducible refine gate_dst (N := 5) rfl ?_); refine box_event ?hg (N := 5) ?hd (cs := #[.string (⟨#[]⟩ : ByteArray), .string (⟨#[]⟩ : ByteArray), .int .i64 0, .int .i64 0, .slice none 0 0]) (t := 46) ?hr ?_; (case hd => rfl); (case hg => rfl); (case hr => first | (go_simp; done) | (go_simp; rfl)); intro gb116 hg w16 hbox hb; have n0_ := Aside0.mk (Kd.R_below (Kd.R_elderB (by (with_reducible repeat (first | apply Kd.R_alloc | apply Kd.R_drewN | apply Kd.R_drew)); exact HO_3.out) gb116 (Nat.le_of_eq hg.symm)) hb); have n1_ := Aside0.mk (Kd.R_below (by (with_reducible repeat (first | apply Kd.R_alloc | apply Kd.R_drewN | apply Kd.R_drew)); exact HO_108004.out) hb); have n2_ := Aside0.mk (blk_below (g := gb107) (o := .cells #[.int .i64 a0_0, .int .i64 a0_1, .int .i64 a0_2, .int .i64 a0_3, .slice Ao10 y112.length co10, .slice (some ad115) l0_5.length c0_5] 25 (0, 0)) (by (with_reducible repeat (first | refine blk_drewN ?_ _ | refine blk_drew ?_ | refine blk_alloc ?_ _)); exact BK107.out) hb); have n3_ := Aside0.mk (blk_below (g := gb108) (o := .cells #[.int .i64 0, .int .i64 0, .int .i64 0, .int .i64 0, .slice none 0 0, .slice none 0 0] 25 (0, 0)) (by (with_reducible repeat (first | refine blk_drewN ?_ _ | refine blk_drew ?_ | refine blk_alloc ?_ _)); exact BK108.out) hb); have n4_ := Aside0.mk (below_step (by repeat (first | (with_reducible first | exact HB.out | apply below_alloc | apply pw_below_drewN | apply below_drew1 | refine below_set ?_ GE107.out | refine below_set ?_ GE108.out) | exact HB.out)) hb); have n5_ := Aside0.mk (hbox); have n6_ := Aside0.mk ((by rw [hg]; exact (below_size (by repeat (first | (with_reducible first | exact HB.out | apply below_alloc | apply pw_below_drewN | apply below_drew1 | refine below_set ?_ GE107.out | refine below_set ?_ GE108.out) | exact HB.out))) : w.heap.size ≤ gb116)); have n7_ := Aside0.mk ((by rw [hg]; exact (below_size (by repeat (first | (with_reducible first | exact HB.out | apply below_alloc | apply pw_below_drewN | apply below_drew1 | refine below_set ?_ GE107.out | refine below_set ?_ GE108.out) | exact HB.out))) : w.heap.size ≤ gb116)); have n8_ := Aside0.mk ((by rw [hg]; exact Nat.ne_of_lt (blk_lt (g := gb107) (o := .cells #[.int .i64 a0_0, .int .i64 a0_1, .int .i64 a0_2, .int .i64 a0_3, .slice Ao10 y112.length co10, .slice (some ad115) l0_5.length c0_5] 25 (0, 0)) (by (with_reducible repeat (first | refine blk_drewN ?_ _ | refine blk_drew ?_ | refine blk_alloc ?_ _)); exact BK107.out)) : gb107 ≠ gb116)); have n9_ := Aside0.mk ((by rw [hg]; exact Nat.ne_of_gt (blk_lt (g := gb107) (o := .cells #[.int .i64 a0_0, .int .i64 a0_1, .int .i64 a0_2, .int .i64 a0_3, .slice Ao10 y112.length co10, .slice (some ad115) l0_5.length c0_5] 25 (0, 0)) (by (with_reducible repeat (first | refine blk_drewN ?_ _ | refine blk_drew ?_ | refine blk_alloc ?_ _)); exact BK107.out)) : gb116 ≠ gb107)); have n10_ := Aside0.mk ((by rw [hg]; exact Nat.ne_of_lt (blk_lt (g := gb108) (o := .cells #[.int .i64 0, .int .i64 0, .int .i64 0, .int .i64 0, .slice none 0 0, .slice none 0 0] 25 (0, 0)) (by (with_reducible repeat (first | refine blk_drewN ?_ _ | refine blk_drew ?_ | refine blk_alloc ?_ _)); exact BK108.out)) : gb108 ≠ gb116)); have n11_ := Aside0.mk ((by rw [hg]; exact Nat.ne_of_gt (blk_lt (g := gb108) (o := .cells #[.int .i64 0, .int .i64 0, .int .i64 0, .int .i64 0, .slice none 0 0, .slice none 0 0] 25 (0, 0)) (by (with_reducible repeat (first | refine blk_drewN ?_ _ | refine blk_drew ?_ | refine blk_alloc ?_ _)); exact BK108.out)) : gb116 ≠ gb108)); clear HO_3; clear HO_108004; clear BK107; clear BK108; clear HB; have HO_3 := n0_; have HO_108004 := n1_; have BK107 := n2_; have BK108 := n3_; have HB := n4_; have BK116 := n5_; have GW116 := n6_; have GE116 := n7_; have NB107_116 := n8_; have NB116_107 := n9_; have NB108_116 := n10_; have NB116_108 := n11_; clear n0_ n1_ n2_ n3_ n4_ n5_ n6_ n7_ n8_ n9_ n10_ n11_; clear hb hbox hg; have hnb17 := NB116_107.out; have hnc17 := NB107_116.out; have hnb18 := NB116_108.out; have hnc18 := NB108_116.out; have hcz19_0 : w16.cell? ⟨gb116, 0, none⟩ = some (.string (⟨#[]⟩ : ByteArray)) := (blk_cell BK116.out 0).trans rfl; have hcz19_1 : w16.cell? ⟨gb116, 1, none⟩ = some (.string (⟨#[]⟩ : ByteArray)) := (blk_cell BK116.out 1).trans rfl; have hcz19_2 : w16.cell? ⟨gb116, 2, none⟩ = some (.int .i64 0) := (blk_cell BK116.out 2).trans rfl; have hcz19_3 : w16.cell? ⟨gb116, 3, none⟩ = some (.int .i64 0) := (blk_cell BK116.out 3).trans rfl; have hcz19_4 : w16.cell? ⟨gb116, 4, none⟩ = some (.slice none 0 0) := (blk_cell BK116.out 4).trans rfl; have hfz19_0 := blk_frozen BK116.out 0; have hfz19_1 := blk_frozen BK116.out 1; have hfz19_2 := blk_frozen BK116.out 2; have hfz19_3 := blk_frozen BK116.out 3; have hfz19_4 := blk_frozen BK116.out 4))
            go_loopg [6, 7] k1 (fun kq v6 v7 w' => ∃ (x6_2 : List (Rule)) (x7_2 : Int), v7 = .int .i64 x7_2 ∧ Aside0 (usherref10_Copy.l1 kq x3_1 x4_1 x6_2 x7_2 a0_0 a0_1 a0_2 a0_3 y112 l0_5 ((rd_Schema l0_5 x4_1).name) ((rd_Schema l0_5 x4_1).level) ((rd_Schema l0_5 x4_1).rank) ((rd_Schema l0_5 x4_1).tells) ((rd_Schema l0_5 x4_1).rules) = some (r1, r2, r3, r4, r5, r6)) ∧ Aside0 (kq ≤ k1) ∧ Aside0 (Kd.R kSchema 46 w' w.heap.size (fun k_ => some k_ ≠ (v6 : Value).ownBlock ∧ k_ ≠ gb116) u3 x3_1) ∧ Aside0 (Kd.S kRule 53 w' w.heap.size (fun _ => True) v6 x6_2) ∧ Aside0 (Kd.R kLevel 40 w' w.heap.size (fun _ => True) (.slice Ao10 y112.length co10) y112) ∧ Aside0 (w'.heap[gb107]? = some (.cells #[.int .i64 a0_0, .int .i64 a0_1, .int .i64 a0_2, .int .i64 a0_3, (.slice Ao10 y112.length co10), (.slice (some ad115) l0_5.length c0_5)] 25 (0, 0))) ∧ Aside0 (w'.heap[gb108]? = some (.cells #[.int .i64 0, .int .i64 0, .int .i64 0, .int .i64 0, (.slice none 0 0), (.slice none 0 0)] 25 (0, 0))) ∧ Aside0 (w'.heap[gb116]? = some (.cells #[.string ((rd_Schema l0_5 x4_1).name), .string ((rd_Schema l0_5 x4_1).level), .int .i64 ((rd_Schema l0_5 x4_1).rank), .int .i64 ((rd_Schema l0_5 x4_1).tells), (.slice A115_4 ((rd_Schema l0_5 x4_1).rules).length c115_4)] 46 (0, 0))) ∧ Aside0 (Below w.heap.size w w'))
            case atStart => exact ⟨(([] : List (Rule))), (0), (by first | rfl | (simp; done) | (simp [*]; done)), H', ⟨Nat.le_refl _⟩, ⟨by (with_reducible repeat (first | apply Kd.R_alloc | apply Kd.R_drewN | apply Kd.R_drew)); exact Kd.R_mono (Kd.R_far (p := ⟨gb116, 4, none⟩) (Kd.R_far (p := ⟨gb116, 3, none⟩) (Kd.R_far (p := ⟨gb116, 2, none⟩) (Kd.R_far (p := ⟨gb116, 1, none⟩) (Kd.R_far (p := ⟨gb116, 0, none⟩) (Kd.R_mono HO_3.out (fun k_ hk => (⟨hk, hk.2⟩ : _ ∧ k_ ≠ gb116))) (fun _ hk => hk.2) (.string ((rd_Schema l0_5 x4_1).name))) (fun _ hk => hk.2) (.string ((rd_Schema l0_5 x4_1).level))) (fun _ hk => hk.2) (.int .i64 ((rd_Schema l0_5 x4_1).rank))) (fun _ hk => hk.2) (.int .i64 ((rd_Schema l0_5 x4_1).tells))) (fun _ hk => hk.2) (.slice A115_4 ((rd_Schema l0_5 x4_1).rules).length c115_4)) (fun _ hk => ⟨(by simp [Value.ownBlock]), hk.1.2⟩)⟩, ⟨by first | exact Kd.S_nil _ _ _ _ _ | exact Kd.N_nil _ _ _ _ _ | exact Kd.V_nil _ _ _ _ _ | exact Kd.Q_nil _ _ _ _ _ | exact Kd.R_nil _ _ _ _ _⟩, ⟨by (with_reducible repeat (first | apply Kd.R_alloc | apply Kd.R_drewN | apply Kd.R_drew)); exact Kd.R_mono (Kd.R_far (p := ⟨gb116, 4, none⟩) (Kd.R_far (p := ⟨gb116, 3, none⟩) (Kd.R_far (p := ⟨gb116, 2, none⟩) (Kd.R_far (p := ⟨gb116, 1, none⟩) (Kd.R_far (p := ⟨gb116, 0, none⟩) (Kd.R_types HO_108004.out BK116.out (by decide)) (fun _ hk => hk.2) (.string ((rd_Schema l0_5 x4_1).name))) (fun _ hk => hk.2) (.string ((rd_Schema l0_5 x4_1).level))) (fun _ hk => hk.2) (.int .i64 ((rd_Schema l0_5 x4_1).rank))) (fun _ hk => hk.2) (.int .i64 ((rd_Schema l0_5 x4_1).tells))) (fun _ hk => hk.2) (.slice A115_4 ((rd_Schema l0_5 x4_1).rules).length c115_4)) (fun _ hk => trivial)⟩, ⟨by (with_reducible repeat (first | refine blk_drewN ?_ _ | refine blk_drew ?_ | refine blk_alloc ?_ _)); refine blk_far ?_ NB107_116.out _; (with_reducible repeat (first | refine blk_drewN ?_ _ | refine blk_drew ?_ | refine blk_alloc ?_ _)); refine blk_far ?_ NB107_116.out _; (with_reducible repeat (first | refine blk_drewN ?_ _ | refine blk_drew ?_ | refine blk_alloc ?_ _)); refine blk_far ?_ NB107_116.out _; (with_reducible repeat (first | refine blk_drewN ?_ _ | refine blk_drew ?_ | refine blk_alloc ?_ _)); refine blk_far ?_ NB107_116.out _; (with_reducible repeat (first | refine blk_drewN ?_ _ | refine blk_drew ?_ | refine blk_alloc ?_ _)); refine blk_far ?_ NB107_116.out _; (with_reducible repeat (first | refine blk_drewN ?_ _ | refine blk_drew ?_ | refine blk_alloc ?_ _)); exact BK107.out⟩, ⟨by (with_reducible repeat (first | refine blk_drewN ?_ _ | refine blk_drew ?_ | refine blk_alloc ?_ _)); refine blk_far ?_ NB108_116.out _; (with_reducible repeat (first | refine blk_drewN ?_ _ | refine blk_drew ?_ | refine blk_alloc ?_ _)); refine blk_far ?_ NB108_116.out _; (with_reducible repeat (first | refine blk_drewN ?_ _ | refine blk_drew ?_ | refine blk_alloc ?_ _)); refine blk_far ?_ NB108_116.out _; (with_reducible repeat (first | refine blk_drewN ?_ _ | refine blk_drew ?_ | refine blk_alloc ?_ _)); refine blk_far ?_ NB108_116.out _; (with_reducible repeat (first | refine blk_drewN ?_ _ | refine blk_drew ?_ | refine blk_alloc ?_ _)); refine blk_far ?_ NB108_116.out _; (with_reducible repeat (first | refine blk_drewN ?_ _ | refine blk_drew ?_ | refine blk_alloc ?_ _)); exact BK108.out⟩, ⟨by (with_reducible repeat (first | refine blk_drewN ?_ _ | refine blk_drew ?_ | refine blk_alloc ?_ _)); refine blk_put (cs := #[.string ((rd_Schema l0_5 x4_1).name), .string ((rd_Schema l0_5 x4_1).level), .int .i64 ((rd_Schema l0_5 x4_1).rank), .int .i64 ((rd_Schema l0_5 x4_1).tells), .slice none 0 0]) ?_ 4 _ rfl; (with_reducible repeat (first | refine blk_drewN ?_ _ | refine blk_drew ?_ | refine blk_alloc ?_ _)); refine blk_put (cs := #[.string ((rd_Schema l0_5 x4_1).name), .string ((rd_Schema l0_5 x4_1).level), .int .i64 ((rd_Schema l0_5 x4_1).rank), .int .i64 0, .slice none 0 0]) ?_ 3 _ rfl; (with_reducible repeat (first | refine blk_drewN ?_ _ | refine blk_drew ?_ | refine blk_alloc ?_ _)); refine blk_put (cs := #[.string ((rd_Schema l0_5 x4_1).name), .string ((rd_Schema l0_5 x4_1).level), .int .i64 0, .int .i64 0, .slice none 0 0]) ?_ 2 _ rfl; (with_reducible repeat (first | refine blk_drewN ?_ _ | refine blk_drew ?_ | refine blk_alloc ?_ _)); refine blk_put (cs := #[.string ((rd_Schema l0_5 x4_1).name), .string (⟨#[]⟩ : ByteArray), .int .i64 0, .int .i64 0, .slice none 0 0]) ?_ 1 _ rfl; (with_reducible repeat (first | refine blk_drewN ?_ _ | refine blk_drew ?_ | refine blk_alloc ?_ _)); refine blk_put (cs := #[.string (⟨#[]⟩ : ByteArray), .string (⟨#[]⟩ : ByteArray), .int .i64 0, .int .i64 0, .slice none 0 0]) ?_ 0 _ rfl; (with_reducible repeat (first | refine blk_drewN ?_ _ | refine blk_drew ?_ | refine blk_alloc ?_ _)); exact BK116.out⟩, ⟨by repeat (first | (with_reducible first | exact HB.out | apply below_alloc | apply pw_below_drewN | apply below_drew1 | refine below_set ?_ GE107.out | refine below_set ?_ GE108.out | refine below_set ?_ GE116.out) | exact HB.out)⟩⟩
            case round =>
              clear H'
              try clear c1
              try clear p1
              try clear q1
              try clear hx1
              try clear c2
              try clear p2
              try clear c7
              try clear c11
              try clear p11
              try clear q11
              try clear hx11
              try clear c12
              try clear c12b0
              try clear c13
              try clear c13b0
              try clear c14
              try clear c17
              try clear c18
              try clear hcz11_0
              try clear hcz11_1
              try clear hcz11_2
              try clear hcz11_3
              try clear hcz11_4
              try clear hcz11_5
              try clear hcz15_0
              try clear hcz15_1
              try clear hcz15_2
              try clear hcz15_3
              try clear hcz15_4
              try clear hcz15_5
              try clear hcz19_0
              try clear hcz19_1
              try clear hcz19_2
              try clear hcz19_3
              try clear hcz19_4
              try clear hcz8_0
              try clear hcz8_1
              try clear hcz8_2
              try clear hcz8_3
              try clear hcz8_4
              try clear hcz8_5
              try clear hfz11_0
              try clear hfz11_1
              try clear hfz11_2
              try clear hfz11_3
              try clear hfz11_4
              try clear hfz11_5
              try clear hfz15_0
              try clear hfz15_1
              try clear hfz15_2
              try clear hfz15_3
              try clear hfz15_4
              try clear hfz15_5
              try clear hfz19_0
              try clear hfz19_1
              try clear hfz19_2
              try clear hfz19_3
              try clear hfz19_4
              try clear hfz8_0
              try clear hfz8_1
              try clear hfz8_2
              try clear hfz8_3
              try clear hfz8_4
              try clear hfz8_5
              try clear hx115_0
              try clear hx115_1
              try clear hx115_2
              try clear hx115_3
              try clear hx115_4
              try clear p115
              try clear p2
              try clear q115
              obtain ⟨x6_2, x7_2, rfl, HA, HK2, HO_3, HO_6, HO_108004, BK107, BK108, BK116, HB⟩ := hrel
              cases gk with
              | zero => exact absurd HA.out (by simp [usherref10_Copy.l1])
              | succ k2 =>
                have H := HA.out
                clear HA
                simp only [usherref10_Copy.l1] at H
                by_cases c20 : x7_2 < (((rd_Schema l0_5 x4_1).rules).length : Int)
                · rw [if_pos c20] at H
                  have c20b0 : decide (x7_2 < (((rd_Schema l0_5 x4_1).rules).length : Int)) = true := decide_eq_true c20
                  clear c20
                  by_cases c21 : 0 ≤ x7_2
                  · rw [if_pos c21] at H
                    have c21b0 : decide (0 ≤ x7_2) = true := decide_eq_true c21
                    clear c21
                    replace H := Option.bind_eq_some_iff.mp H
                    obtain ⟨t122, A220, H⟩ := H
                    replace H : ((usherref10_words.f ((rd_Rule ((rd_Schema l0_5 x4_1).rules) x7_2).groups)).bind fun t125 => ((usherref10_words.f ((rd_Rule ((rd_Schema l0_5 x4_1).rules) x7_2).verbs)).bind fun t128 => ((usherref10_words.f ((rd_Rule ((rd_Schema l0_5 x4_1).rules) x7_2).resources)).bind fun t131 => ((usherref10_words.f ((rd_Rule ((rd_Schema l0_5 x4_1).rules) x7_2).spaces)).bind fun t134 => (if x6_2.length < 1172812402961 then (usherref10_Copy.l1 k2 x3_1 x4_1 (x6_2 ++ [(⟨t122, t125, t128, t131, t134⟩ : Rule)]) (wrap64 (x7_2 + 1)) a0_0 a0_1 a0_2 a0_3 y112 l0_5 ((rd_Schema l0_5 x4_1).name) ((rd_Schema l0_5 x4_1).level) ((rd_Schema l0_5 x4_1).rank) ((rd_Schema l0_5 x4_1).tells) ((rd_Schema l0_5 x4_1).rules)) else (none)))))) = some (r1, r2, r3, r4, r5, r6) := H
                    have A22 := Aside0.mk A220
                    clear A220
                    replace H := Option.bind_eq_some_iff.mp H
                    obtain ⟨t125, A230, H⟩ := H
                    replace H : ((usherref10_words.f ((rd_Rule ((rd_Schema l0_5 x4_1).rules) x7_2).verbs)).bind fun t128 => ((usherref10_words.f ((rd_Rule ((rd_Schema l0_5 x4_1).rules) x7_2).resources)).bind fun t131 => ((usherref10_words.f ((rd_Rule ((rd_Schema l0_5 x4_1).rules) x7_2).spaces)).bind fun t134 => (if x6_2.length < 1172812402961 then (usherref10_Copy.l1 k2 x3_1 x4_1 (x6_2 ++ [(⟨t122, t125, t128, t131, t134⟩ : Rule)]) (wrap64 (x7_2 + 1)) a0_0 a0_1 a0_2 a0_3 y112 l0_5 ((rd_Schema l0_5 x4_1).name) ((rd_Schema l0_5 x4_1).level) ((rd_Schema l0_5 x4_1).rank) ((rd_Schema l0_5 x4_1).tells) ((rd_Schema l0_5 x4_1).rules)) else (none))))) = some (r1, r2, r3, r4, r5, r6) := H
                    have A23 := Aside0.mk A230
                    clear A230
                    replace H := Option.bind_eq_some_iff.mp H
                    obtain ⟨t128, A240, H⟩ := H
                    replace H : ((usherref10_words.f ((rd_Rule ((rd_Schema l0_5 x4_1).rules) x7_2).resources)).bind fun t131 => ((usherref10_words.f ((rd_Rule ((rd_Schema l0_5 x4_1).rules) x7_2).spaces)).bind fun t134 => (if x6_2.length < 1172812402961 then (usherref10_Copy.l1 k2 x3_1 x4_1 (x6_2 ++ [(⟨t122, t125, t128, t131, t134⟩ : Rule)]) (wrap64 (x7_2 + 1)) a0_0 a0_1 a0_2 a0_3 y112 l0_5 ((rd_Schema l0_5 x4_1).name) ((rd_Schema l0_5 x4_1).level) ((rd_Schema l0_5 x4_1).rank) ((rd_Schema l0_5 x4_1).tells) ((rd_Schema l0_5 x4_1).rules)) else (none)))) = some (r1, r2, r3, r4, r5, r6) := H
                    have A24 := Aside0.mk A240
                    clear A240
                    replace H := Option.bind_eq_some_iff.mp H
                    obtain ⟨t131, A250, H⟩ := H
                    replace H : ((usherref10_words.f ((rd_Rule ((rd_Schema l0_5 x4_1).rules) x7_2).spaces)).bind fun t134 => (if x6_2.length < 1172812402961 then (usherref10_Copy.l1 k2 x3_1 x4_1 (x6_2 ++ [(⟨t122, t125, t128, t131, t134⟩ : Rule)]) (wrap64 (x7_2 + 1)) a0_0 a0_1 a0_2 a0_3 y112 l0_5 ((rd_Schema l0_5 x4_1).name) ((rd_Schema l0_5 x4_1).level) ((rd_Schema l0_5 x4_1).rank) ((rd_Schema l0_5 x4_1).tells) ((rd_Schema l0_5 x4_1).rules)) else (none))) = some (r1, r2, r3, r4, r5, r6) := H
                    have A25 := Aside0.mk A250
                    clear A250
                    replace H := Option.bind_eq_some_iff.mp H
                    obtain ⟨t134, A260, H⟩ := H
                    replace H : (if x6_2.length < 1172812402961 then (usherref10_Copy.l1 k2 x3_1 x4_1 (x6_2 ++ [(⟨t122, t125, t128, t131, t134⟩ : Rule)]) (wrap64 (x7_2 + 1)) a0_0 a0_1 a0_2 a0_3 y112 l0_5 ((rd_Schema l0_5 x4_1).name) ((rd_Schema l0_5 x4_1).level) ((rd_Schema l0_5 x4_1).rank) ((rd_Schema l0_5 x4_1).tells) ((rd_Schema l0_5 x4_1).rules)) else (none)) = some (r1, r2, r3, r4, r5, r6) := H
                    have A26 := Aside0.mk A260
                    clear A260
                    by_cases c27 : x6_2.length < 1172812402961
                    · rw [if_pos c27] at H
                      have LMc27 := Aside0.mk c27
                      clear c27
                      obtain ⟨y137, hy137⟩ : ∃ y_ : List (Rule), y_ = (x6_2 ++ [(⟨t122, t125, t128, t131, t134⟩ : Rule)]) := ⟨_, rfl⟩
                      replace H : (usherref10_Copy.l1 k2 x3_1 x4_1 y137 (wrap64 (x7_2 + 1)) a0_0 a0_1 a0_2 a0_3 y112 l0_5 ((rd_Schema l0_5 x4_1).name) ((rd_Schema l0_5 x4_1).level) ((rd_Schema l0_5 x4_1).rank) ((rd_Schema l0_5 x4_1).tells) ((rd_Schema l0_5 x4_1).rules)) = some (r1, r2, r3, r4, r5, r6) := by first | (rw [hy137]; with_reducible exact H) | (have H2_ := (Option.bind_some _ _).symm.trans H; rw [hy137]; with_reducible exact H2_) | (have H2_ := (Option.bind_some _ _).symm.trans H; with_reducible exact H2_) | with_reducible exact H | (rw [hy137]; exact H) | exact H
                      have Ny137 := Aside0.mk hy137
                      clear hy137
                      have H' := Aside0.mk H
                      clear H
                      have hnb28 := NB116_107.out
                      have hnc28 := NB107_116.out
                      have hnb29 := NB116_108.out
                      have hnc29 := NB108_116.out
                      have hcz30_0 : wr.cell? ⟨gb116, 0, none⟩ = some (.string ((rd_Schema l0_5 x4_1).name)) := (blk_cell BK116.out 0).trans rfl
                      have hcz30_1 : wr.cell? ⟨gb116, 1, none⟩ = some (.string ((rd_Schema l0_5 x4_1).level)) := (blk_cell BK116.out 1).trans rfl
                      have hcz30_2 : wr.cell? ⟨gb116, 2, none⟩ = some (.int .i64 ((rd_Schema l0_5 x4_1).rank)) := (blk_cell BK116.out 2).trans rfl
                      have hcz30_3 : wr.cell? ⟨gb116, 3, none⟩ = some (.int .i64 ((rd_Schema l0_5 x4_1).tells)) := (blk_cell BK116.out 3).trans rfl
                      have hcz30_4 : wr.cell? ⟨gb116, 4, none⟩ = some (.slice A115_4 ((rd_Schema l0_5 x4_1).rules).length c115_4) := (blk_cell BK116.out 4).trans rfl
                      have hfz30_0 := blk_frozen BK116.out 0
                      have hfz30_1 := blk_frozen BK116.out 1
                      have hfz30_2 := blk_frozen BK116.out 2
                      have hfz30_3 := blk_frozen BK116.out 3
                      have hfz30_4 := blk_frozen BK116.out 4
                      have p120 : 0 ≤ (x7_2 : Int) := of_decide_eq_true (by first | (with_reducible assumption) | assumption)
                      have q120 : x7_2 < (((rd_Schema l0_5 x4_1).rules).length : Int) := of_decide_eq_true (by first | (with_reducible assumption) | assumption)
                      obtain ⟨ad120, A120_0, c120_0, A120_1, c120_1, A120_2, c120_2, A120_3, c120_3, A120_4, c120_4, e120, hx120_0, hx120_1, hx120_2, hx120_3, hx120_4, hl120_0, hi120_0, hl120_1, hi120_1, hl120_2, hi120_2, hl120_3, hi120_3, hl120_4, hi120_4⟩ := at_Rule HR115_4.out x7_2 p120 q120
                      cases e120
                      replace hx120_0 := (HB.out.cell (World.block_lt_of_cell? w _ hx120_0)).trans hx120_0
                      replace hx120_1 := (HB.out.cell (World.block_lt_of_cell? w _ hx120_1)).trans hx120_1
                      replace hx120_2 := (HB.out.cell (World.block_lt_of_cell? w _ hx120_2)).trans hx120_2
                      replace hx120_3 := (HB.out.cell (World.block_lt_of_cell? w _ hx120_3)).trans hx120_3
                      replace hx120_4 := (HB.out.cell (World.block_lt_of_cell? w _ hx120_4)).trans hx120_4
                      have HR120_0 := Aside0.mk hi120_0
                      have HC120_0 := Aside0.mk hl120_0
                      clear hi120_0 hl120_0
                      have HR120_1 := Aside0.mk hi120_1
                      have HC120_1 := Aside0.mk hl120_1
                      clear hi120_1 hl120_1
                      have HR120_2 := Aside0.mk hi120_2
                      have HC120_2 := Aside0.mk hl120_2
                      clear hi120_2 hl120_2
                      have HR120_3 := Aside0.mk hi120_3
                      have HC120_3 := Aside0.mk hl120_3
                      clear hi120_3 hl120_3
                      have HR120_4 := Aside0.mk hi120_4
                      have HC120_4 := Aside0.mk hl120_4
                      clear hi120_4 hl120_4
                      replace p120 := eq_true p120
                      replace q120 := eq_true q120
                      try go_wp2_with (first | ((with_reducible refine gate_dst (N := 8) rfl ?_); refine box_event ?hg (N := 8) ?hd (cs := #[.slice none 0 0, .slice none 0 0, .slice none 0 0, .slice none 0 0, .slice none 0 0]) (t := 53) ?hr ?_; (case hd => rfl); (case hg => rfl); (case hr => first | (go_simp; done) | (go_simp; rfl)); intro gb121 hg w31 hbox hb; have n0_ := Aside0.mk (Kd.R_below (Kd.R_elderB (by (with_reducible repeat (first | apply Kd.R_alloc | apply Kd.R_drewN | apply Kd.R_drew)); exact HO_3.out) gb121 (Nat.le_of_eq hg.symm)) hb); have n1_ := Aside0.mk (Kd.S_below (Kd.S_elderB (by (with_reducible repeat (first | apply Kd.S_alloc | apply Kd.S_drewN | apply Kd.S_drew)); exact HO_6.out) gb121 (Nat.le_of_eq hg.symm)) hb); have n2_ := Aside0.mk (Kd.R_below (by (with_reducible repeat (first | apply Kd.R_alloc | apply Kd.R_drewN | apply Kd.R_drew)); exact HO_108004.out) hb); have n3_ := Aside0.mk (blk_below (g := gb107) (o := .cells #[.int .i64 a0_0, .int .i64 a0_1, .int .i64 a0_2, .int .i64 a0_3, .slice Ao10 y112.length co10, .slice (some ad115) l0_5.length c0_5] 25 (0, 0)) (by (with_reducible repeat (first | refine blk_drewN ?_ _ | refine blk_drew ?_ | refine blk_alloc ?_ _)); exact BK107.out) hb); have n4_ := Aside0.mk (blk_below (g := gb108) (o := .cells #[.int .i64 0, .int .i64 0, .int .i64 0, .int .i64 0, .slice none 0 0, .slice none 0 0] 25 (0, 0)) (by (with_reducible repeat (first | refine blk_drewN ?_ _ | refine blk_drew ?_ | refine blk_alloc ?_ _)); exact BK108.out) hb); have n5_ := Aside0.mk (blk_below (g := gb116) (o := .cells #[.string ((rd_Schema l0_5 x4_1).name), .string ((rd_Schema l0_5 x4_1).level), .int .i64 ((rd_Schema l0_5 x4_1).rank), .int .i64 ((rd_Schema l0_5 x4_1).tells), .slice (some ad120) ((rd_Schema l0_5 x4_1).rules).length c115_4] 46 (0, 0)) (by (with_reducible repeat (first | refine blk_drewN ?_ _ | refine blk_drew ?_ | refine blk_alloc ?_ _)); exact BK116.out) hb); have n6_ := Aside0.mk (below_step (by repeat (first | (with_reducible first | exact HB.out | apply below_alloc | apply pw_below_drewN | apply below_drew1 | refine below_set ?_ GE107.out | refine below_set ?_ GE108.out | refine below_set ?_ GE116.out) | exact HB.out)) hb); have n7_ := Aside0.mk (hbox); have n8_ := Aside0.mk ((by rw [hg]; exact (below_size (by repeat (first | (with_reducible first | exact HB.out | apply below_alloc | apply pw_below_drewN | apply below_drew1 | refine below_set ?_ GE107.out | refine below_set ?_ GE108.out | refine below_set ?_ GE116.out) | exact HB.out))) : w.heap.size ≤ gb121)); have n9_ := Aside0.mk ((by rw [hg]; exact (below_size (by repeat (first | (with_reducible first | exact HB.out | apply below_alloc | apply pw_below_drewN | apply below_drew1 | refine below_set ?_ GE107.out | refine below_set ?_ GE108.out | refine below_set ?_ GE116.out) | exact HB.out))) : w.heap.size ≤ gb121)); have n10_ := Aside0.mk ((by rw [hg]; exact Nat.ne_of_lt (blk_lt (g := gb107) (o := .cells #[.int .i64 a0_0, .int .i64 a0_1, .int .i64 a0_2, .int .i64 a0_3, .slice Ao10 y112.length co10, .slice (some ad115) l0_5.length c0_5] 25 (0, 0)) (by (with_reducible repeat (first | refine blk_drewN ?_ _ | refine blk_drew ?_ | refine blk_alloc ?_ _)); exact BK107.out)) : gb107 ≠ gb121)); have n11_ := Aside0.mk ((by rw [hg]; exact Nat.ne_of_gt (blk_lt (g := gb107) (o := .cells #[.int .i64 a0_0, .int .i64 a0_1, .int .i64 a0_2, .int .i64 a0_3, .slice Ao10 y112.length co10, .slice (some ad115) l0_5.length c0_5] 25 (0, 0)) (by (with_reducible repeat (first | refine blk_drewN ?_ _ | refine blk_drew ?_ | refine blk_alloc ?_ _)); exact BK107.out)) : gb121 ≠ gb107)); have n12_ := Aside0.mk ((by rw [hg]; exact Nat.ne_of_lt (blk_lt (g := gb108) (o := .cells #[.int .i64 0, .int .i64 0, .int .i64 0, .int .i64 0, .slice none 0 0, .slice none 0 0] 25 (0, 0)) (by (with_reducible repeat (first | refine blk_drewN ?_ _ | refine blk_drew ?_ | refine blk_alloc ?_ _)); exact BK108.out)) : gb108 ≠ gb121)); have n13_ := Aside0.mk ((by rw [hg]; exact Nat.ne_of_gt (blk_lt (g := gb108) (o := .cells #[.int .i64 0, .int .i64 0, .int .i64 0, .int .i64 0, .slice none 0 0, .slice none 0 0] 25 (0, 0)) (by (with_reducible repeat (first | refine blk_drewN ?_ _ | refine blk_drew ?_ | refine blk_alloc ?_ _)); exact BK108.out)) : gb121 ≠ gb108)); have n14_ := Aside0.mk ((by rw [hg]; exact Nat.ne_of_lt (blk_lt (g := gb116) (o := .cells #[.string ((rd_Schema l0_5 x4_1).name), .string ((rd_Schema l0_5 x4_1).level), .int .i64 ((rd_Schema l0_5 x4_1).rank), .int .i64 ((rd_Schema l0_5 x4_1).tells), .slice (some ad120) ((rd_Schema l0_5 x4_1).rules).length c115_4] 46 (0, 0)) (by (with_reducible repeat (first | refine blk_drewN ?_ _ | refine blk_drew ?_ | refine blk_alloc ?_ _)); exact BK116.out)) : gb116 ≠ gb121)); have n15_ := Aside0.mk ((by rw [hg]; exact Nat.ne_of_gt (blk_lt (g := gb116) (o := .cells #[.string ((rd_Schema l0_5 x4_1).name), .string ((rd_Schema l0_5 x4_1).level), .int .i64 ((rd_Schema l0_5 x4_1).rank), .int .i64 ((rd_Schema l0_5 x4_1).tells), .slice (some ad120) ((rd_Schema l0_5 x4_1).rules).length c115_4] 46 (0, 0)) (by (with_reducible repeat (first | refine blk_drewN ?_ _ | refine blk_drew ?_ | refine blk_alloc ?_ _)); exact BK116.out)) : gb121 ≠ gb116)); clear HO_3; clear HO_6; clear HO_108004; clear BK107; clear BK108; clear BK116; clear HB; have HO_3 := n0_; have HO_6 := n1_; have HO_108004 := n2_; have BK107 := n3_; have BK108 := n4_; have BK116 := n5_; have HB := n6_; have BK121 := n7_; have GW121 := n8_; have GE121 := n9_; have NB107_121 := n10_; have NB121_107 := n11_; have NB108_121 := n12_; have NB121_108 := n13_; have NB116_121 := n14_; have NB121_116 := n15_; clear n0_ n1_ n2_ n3_ n4_ n5_ n6_ n7_ n8_ n9_ n10_ n11_ n12_ n13_ n14_ n15_; clear hb hbox hg; have hnb32 := NB121_107.out; have hnc32 := NB107_121.out; have hnb33 := NB121_108.out; have hnc33 := NB108_121.out; have hnb34 := NB121_116.out; have hnc34 := NB116_121.out; have hcz35_0 : w31.cell? ⟨gb121, 0, none⟩ = some (.slice none 0 0) := (blk_cell BK121.out 0).trans rfl; have hcz35_1 : w31.cell? ⟨gb121, 1, none⟩ = some (.slice none 0 0) := (blk_cell BK121.out 1).trans rfl; have hcz35_2 : w31.cell? ⟨gb121, 2, none⟩ = some (.slice none 0 0) := (blk_cell BK121.out 2).trans rfl; have hcz35_3 : w31.cell? ⟨gb121, 3, none⟩ = some (.slice none 0 0) := (blk_cell BK121.out 3).trans rfl; have hcz35_4 : w31.cell? ⟨gb121, 4, none⟩ = some (.slice none 0 0) := (blk_cell BK121.out 4).trans rfl; have hfz35_0 := blk_frozen BK121.out 0; have hfz35_1 := blk_frozen BK121.out 1; have hfz35_2 := blk_frozen BK121.out 2; have hfz35_3 := blk_frozen BK121.out 3; have hfz35_4 := blk_frozen BK121.out 4))
                      have n0_ : Aside0 (Kd.R kSchema 46 (((((w31.setCell ⟨gb121, 0, none⟩ (.slice A120_0 ((rd_Rule ((rd_Schema l0_5 x4_1).rules) x7_2).users).length c120_0)).setCell ⟨gb121, 1, none⟩ (.slice A120_1 ((rd_Rule ((rd_Schema l0_5 x4_1).rules) x7_2).groups).length c120_1)).setCell ⟨gb121, 2, none⟩ (.slice A120_2 ((rd_Rule ((rd_Schema l0_5 x4_1).rules) x7_2).verbs).length c120_2)).setCell ⟨gb121, 3, none⟩ (.slice A120_3 ((rd_Rule ((rd_Schema l0_5 x4_1).rules) x7_2).resources).length c120_3)).setCell ⟨gb121, 4, none⟩ (.slice A120_4 ((rd_Rule ((rd_Schema l0_5 x4_1).rules) x7_2).spaces).length c120_4)) w.heap.size (fun k_ => some k_ ≠ (u6 : Value).ownBlock ∧ k_ ≠ gb116 ∧ k_ ≠ gb121) u3 x3_1) := ⟨by (with_reducible repeat (first | apply Kd.R_alloc | apply Kd.R_drewN | apply Kd.R_drew)); exact Kd.R_mono (Kd.R_far (p := ⟨gb121, 4, none⟩) (Kd.R_far (p := ⟨gb121, 3, none⟩) (Kd.R_far (p := ⟨gb121, 2, none⟩) (Kd.R_far (p := ⟨gb121, 1, none⟩) (Kd.R_far (p := ⟨gb121, 0, none⟩) (Kd.R_mono HO_3.out (fun k_ hk => (⟨hk, hk.2⟩ : _ ∧ k_ ≠ gb121))) (fun _ hk => hk.2) (.slice A120_0 ((rd_Rule ((rd_Schema l0_5 x4_1).rules) x7_2).users).length c120_0)) (fun _ hk => hk.2) (.slice A120_1 ((rd_Rule ((rd_Schema l0_5 x4_1).rules) x7_2).groups).length c120_1)) (fun _ hk => hk.2) (.slice A120_2 ((rd_Rule ((rd_Schema l0_5 x4_1).rules) x7_2).verbs).length c120_2)) (fun _ hk => hk.2) (.slice A120_3 ((rd_Rule ((rd_Schema l0_5 x4_1).rules) x7_2).resources).length c120_3)) (fun _ hk => hk.2) (.slice A120_4 ((rd_Rule ((rd_Schema l0_5 x4_1).rules) x7_2).spaces).length c120_4)) (fun _ hk => ⟨hk.1.1.1, ⟨hk.1.1.2, hk.1.2⟩⟩)⟩
                      have n1_ : Aside0 (Kd.S kRule 53 (((((w31.setCell ⟨gb121, 0, none⟩ (.slice A120_0 ((rd_Rule ((rd_Schema l0_5 x4_1).rules) x7_2).users).length c120_0)).setCell ⟨gb121, 1, none⟩ (.slice A120_1 ((rd_Rule ((rd_Schema l0_5 x4_1).rules) x7_2).groups).length c120_1)).setCell ⟨gb121, 2, none⟩ (.slice A120_2 ((rd_Rule ((rd_Schema l0_5 x4_1).rules) x7_2).verbs).length c120_2)).setCell ⟨gb121, 3, none⟩ (.slice A120_3 ((rd_Rule ((rd_Schema l0_5 x4_1).rules) x7_2).resources).length c120_3)).setCell ⟨gb121, 4, none⟩ (.slice A120_4 ((rd_Rule ((rd_Schema l0_5 x4_1).rules) x7_2).spaces).length c120_4)) w.heap.size (fun k_ => k_ ≠ gb121) u6 x6_2) := ⟨by (with_reducible repeat (first | apply Kd.S_alloc | apply Kd.S_drewN | apply Kd.S_drew)); exact Kd.S_mono (Kd.S_far (p := ⟨gb121, 4, none⟩) (Kd.S_far (p := ⟨gb121, 3, none⟩) (Kd.S_far (p := ⟨gb121, 2, none⟩) (Kd.S_far (p := ⟨gb121, 1, none⟩) (Kd.S_far (p := ⟨gb121, 0, none⟩) (Kd.S_mono HO_6.out (fun k_ hk => (⟨hk, hk.2⟩ : _ ∧ k_ ≠ gb121))) (fun _ hk => hk.2) (.slice A120_0 ((rd_Rule ((rd_Schema l0_5 x4_1).rules) x7_2).users).length c120_0)) (fun _ hk => hk.2) (.slice A120_1 ((rd_Rule ((rd_Schema l0_5 x4_1).rules) x7_2).groups).length c120_1)) (fun _ hk => hk.2) (.slice A120_2 ((rd_Rule ((rd_Schema l0_5 x4_1).rules) x7_2).verbs).length c120_2)) (fun _ hk => hk.2) (.slice A120_3 ((rd_Rule ((rd_Schema l0_5 x4_1).rules) x7_2).resources).length c120_3)) (fun _ hk => hk.2) (.slice A120_4 ((rd_Rule ((rd_Schema l0_5 x4_1).rules) x7_2).spaces).length c120_4)) (fun _ hk => hk.1.2)⟩
                      have n2_ : Aside0 (Kd.R kLevel 40 (((((w31.setCell ⟨gb121, 0, none⟩ (.slice A120_0 ((rd_Rule ((rd_Schema l0_5 x4_1).rules) x7_2).users).length c120_0)).setCell ⟨gb121, 1, none⟩ (.slice A120_1 ((rd_Rule ((rd_Schema l0_5 x4_1).rules) x7_2).groups).length c120_1)).setCell ⟨gb121, 2, none⟩ (.slice A120_2 ((rd_Rule ((rd_Schema l0_5 x4_1).rules) x7_2).verbs).length c120_2)).setCell ⟨gb121, 3, none⟩ (.slice A120_3 ((rd_Rule ((rd_Schema l0_5 x4_1).rules) x7_2).resources).length c120_3)).setCell ⟨gb121, 4, none⟩ (.slice A120_4 ((rd_Rule ((rd_Schema l0_5 x4_1).rules) x7_2).spaces).length c120_4)) w.heap.size (fun _ => True) (.slice Ao10 y112.length co10) y112) := ⟨by (with_reducible repeat (first | apply Kd.R_alloc | apply Kd.R_drewN | apply Kd.R_drew)); exact Kd.R_mono (Kd.R_far (p := ⟨gb121, 4, none⟩) (Kd.R_far (p := ⟨gb121, 3, none⟩) (Kd.R_far (p := ⟨gb121, 2, none⟩) (Kd.R_far (p := ⟨gb121, 1, none⟩) (Kd.R_far (p := ⟨gb121, 0, none⟩) (Kd.R_types HO_108004.out BK121.out (by decide)) (fun _ hk => hk.2) (.slice A120_0 ((rd_Rule ((rd_Schema l0_5 x4_1).rules) x7_2).users).length c120_0)) (fun _ hk => hk.2) (.slice A120_1 ((rd_Rule ((rd_Schema l0_5 x4_1).rules) x7_2).groups).length c120_1)) (fun _ hk => hk.2) (.slice A120_2 ((rd_Rule ((rd_Schema l0_5 x4_1).rules) x7_2).verbs).length c120_2)) (fun _ hk => hk.2) (.slice A120_3 ((rd_Rule ((rd_Schema l0_5 x4_1).rules) x7_2).resources).length c120_3)) (fun _ hk => hk.2) (.slice A120_4 ((rd_Rule ((rd_Schema l0_5 x4_1).rules) x7_2).spaces).length c120_4)) (fun _ hk => trivial)⟩
                      have n3_ : Aside0 ((((((w31.setCell ⟨gb121, 0, none⟩ (.slice A120_0 ((rd_Rule ((rd_Schema l0_5 x4_1).rules) x7_2).users).length c120_0)).setCell ⟨gb121, 1, none⟩ (.slice A120_1 ((rd_Rule ((rd_Schema l0_5 x4_1).rules) x7_2).groups).length c120_1)).setCell ⟨gb121, 2, none⟩ (.slice A120_2 ((rd_Rule ((rd_Schema l0_5 x4_1).rules) x7_2).verbs).length c120_2)).setCell ⟨gb121, 3, none⟩ (.slice A120_3 ((rd_Rule ((rd_Schema l0_5 x4_1).rules) x7_2).resources).length c120_3)).setCell ⟨gb121, 4, none⟩ (.slice A120_4 ((rd_Rule ((rd_Schema l0_5 x4_1).rules) x7_2).spaces).length c120_4)).heap[gb107]? = some (.cells #[.int .i64 a0_0, .int .i64 a0_1, .int .i64 a0_2, .int .i64 a0_3, .slice Ao10 y112.length co10, .slice (some ad115) l0_5.length c0_5] 25 (0, 0))) := ⟨by (with_reducible repeat (first | refine blk_drewN ?_ _ | refine blk_drew ?_ | refine blk_alloc ?_ _)); refine blk_far ?_ NB107_121.out _; (with_reducible repeat (first | refine blk_drewN ?_ _ | refine blk_drew ?_ | refine blk_alloc ?_ _)); refine blk_far ?_ NB107_121.out _; (with_reducible repeat (first | refine blk_drewN ?_ _ | refine blk_drew ?_ | refine blk_alloc ?_ _)); refine blk_far ?_ NB107_121.out _; (with_reducible repeat (first | refine blk_drewN ?_ _ | refine blk_drew ?_ | refine blk_alloc ?_ _)); refine blk_far ?_ NB107_121.out _; (with_reducible repeat (first | refine blk_drewN ?_ _ | refine blk_drew ?_ | refine blk_alloc ?_ _)); refine blk_far ?_ NB107_121.out _; (with_reducible repeat (first | refine blk_drewN ?_ _ | refine blk_drew ?_ | refine blk_alloc ?_ _)); exact BK107.out⟩
                      have n4_ : Aside0 ((((((w31.setCell ⟨gb121, 0, none⟩ (.slice A120_0 ((rd_Rule ((rd_Schema l0_5 x4_1).rules) x7_2).users).length c120_0)).setCell ⟨gb121, 1, none⟩ (.slice A120_1 ((rd_Rule ((rd_Schema l0_5 x4_1).rules) x7_2).groups).length c120_1)).setCell ⟨gb121, 2, none⟩ (.slice A120_2 ((rd_Rule ((rd_Schema l0_5 x4_1).rules) x7_2).verbs).length c120_2)).setCell ⟨gb121, 3, none⟩ (.slice A120_3 ((rd_Rule ((rd_Schema l0_5 x4_1).rules) x7_2).resources).length c120_3)).setCell ⟨gb121, 4, none⟩ (.slice A120_4 ((rd_Rule ((rd_Schema l0_5 x4_1).rules) x7_2).spaces).length c120_4)).heap[gb108]? = some (.cells #[.int .i64 0, .int .i64 0, .int .i64 0, .int .i64 0, .slice none 0 0, .slice none 0 0] 25 (0, 0))) := ⟨by (with_reducible repeat (first | refine blk_drewN ?_ _ | refine blk_drew ?_ | refine blk_alloc ?_ _)); refine blk_far ?_ NB108_121.out _; (with_reducible repeat (first | refine blk_drewN ?_ _ | refine blk_drew ?_ | refine blk_alloc ?_ _)); refine blk_far ?_ NB108_121.out _; (with_reducible repeat (first | refine blk_drewN ?_ _ | refine blk_drew ?_ | refine blk_alloc ?_ _)); refine blk_far ?_ NB108_121.out _; (with_reducible repeat (first | refine blk_drewN ?_ _ | refine blk_drew ?_ | refine blk_alloc ?_ _)); refine blk_far ?_ NB108_121.out _; (with_reducible repeat (first | refine blk_drewN ?_ _ | refine blk_drew ?_ | refine blk_alloc ?_ _)); refine blk_far ?_ NB108_121.out _; (with_reducible repeat (first | refine blk_drewN ?_ _ | refine blk_drew ?_ | refine blk_alloc ?_ _)); exact BK108.out⟩
                      have n5_ : Aside0 ((((((w31.setCell ⟨gb121, 0, none⟩ (.slice A120_0 ((rd_Rule ((rd_Schema l0_5 x4_1).rules) x7_2).users).length c120_0)).setCell ⟨gb121, 1, none⟩ (.slice A120_1 ((rd_Rule ((rd_Schema l0_5 x4_1).rules) x7_2).groups).length c120_1)).setCell ⟨gb121, 2, none⟩ (.slice A120_2 ((rd_Rule ((rd_Schema l0_5 x4_1).rules) x7_2).verbs).length c120_2)).setCell ⟨gb121, 3, none⟩ (.slice A120_3 ((rd_Rule ((rd_Schema l0_5 x4_1).rules) x7_2).resources).length c120_3)).setCell ⟨gb121, 4, none⟩ (.slice A120_4 ((rd_Rule ((rd_Schema l0_5 x4_1).rules) x7_2).spaces).length c120_4)).heap[gb116]? = some (.cells #[.string ((rd_Schema l0_5 x4_1).name), .string ((rd_Schema l0_5 x4_1).level), .int .i64 ((rd_Schema l0_5 x4_1).rank), .int .i64 ((rd_Schema l0_5 x4_1).tells), .slice (some ad120) ((rd_Schema l0_5 x4_1).rules).length c115_4] 46 (0, 0))) := ⟨by (with_reducible repeat (first | refine blk_drewN ?_ _ | refine blk_drew ?_ | refine blk_alloc ?_ _)); refine blk_far ?_ NB116_121.out _; (with_reducible repeat (first | refine blk_drewN ?_ _ | refine blk_drew ?_ | refine blk_alloc ?_ _)); refine blk_far ?_ NB116_121.out _; (with_reducible repeat (first | refine blk_drewN ?_ _ | refine blk_drew ?_ | refine blk_alloc ?_ _)); refine blk_far ?_ NB116_121.out _; (with_reducible repeat (first | refine blk_drewN ?_ _ | refine blk_drew ?_ | refine blk_alloc ?_ _)); refine blk_far ?_ NB116_121.out _; (with_reducible repeat (first | refine blk_drewN ?_ _ | refine blk_drew ?_ | refine blk_alloc ?_ _)); refine blk_far ?_ NB116_121.out _; (with_reducible repeat (first | refine blk_drewN ?_ _ | refine blk_drew ?_ | refine blk_alloc ?_ _)); exact BK116.out⟩
                      have n6_ : Aside0 ((((((w31.setCell ⟨gb121, 0, none⟩ (.slice A120_0 ((rd_Rule ((rd_Schema l0_5 x4_1).rules) x7_2).users).length c120_0)).setCell ⟨gb121, 1, none⟩ (.slice A120_1 ((rd_Rule ((rd_Schema l0_5 x4_1).rules) x7_2).groups).length c120_1)).setCell ⟨gb121, 2, none⟩ (.slice A120_2 ((rd_Rule ((rd_Schema l0_5 x4_1).rules) x7_2).verbs).length c120_2)).setCell ⟨gb121, 3, none⟩ (.slice A120_3 ((rd_Rule ((rd_Schema l0_5 x4_1).rules) x7_2).resources).length c120_3)).setCell ⟨gb121, 4, none⟩ (.slice A120_4 ((rd_Rule ((rd_Schema l0_5 x4_1).rules) x7_2).spaces).length c120_4)).heap[gb121]? = some (.cells #[.slice A120_0 ((rd_Rule ((rd_Schema l0_5 x4_1).rules) x7_2).users).length c120_0, .slice A120_1 ((rd_Rule ((rd_Schema l0_5 x4_1).rules) x7_2).groups).length c120_1, .slice A120_2 ((rd_Rule ((rd_Schema l0_5 x4_1).rules) x7_2).verbs).length c120_2, .slice A120_3 ((rd_Rule ((rd_Schema l0_5 x4_1).rules) x7_2).resources).length c120_3, .slice A120_4 ((rd_Rule ((rd_Schema l0_5 x4_1).rules) x7_2).spaces).length c120_4] 53 (0, 0))) := ⟨by (with_reducible repeat (first | refine blk_drewN ?_ _ | refine blk_drew ?_ | refine blk_alloc ?_ _)); refine blk_put (cs := #[.slice A120_0 ((rd_Rule ((rd_Schema l0_5 x4_1).rules) x7_2).users).length c120_0, .slice A120_1 ((rd_Rule ((rd_Schema l0_5 x4_1).rules) x7_2).groups).length c120_1, .slice A120_2 ((rd_Rule ((rd_Schema l0_5 x4_1).rules) x7_2).verbs).length c120_2, .slice A120_3 ((rd_Rule ((rd_Schema l0_5 x4_1).rules) x7_2).resources).length c120_3, .slice none 0 0]) ?_ 4 _ rfl; (with_reducible repeat (first | refine blk_drewN ?_ _ | refine blk_drew ?_ | refine blk_alloc ?_ _)); refine blk_put (cs := #[.slice A120_0 ((rd_Rule ((rd_Schema l0_5 x4_1).rules) x7_2).users).length c120_0, .slice A120_1 ((rd_Rule ((rd_Schema l0_5 x4_1).rules) x7_2).groups).length c120_1, .slice A120_2 ((rd_Rule ((rd_Schema l0_5 x4_1).rules) x7_2).verbs).length c120_2, .slice none 0 0, .slice none 0 0]) ?_ 3 _ rfl; (with_reducible repeat (first | refine blk_drewN ?_ _ | refine blk_drew ?_ | refine blk_alloc ?_ _)); refine blk_put (cs := #[.slice A120_0 ((rd_Rule ((rd_Schema l0_5 x4_1).rules) x7_2).users).length c120_0, .slice A120_1 ((rd_Rule ((rd_Schema l0_5 x4_1).rules) x7_2).groups).length c120_1, .slice none 0 0, .slice none 0 0, .slice none 0 0]) ?_ 2 _ rfl; (with_reducible repeat (first | refine blk_drewN ?_ _ | refine blk_drew ?_ | refine blk_alloc ?_ _)); refine blk_put (cs := #[.slice A120_0 ((rd_Rule ((rd_Schema l0_5 x4_1).rules) x7_2).users).length c120_0, .slice none 0 0, .slice none 0 0, .slice none 0 0, .slice none 0 0]) ?_ 1 _ rfl; (with_reducible repeat (first | refine blk_drewN ?_ _ | refine blk_drew ?_ | refine blk_alloc ?_ _)); refine blk_put (cs := #[.slice none 0 0, .slice none 0 0, .slice none 0 0, .slice none 0 0, .slice none 0 0]) ?_ 0 _ rfl; (with_reducible repeat (first | refine blk_drewN ?_ _ | refine blk_drew ?_ | refine blk_alloc ?_ _)); exact BK121.out⟩
                      have n7_ : Aside0 (Below w.heap.size w (((((w31.setCell ⟨gb121, 0, none⟩ (.slice A120_0 ((rd_Rule ((rd_Schema l0_5 x4_1).rules) x7_2).users).length c120_0)).setCell ⟨gb121, 1, none⟩ (.slice A120_1 ((rd_Rule ((rd_Schema l0_5 x4_1).rules) x7_2).groups).length c120_1)).setCell ⟨gb121, 2, none⟩ (.slice A120_2 ((rd_Rule ((rd_Schema l0_5 x4_1).rules) x7_2).verbs).length c120_2)).setCell ⟨gb121, 3, none⟩ (.slice A120_3 ((rd_Rule ((rd_Schema l0_5 x4_1).rules) x7_2).resources).length c120_3)).setCell ⟨gb121, 4, none⟩ (.slice A120_4 ((rd_Rule ((rd_Schema l0_5 x4_1).rules) x7_2).spaces).length c120_4))) := ⟨by repeat (first | (with_reducible first | exact HB.out | apply below_alloc | apply pw_below_drewN | apply below_drew1 | refine below_set ?_ GE107.out | refine below_set ?_ GE108.out | refine below_set ?_ GE116.out | refine below_set ?_ GE121.out) | exact HB.out)⟩
                      (try clear HO_3)
                      (try clear HO_6)
                      (try clear HO_108004)
                      (try clear BK107)
                      (try clear BK108)
                      (try clear BK116)
                      (try clear BK121)
                      (try clear HB)
                      generalize (((((w31.setCell ⟨gb121, 0, none⟩ (.slice A120_0 ((rd_Rule ((rd_Schema l0_5 x4_1).rules) x7_2).users).length c120_0)).setCell ⟨gb121, 1, none⟩ (.slice A120_1 ((rd_Rule ((rd_Schema l0_5 x4_1).rules) x7_2).groups).length c120_1)).setCell ⟨gb121, 2, none⟩ (.slice A120_2 ((rd_Rule ((rd_Schema l0_5 x4_1).rules) x7_2).verbs).length c120_2)).setCell ⟨gb121, 3, none⟩ (.slice A120_3 ((rd_Rule ((rd_Schema l0_5 x4_1).rules) x7_2).resources).length c120_3)).setCell ⟨gb121, 4, none⟩ (.slice A120_4 ((rd_Rule ((rd_Schema l0_5 x4_1).rules) x7_2).spaces).length c120_4)) = w36 at n0_ n1_ n2_ n3_ n4_ n5_ n6_ n7_ ⊢
                      have HO_3 := n0_
                      have HO_6 := n1_
                      have HO_108004 := n2_
                      have BK107 := n3_
                      have BK108 := n4_
                      have BK116 := n5_
                      have BK121 := n6_
                      have HB := n7_
                      clear n0_ n1_ n2_ n3_ n4_ n5_ n6_ n7_
                      have n0_ := Aside0.mk (Kd.R_drew HO_3.out)
                      have n1_ := Aside0.mk (Kd.S_drew HO_6.out)
                      have n2_ := Aside0.mk (Kd.R_drew HO_108004.out)
                      have n3_ := Aside0.mk (blk_drew BK107.out)
                      have n4_ := Aside0.mk (blk_drew BK108.out)
                      have n5_ := Aside0.mk (blk_drew BK116.out)
                      have n6_ := Aside0.mk (blk_drew BK121.out)
                      have n7_ := Aside0.mk (below_drew1 HB.out)
                      clear HO_3
                      clear HO_6
                      clear HO_108004
                      clear BK107
                      clear BK108
                      clear BK116
                      clear BK121
                      clear HB
                      have HO_3 := n0_
                      have HO_6 := n1_
                      have HO_108004 := n2_
                      have BK107 := n3_
                      have BK108 := n4_
                      have BK116 := n5_
                      have BK121 := n6_
                      have HB := n7_
                      clear n0_ n1_ n2_ n3_ n4_ n5_ n6_ n7_
                      refine start_ (n := 20) (S := fun w' => w'.cell? ⟨gb121, 0, none⟩ = some (.slice A120_0 ((rd_Rule ((rd_Schema l0_5 x4_1).rules) x7_2).users).length c120_0) ∧ w'.cell? ⟨gb121, 1, none⟩ = some (.slice A120_1 ((rd_Rule ((rd_Schema l0_5 x4_1).rules) x7_2).groups).length c120_1) ∧ w'.cell? ⟨gb121, 2, none⟩ = some (.slice A120_2 ((rd_Rule ((rd_Schema l0_5 x4_1).rules) x7_2).verbs).length c120_2) ∧ w'.cell? ⟨gb121, 3, none⟩ = some (.slice A120_3 ((rd_Rule ((rd_Schema l0_5 x4_1).rules) x7_2).resources).length c120_3) ∧ w'.cell? ⟨gb121, 4, none⟩ = some (.slice A120_4 ((rd_Rule ((rd_Schema l0_5 x4_1).rules) x7_2).spaces).length c120_4)) (ds := []) #[false, false, false, false, false, false, false, false, false, false, false, false, false, false, false, false, false, false, false, false] (by kernel_rfl) rfl rfl ⟨(blk_cell BK121.out 0).trans rfl, (blk_cell BK121.out 1).trans rfl, (blk_cell BK121.out 2).trans rfl, (blk_cell BK121.out 3).trans rfl, (blk_cell BK121.out 4).trans rfl⟩ (fun hHeld => ?_); refine with_tabW usherref10_Copy.tab12 usherref10_Copy.bits12 (fun HT_ HW_ => ?_)
                      generalize w36.drew = w37 at HO_3 HO_6 HO_108004 BK107 BK108 BK116 BK121 HB hHeld ⊢
                      refine pure_ (i := 0) (N := some 38) (v := ?_) (a' := ?_) #[true, false, false, false, false, false, false, false, false, false, false, false, false, false, false, false, false, false, false, false] rfl rfl (any_of HT_.out (by kernel_rfl)) (fun _ _ _ h => h) (Or.inl ⟨by rfl, ?_⟩) ?_ ?_
                      rotate_left
                      · intro w'
                        go_simp
                        with_reducible rfl
                      rotate_left
                      · simp only [Act.put, List.setIfInBounds_toArray, List.set_cons_zero, List.set_cons_succ, i64_w, i32_w]
                        rfl
                      refine pure_ (i := 1) (N := some 39) (v := ?_) (a' := ?_) #[true, true, false, false, false, false, false, false, false, false, false, false, false, false, false, false, false, false, false, false] rfl rfl (any_of HT_.out (by kernel_rfl)) (fun _ _ _ h => h) (Or.inl ⟨by rfl, ?_⟩) ?_ ?_
                      rotate_left
                      · intro w'
                        go_simp
                        with_reducible rfl
                      rotate_left
                      · simp only [Act.put, List.setIfInBounds_toArray, List.set_cons_zero, List.set_cons_succ, i64_w, i32_w]
                        rfl
                      refine pure_ (i := 4) (N := some 42) (v := ?_) (a' := ?_) #[true, true, false, false, true, false, false, false, false, false, false, false, false, false, false, false, false, false, false, false] rfl rfl (any_of HT_.out (by kernel_rfl)) (fun _ _ _ h => h) (Or.inl ⟨by rfl, ?_⟩) ?_ ?_
                      rotate_left
                      · intro w'
                        go_simp
                        with_reducible rfl
                      rotate_left
                      · simp only [Act.put, List.setIfInBounds_toArray, List.set_cons_zero, List.set_cons_succ, i64_w, i32_w]
                        rfl
                      refine pure_ (i := 7) (N := some 45) (v := ?_) (a' := ?_) #[true, true, false, false, true, false, false, true, false, false, false, false, false, false, false, false, false, false, false, false] rfl rfl (any_of HT_.out (by kernel_rfl)) (fun _ _ _ h => h) (Or.inl ⟨by rfl, ?_⟩) ?_ ?_
                      rotate_left
                      · intro w'
                        go_simp
                        with_reducible rfl
                      rotate_left
                      · simp only [Act.put, List.setIfInBounds_toArray, List.set_cons_zero, List.set_cons_succ, i64_w, i32_w]
                        rfl
                      refine pure_ (i := 10) (N := some 48) (v := ?_) (a' := ?_) #[true, true, false, false, true, false, false, true, false, false, true, false, false, false, false, false, false, false, false, false] rfl rfl (any_of HT_.out (by kernel_rfl)) (fun _ _ _ h => h) (Or.inl ⟨by rfl, ?_⟩) ?_ ?_
                      rotate_left
                      · intro w'
                        go_simp
                        with_reducible rfl
                      rotate_left
                      · simp only [Act.put, List.setIfInBounds_toArray, List.set_cons_zero, List.set_cons_succ, i64_w, i32_w]
                        rfl
                      refine pure_ (i := 13) (N := some 51) (v := ?_) (a' := ?_) #[true, true, false, false, true, false, false, true, false, false, true, false, false, true, false, false, false, false, false, false] rfl rfl (any_of HT_.out (by kernel_rfl)) (fun _ _ _ h => h) (Or.inl ⟨by rfl, ?_⟩) ?_ ?_
                      rotate_left
                      · intro w'
                        go_simp
                        with_reducible rfl
                      rotate_left
                      · simp only [Act.put, List.setIfInBounds_toArray, List.set_cons_zero, List.set_cons_succ, i64_w, i32_w]
                        rfl
                      refine take_ (i := 2) (N := some 40) (v := ?_) (a' := ?_) #[true, true, true, false, true, false, false, true, false, false, true, false, false, true, false, false, false, false, false, false] rfl rfl (take_ofW HT_.out HW_.out (by kernel_rfl)) (fun _ _ _ h => h) (Or.inl ⟨by rfl, ?_⟩) hHeld ?_ ?_
                      rotate_left
                      · rintro w' ⟨s0, s1, s2, s3, s4⟩
                        go_simp
                        with_reducible rfl
                      rotate_left
                      · simp only [Act.put, List.setIfInBounds_toArray, List.set_cons_zero, List.set_cons_succ, i64_w, i32_w]
                        rfl
                      refine take_ (i := 5) (N := some 43) (v := ?_) (a' := ?_) #[true, true, true, false, true, true, false, true, false, false, true, false, false, true, false, false, false, false, false, false] rfl rfl (take_ofW HT_.out HW_.out (by kernel_rfl)) (fun _ _ _ h => h) (Or.inl ⟨by rfl, ?_⟩) hHeld ?_ ?_
                      rotate_left
                      · rintro w' ⟨s0, s1, s2, s3, s4⟩
                        go_simp
                        with_reducible rfl
                      rotate_left
                      · simp only [Act.put, List.setIfInBounds_toArray, List.set_cons_zero, List.set_cons_succ, i64_w, i32_w]
                        rfl
                      refine take_ (i := 8) (N := some 46) (v := ?_) (a' := ?_) #[true, true, true, false, true, true, false, true, true, false, true, false, false, true, false, false, false, false, false, false] rfl rfl (take_ofW HT_.out HW_.out (by kernel_rfl)) (fun _ _ _ h => h) (Or.inl ⟨by rfl, ?_⟩) hHeld ?_ ?_
                      rotate_left
                      · rintro w' ⟨s0, s1, s2, s3, s4⟩
                        go_simp
                        with_reducible rfl
                      rotate_left
                      · simp only [Act.put, List.setIfInBounds_toArray, List.set_cons_zero, List.set_cons_succ, i64_w, i32_w]
                        rfl
                      refine take_ (i := 11) (N := some 49) (v := ?_) (a' := ?_) #[true, true, true, false, true, true, false, true, true, false, true, true, false, true, false, false, false, false, false, false] rfl rfl (take_ofW HT_.out HW_.out (by kernel_rfl)) (fun _ _ _ h => h) (Or.inl ⟨by rfl, ?_⟩) hHeld ?_ ?_
                      rotate_left
                      · rintro w' ⟨s0, s1, s2, s3, s4⟩
                        go_simp
                        with_reducible rfl
                      rotate_left
                      · simp only [Act.put, List.setIfInBounds_toArray, List.set_cons_zero, List.set_cons_succ, i64_w, i32_w]
                        rfl
                      refine take_ (i := 14) (N := some 52) (v := ?_) (a' := ?_) #[true, true, true, false, true, true, false, true, true, false, true, true, false, true, true, false, false, false, false, false] rfl rfl (take_ofW HT_.out HW_.out (by kernel_rfl)) (fun _ _ _ h => h) (Or.inl ⟨by rfl, ?_⟩) hHeld ?_ ?_
                      rotate_left
                      · rintro w' ⟨s0, s1, s2, s3, s4⟩
                        go_simp
                        with_reducible rfl
                      rotate_left
                      · simp only [Act.put, List.setIfInBounds_toArray, List.set_cons_zero, List.set_cons_succ, i64_w, i32_w]
                        rfl
                      refine one_ (i := 3) (N := some 41) #[true, true, true, true, true, true, false, true, true, false, true, true, false, true, true, false, false, false, false, false] rfl rfl (one_of HT_.out (by kernel_rfl)) (by decide) (fun K hK => ?_)
                      refine goes_ Tryd.func31 (by kernel_rfl) rfl #[.slice A120_0 ((rd_Rule ((rd_Schema l0_5 x4_1).rules) x7_2).users).length c120_0] (by rfl) rfl rfl (by (try simp only [List.map_toArray, List.map_cons, List.map_nil]); first | done | rfl | (simp only [List.length_drop, List.length_take]; rfl)) ?_
                      with_reducible refine (usherref10_words.calls _ _ ((rd_Rule ((rd_Schema l0_5 x4_1).rules) x7_2).users) t122 _ ?side1 ?side2 A22.out).mono ?_
                      (case side1 => repeat (first | exact (Kd.C_below HR120_0.out HB.out) | (with_reducible refine Kd.C_alloc ?_ _) | (with_reducible refine Kd.C_drewN ?_ _) | (with_reducible refine Kd.C_drew ?_)))
                      (case side2 => exact HC120_0.out)
                      rintro e w38 ⟨v123, rfl, ho0, hb⟩
                      refine ⟨_, rfl, ?_⟩
                      have n0_ := Aside0.mk (Kd.R_elder' (by (with_reducible repeat (first | apply Kd.R_alloc | apply Kd.R_drewN | apply Kd.R_drew)); exact HO_3.out) (Kd.R_base ho0) hb)
                      have n1_ := Aside0.mk (Kd.S_elder' (by (with_reducible repeat (first | apply Kd.S_alloc | apply Kd.S_drewN | apply Kd.S_drew)); exact HO_6.out) (Kd.R_base ho0) hb)
                      have n2_ := Aside0.mk (Kd.R_below (by (with_reducible repeat (first | apply Kd.R_alloc | apply Kd.R_drewN | apply Kd.R_drew)); exact HO_108004.out) hb)
                      have n3_ := Aside0.mk (Kd.R_lower ho0 (below_size (by repeat (first | (with_reducible first | exact HB.out | apply below_alloc | apply pw_below_drewN | apply below_drew1 | refine below_set ?_ GE107.out | refine below_set ?_ GE108.out | refine below_set ?_ GE116.out | refine below_set ?_ GE121.out) | exact HB.out))))
                      have n4_ := Aside0.mk (blk_below (g := gb107) (o := .cells #[.int .i64 a0_0, .int .i64 a0_1, .int .i64 a0_2, .int .i64 a0_3, .slice Ao10 y112.length co10, .slice (some ad115) l0_5.length c0_5] 25 (0, 0)) (by (with_reducible repeat (first | refine blk_drewN ?_ _ | refine blk_drew ?_ | refine blk_alloc ?_ _)); exact BK107.out) hb)
                      have n5_ := Aside0.mk (blk_below (g := gb108) (o := .cells #[.int .i64 0, .int .i64 0, .int .i64 0, .int .i64 0, .slice none 0 0, .slice none 0 0] 25 (0, 0)) (by (with_reducible repeat (first | refine blk_drewN ?_ _ | refine blk_drew ?_ | refine blk_alloc ?_ _)); exact BK108.out) hb)
                      have n6_ := Aside0.mk (blk_below (g := gb116) (o := .cells #[.string ((rd_Schema l0_5 x4_1).name), .string ((rd_Schema l0_5 x4_1).level), .int .i64 ((rd_Schema l0_5 x4_1).rank), .int .i64 ((rd_Schema l0_5 x4_1).tells), .slice (some ad120) ((rd_Schema l0_5 x4_1).rules).length c115_4] 46 (0, 0)) (by (with_reducible repeat (first | refine blk_drewN ?_ _ | refine blk_drew ?_ | refine blk_alloc ?_ _)); exact BK116.out) hb)
                      have n7_ := Aside0.mk (blk_below (g := gb121) (o := .cells #[.slice A120_0 ((rd_Rule ((rd_Schema l0_5 x4_1).rules) x7_2).users).length c120_0, .slice A120_1 ((rd_Rule ((rd_Schema l0_5 x4_1).rules) x7_2).groups).length c120_1, .slice A120_2 ((rd_Rule ((rd_Schema l0_5 x4_1).rules) x7_2).verbs).length c120_2, .slice A120_3 ((rd_Rule ((rd_Schema l0_5 x4_1).rules) x7_2).resources).length c120_3, .slice A120_4 ((rd_Rule ((rd_Schema l0_5 x4_1).rules) x7_2).spaces).length c120_4] 53 (0, 0)) (by (with_reducible repeat (first | refine blk_drewN ?_ _ | refine blk_drew ?_ | refine blk_alloc ?_ _)); exact BK121.out) hb)
                      have n8_ := Aside0.mk (below_step (by repeat (first | (with_reducible first | exact HB.out | apply below_alloc | apply pw_below_drewN | apply below_drew1 | refine below_set ?_ GE107.out | refine below_set ?_ GE108.out | refine below_set ?_ GE116.out | refine below_set ?_ GE121.out) | exact HB.out)) hb)
                      clear HO_3
                      clear HO_6
                      clear HO_108004
                      clear BK107
                      clear BK108
                      clear BK116
                      clear BK121
                      clear HB
                      have HO_3 := n0_
                      have HO_6 := n1_
                      have HO_108004 := n2_
                      have HO124 := n3_
                      have BK107 := n4_
                      have BK108 := n5_
                      have BK116 := n6_
                      have BK121 := n7_
                      have HB := n8_
                      clear n0_ n1_ n2_ n3_ n4_ n5_ n6_ n7_ n8_
                      (try clear hb)
                      (try clear hb2)
                      (try clear hk)
                      (try clear hi)
                      (try clear ho0)
                      refine hK.out _ _ ⟨(blk_cell BK121.out 0).trans rfl, (blk_cell BK121.out 1).trans rfl, (blk_cell BK121.out 2).trans rfl, (blk_cell BK121.out 3).trans rfl, (blk_cell BK121.out 4).trans rfl⟩ (fun hHeld => ?_)
                      clear hK K
                      refine norm_ (a' := ?_) ?_ ?_
                      rotate_left
                      · show Act.put _ (some 41) _ = _
                        simp only [Act.put, List.setIfInBounds_toArray, List.set_cons_zero, List.set_cons_succ, i64_w, i32_w]
                        rfl
                      refine one_ (i := 6) (N := some 44) #[true, true, true, true, true, true, true, true, true, false, true, true, false, true, true, false, false, false, false, false] rfl rfl (one_of HT_.out (by kernel_rfl)) (by decide) (fun K hK => ?_)
                      refine goes_ Tryd.func31 (by kernel_rfl) rfl #[.slice A120_1 ((rd_Rule ((rd_Schema l0_5 x4_1).rules) x7_2).groups).length c120_1] (by rfl) rfl rfl (by (try simp only [List.map_toArray, List.map_cons, List.map_nil]); first | done | rfl | (simp only [List.length_drop, List.length_take]; rfl)) ?_
                      with_reducible refine (usherref10_words.calls _ _ ((rd_Rule ((rd_Schema l0_5 x4_1).rules) x7_2).groups) t125 _ ?side1 ?side2 A23.out).mono ?_
                      (case side1 => repeat (first | exact (Kd.C_below HR120_1.out HB.out) | (with_reducible refine Kd.C_alloc ?_ _) | (with_reducible refine Kd.C_drewN ?_ _) | (with_reducible refine Kd.C_drew ?_)))
                      (case side2 => exact HC120_1.out)
                      rintro e w39 ⟨v126, rfl, ho0, hb⟩
                      refine ⟨_, rfl, ?_⟩
                      have n0_ := Aside0.mk (Kd.R_elder' (by (with_reducible repeat (first | apply Kd.R_alloc | apply Kd.R_drewN | apply Kd.R_drew)); exact HO_3.out) (Kd.R_base ho0) hb)
                      have n1_ := Aside0.mk (Kd.S_elder' (by (with_reducible repeat (first | apply Kd.S_alloc | apply Kd.S_drewN | apply Kd.S_drew)); exact HO_6.out) (Kd.R_base ho0) hb)
                      have n2_ := Aside0.mk (Kd.R_below (by (with_reducible repeat (first | apply Kd.R_alloc | apply Kd.R_drewN | apply Kd.R_drew)); exact HO_108004.out) hb)
                      have n3_ := Aside0.mk (Kd.R_elder' (by (with_reducible repeat (first | apply Kd.R_alloc | apply Kd.R_drewN | apply Kd.R_drew)); exact HO124.out) (Kd.R_base ho0) hb)
                      have n4_ := Aside0.mk (Kd.R_lower (Kd.R_new' ho0 (Kd.R_lt (by (with_reducible repeat (first | apply Kd.R_alloc | apply Kd.R_drewN | apply Kd.R_drew)); exact HO124.out))) (below_size (by repeat (first | (with_reducible first | exact HB.out | apply below_alloc | apply pw_below_drewN | apply below_drew1 | refine below_set ?_ GE107.out | refine below_set ?_ GE108.out | refine below_set ?_ GE116.out | refine below_set ?_ GE121.out) | exact HB.out))))
                      have n5_ := Aside0.mk (blk_below (g := gb107) (o := .cells #[.int .i64 a0_0, .int .i64 a0_1, .int .i64 a0_2, .int .i64 a0_3, .slice Ao10 y112.length co10, .slice (some ad115) l0_5.length c0_5] 25 (0, 0)) (by (with_reducible repeat (first | refine blk_drewN ?_ _ | refine blk_drew ?_ | refine blk_alloc ?_ _)); exact BK107.out) hb)
                      have n6_ := Aside0.mk (blk_below (g := gb108) (o := .cells #[.int .i64 0, .int .i64 0, .int .i64 0, .int .i64 0, .slice none 0 0, .slice none 0 0] 25 (0, 0)) (by (with_reducible repeat (first | refine blk_drewN ?_ _ | refine blk_drew ?_ | refine blk_alloc ?_ _)); exact BK108.out) hb)
                      have n7_ := Aside0.mk (blk_below (g := gb116) (o := .cells #[.string ((rd_Schema l0_5 x4_1).name), .string ((rd_Schema l0_5 x4_1).level), .int .i64 ((rd_Schema l0_5 x4_1).rank), .int .i64 ((rd_Schema l0_5 x4_1).tells), .slice (some ad120) ((rd_Schema l0_5 x4_1).rules).length c115_4] 46 (0, 0)) (by (with_reducible repeat (first | refine blk_drewN ?_ _ | refine blk_drew ?_ | refine blk_alloc ?_ _)); exact BK116.out) hb)
                      have n8_ := Aside0.mk (blk_below (g := gb121) (o := .cells #[.slice A120_0 ((rd_Rule ((rd_Schema l0_5 x4_1).rules) x7_2).users).length c120_0, .slice A120_1 ((rd_Rule ((rd_Schema l0_5 x4_1).rules) x7_2).groups).length c120_1, .slice A120_2 ((rd_Rule ((rd_Schema l0_5 x4_1).rules) x7_2).verbs).length c120_2, .slice A120_3 ((rd_Rule ((rd_Schema l0_5 x4_1).rules) x7_2).resources).length c120_3, .slice A120_4 ((rd_Rule ((rd_Schema l0_5 x4_1).rules) x7_2).spaces).length c120_4] 53 (0, 0)) (by (with_reducible repeat (first | refine blk_drewN ?_ _ | refine blk_drew ?_ | refine blk_alloc ?_ _)); exact BK121.out) hb)
                      have n9_ := Aside0.mk (below_step (by repeat (first | (with_reducible first | exact HB.out | apply below_alloc | apply pw_below_drewN | apply below_drew1 | refine below_set ?_ GE107.out | refine below_set ?_ GE108.out | refine below_set ?_ GE116.out | refine below_set ?_ GE121.out) | exact HB.out)) hb)
                      clear HO_3
                      clear HO_6
                      clear HO_108004
                      clear HO124
                      clear BK107
                      clear BK108
                      clear BK116
                      clear BK121
                      clear HB
                      have HO_3 := n0_
                      have HO_6 := n1_
                      have HO_108004 := n2_
                      have HO124 := n3_
                      have HO127 := n4_
                      have BK107 := n5_
                      have BK108 := n6_
                      have BK116 := n7_
                      have BK121 := n8_
                      have HB := n9_
                      clear n0_ n1_ n2_ n3_ n4_ n5_ n6_ n7_ n8_ n9_
                      (try clear hb)
                      (try clear hb2)
                      (try clear hk)
                      (try clear hi)
                      (try clear ho0)
                      refine hK.out _ _ ⟨(blk_cell BK121.out 0).trans rfl, (blk_cell BK121.out 1).trans rfl, (blk_cell BK121.out 2).trans rfl, (blk_cell BK121.out 3).trans rfl, (blk_cell BK121.out 4).trans rfl⟩ (fun hHeld => ?_)
                      clear hK K
                      refine norm_ (a' := ?_) ?_ ?_
                      rotate_left
                      · show Act.put _ (some 44) _ = _
                        simp only [Act.put, List.setIfInBounds_toArray, List.set_cons_zero, List.set_cons_succ, i64_w, i32_w]
                        rfl
                      refine one_ (i := 9) (N := some 47) #[true, true, true, true, true, true, true, true, true, true, true, true, false, true, true, false, false, false, false, false] rfl rfl (one_of HT_.out (by kernel_rfl)) (by decide) (fun K hK => ?_)
                      refine goes_ Tryd.func31 (by kernel_rfl) rfl #[.slice A120_2 ((rd_Rule ((rd_Schema l0_5 x4_1).rules) x7_2).verbs).length c120_2] (by rfl) rfl rfl (by (try simp only [List.map_toArray, List.map_cons, List.map_nil]); first | done | rfl | (simp only [List.length_drop, List.length_take]; rfl)) ?_
                      with_reducible refine (usherref10_words.calls _ _ ((rd_Rule ((rd_Schema l0_5 x4_1).rules) x7_2).verbs) t128 _ ?side1 ?side2 A24.out).mono ?_
                      (case side1 => repeat (first | exact (Kd.C_below HR120_2.out HB.out) | (with_reducible refine Kd.C_alloc ?_ _) | (with_reducible refine Kd.C_drewN ?_ _) | (with_reducible refine Kd.C_drew ?_)))
                      (case side2 => exact HC120_2.out)
                      rintro e w40 ⟨v129, rfl, ho0, hb⟩
                      refine ⟨_, rfl, ?_⟩
                      have n0_ := Aside0.mk (Kd.R_elder' (by (with_reducible repeat (first | apply Kd.R_alloc | apply Kd.R_drewN | apply Kd.R_drew)); exact HO_3.out) (Kd.R_base ho0) hb)
                      have n1_ := Aside0.mk (Kd.S_elder' (by (with_reducible repeat (first | apply Kd.S_alloc | apply Kd.S_drewN | apply Kd.S_drew)); exact HO_6.out) (Kd.R_base ho0) hb)
                      have n2_ := Aside0.mk (Kd.R_below (by (with_reducible repeat (first | apply Kd.R_alloc | apply Kd.R_drewN | apply Kd.R_drew)); exact HO_108004.out) hb)
                      have n3_ := Aside0.mk (Kd.R_elder' (by (with_reducible repeat (first | apply Kd.R_alloc | apply Kd.R_drewN | apply Kd.R_drew)); exact HO124.out) (Kd.R_base ho0) hb)
                      have n4_ := Aside0.mk (Kd.R_elder' (by (with_reducible repeat (first | apply Kd.R_alloc | apply Kd.R_drewN | apply Kd.R_drew)); exact HO127.out) (Kd.R_base ho0) hb)
                      have n5_ := Aside0.mk (Kd.R_lower (Kd.R_new' (Kd.R_new' ho0 (Kd.R_lt (by (with_reducible repeat (first | apply Kd.R_alloc | apply Kd.R_drewN | apply Kd.R_drew)); exact HO124.out))) (Kd.R_lt (by (with_reducible repeat (first | apply Kd.R_alloc | apply Kd.R_drewN | apply Kd.R_drew)); exact HO127.out))) (below_size (by repeat (first | (with_reducible first | exact HB.out | apply below_alloc | apply pw_below_drewN | apply below_drew1 | refine below_set ?_ GE107.out | refine below_set ?_ GE108.out | refine below_set ?_ GE116.out | refine below_set ?_ GE121.out) | exact HB.out))))
                      have n6_ := Aside0.mk (blk_below (g := gb107) (o := .cells #[.int .i64 a0_0, .int .i64 a0_1, .int .i64 a0_2, .int .i64 a0_3, .slice Ao10 y112.length co10, .slice (some ad115) l0_5.length c0_5] 25 (0, 0)) (by (with_reducible repeat (first | refine blk_drewN ?_ _ | refine blk_drew ?_ | refine blk_alloc ?_ _)); exact BK107.out) hb)
                      have n7_ := Aside0.mk (blk_below (g := gb108) (o := .cells #[.int .i64 0, .int .i64 0, .int .i64 0, .int .i64 0, .slice none 0 0, .slice none 0 0] 25 (0, 0)) (by (with_reducible repeat (first | refine blk_drewN ?_ _ | refine blk_drew ?_ | refine blk_alloc ?_ _)); exact BK108.out) hb)
                      have n8_ := Aside0.mk (blk_below (g := gb116) (o := .cells #[.string ((rd_Schema l0_5 x4_1).name), .string ((rd_Schema l0_5 x4_1).level), .int .i64 ((rd_Schema l0_5 x4_1).rank), .int .i64 ((rd_Schema l0_5 x4_1).tells), .slice (some ad120) ((rd_Schema l0_5 x4_1).rules).length c115_4] 46 (0, 0)) (by (with_reducible repeat (first | refine blk_drewN ?_ _ | refine blk_drew ?_ | refine blk_alloc ?_ _)); exact BK116.out) hb)
                      have n9_ := Aside0.mk (blk_below (g := gb121) (o := .cells #[.slice A120_0 ((rd_Rule ((rd_Schema l0_5 x4_1).rules) x7_2).users).length c120_0, .slice A120_1 ((rd_Rule ((rd_Schema l0_5 x4_1).rules) x7_2).groups).length c120_1, .slice A120_2 ((rd_Rule ((rd_Schema l0_5 x4_1).rules) x7_2).verbs).length c120_2, .slice A120_3 ((rd_Rule ((rd_Schema l0_5 x4_1).rules) x7_2).resources).length c120_3, .slice A120_4 ((rd_Rule ((rd_Schema l0_5 x4_1).rules) x7_2).spaces).length c120_4] 53 (0, 0)) (by (with_reducible repeat (first | refine blk_drewN ?_ _ | refine blk_drew ?_ | refine blk_alloc ?_ _)); exact BK121.out) hb)
                      have n10_ := Aside0.mk (below_step (by repeat (first | (with_reducible first | exact HB.out | apply below_alloc | apply pw_below_drewN | apply below_drew1 | refine below_set ?_ GE107.out | refine below_set ?_ GE108.out | refine below_set ?_ GE116.out | refine below_set ?_ GE121.out) | exact HB.out)) hb)
                      clear HO_3
                      clear HO_6
                      clear HO_108004
                      clear HO124
                      clear HO127
                      clear BK107
                      clear BK108
                      clear BK116
                      clear BK121
                      clear HB
                      have HO_3 := n0_
                      have HO_6 := n1_
                      have HO_108004 := n2_
                      have HO124 := n3_
                      have HO127 := n4_
                      have HO130 := n5_
                      have BK107 := n6_
                      have BK108 := n7_
                      have BK116 := n8_
                      have BK121 := n9_
                      have HB := n10_
                      clear n0_ n1_ n2_ n3_ n4_ n5_ n6_ n7_ n8_ n9_ n10_
                      (try clear hb)
                      (try clear hb2)
                      (try clear hk)
                      (try clear hi)
                      (try clear ho0)
                      refine hK.out _ _ ⟨(blk_cell BK121.out 0).trans rfl, (blk_cell BK121.out 1).trans rfl, (blk_cell BK121.out 2).trans rfl, (blk_cell BK121.out 3).trans rfl, (blk_cell BK121.out 4).trans rfl⟩ (fun hHeld => ?_)
                      clear hK K
                      refine norm_ (a' := ?_) ?_ ?_
                      rotate_left
                      · show Act.put _ (some 47) _ = _
                        simp only [Act.put, List.setIfInBounds_toArray, List.set_cons_zero, List.set_cons_succ, i64_w, i32_w]
                        rfl
                      refine one_ (i := 12) (N := some 50) #[true, true, true, true, true, true, true, true, true, true, true, true, true, true, true, false, false, false, false, false] rfl rfl (one_of HT_.out (by kernel_rfl)) (by decide) (fun K hK => ?_)
                      refine goes_ Tryd.func31 (by kernel_rfl) rfl #[.slice A120_3 ((rd_Rule ((rd_Schema l0_5 x4_1).rules) x7_2).resources).length c120_3] (by rfl) rfl rfl (by (try simp only [List.map_toArray, List.map_cons, List.map_nil]); first | done | rfl | (simp only [List.length_drop, List.length_take]; rfl)) ?_
                      with_reducible refine (usherref10_words.calls _ _ ((rd_Rule ((rd_Schema l0_5 x4_1).rules) x7_2).resources) t131 _ ?side1 ?side2 A25.out).mono ?_
                      (case side1 => repeat (first | exact (Kd.C_below HR120_3.out HB.out) | (with_reducible refine Kd.C_alloc ?_ _) | (with_reducible refine Kd.C_drewN ?_ _) | (with_reducible refine Kd.C_drew ?_)))
                      (case side2 => exact HC120_3.out)
                      rintro e w41 ⟨v132, rfl, ho0, hb⟩
                      refine ⟨_, rfl, ?_⟩
                      have n0_ := Aside0.mk (Kd.R_elder' (by (with_reducible repeat (first | apply Kd.R_alloc | apply Kd.R_drewN | apply Kd.R_drew)); exact HO_3.out) (Kd.R_base ho0) hb)
                      have n1_ := Aside0.mk (Kd.S_elder' (by (with_reducible repeat (first | apply Kd.S_alloc | apply Kd.S_drewN | apply Kd.S_drew)); exact HO_6.out) (Kd.R_base ho0) hb)
                      have n2_ := Aside0.mk (Kd.R_below (by (with_reducible repeat (first | apply Kd.R_alloc | apply Kd.R_drewN | apply Kd.R_drew)); exact HO_108004.out) hb)
                      have n3_ := Aside0.mk (Kd.R_elder' (by (with_reducible repeat (first | apply Kd.R_alloc | apply Kd.R_drewN | apply Kd.R_drew)); exact HO124.out) (Kd.R_base ho0) hb)
                      have n4_ := Aside0.mk (Kd.R_elder' (by (with_reducible repeat (first | apply Kd.R_alloc | apply Kd.R_drewN | apply Kd.R_drew)); exact HO127.out) (Kd.R_base ho0) hb)
                      have n5_ := Aside0.mk (Kd.R_elder' (by (with_reducible repeat (first | apply Kd.R_alloc | apply Kd.R_drewN | apply Kd.R_drew)); exact HO130.out) (Kd.R_base ho0) hb)
                      have n6_ := Aside0.mk (Kd.R_lower (Kd.R_new' (Kd.R_new' (Kd.R_new' ho0 (Kd.R_lt (by (with_reducible repeat (first | apply Kd.R_alloc | apply Kd.R_drewN | apply Kd.R_drew)); exact HO124.out))) (Kd.R_lt (by (with_reducible repeat (first | apply Kd.R_alloc | apply Kd.R_drewN | apply Kd.R_drew)); exact HO127.out))) (Kd.R_lt (by (with_reducible repeat (first | apply Kd.R_alloc | apply Kd.R_drewN | apply Kd.R_drew)); exact HO130.out))) (below_size (by repeat (first | (with_reducible first | exact HB.out | apply below_alloc | apply pw_below_drewN | apply below_drew1 | refine below_set ?_ GE107.out | refine below_set ?_ GE108.out | refine below_set ?_ GE116.out | refine below_set ?_ GE121.out) | exact HB.out))))
                      have n7_ := Aside0.mk (blk_below (g := gb107) (o := .cells #[.int .i64 a0_0, .int .i64 a0_1, .int .i64 a0_2, .int .i64 a0_3, .slice Ao10 y112.length co10, .slice (some ad115) l0_5.length c0_5] 25 (0, 0)) (by (with_reducible repeat (first | refine blk_drewN ?_ _ | refine blk_drew ?_ | refine blk_alloc ?_ _)); exact BK107.out) hb)
                      have n8_ := Aside0.mk (blk_below (g := gb108) (o := .cells #[.int .i64 0, .int .i64 0, .int .i64 0, .int .i64 0, .slice none 0 0, .slice none 0 0] 25 (0, 0)) (by (with_reducible repeat (first | refine blk_drewN ?_ _ | refine blk_drew ?_ | refine blk_alloc ?_ _)); exact BK108.out) hb)
                      have n9_ := Aside0.mk (blk_below (g := gb116) (o := .cells #[.string ((rd_Schema l0_5 x4_1).name), .string ((rd_Schema l0_5 x4_1).level), .int .i64 ((rd_Schema l0_5 x4_1).rank), .int .i64 ((rd_Schema l0_5 x4_1).tells), .slice (some ad120) ((rd_Schema l0_5 x4_1).rules).length c115_4] 46 (0, 0)) (by (with_reducible repeat (first | refine blk_drewN ?_ _ | refine blk_drew ?_ | refine blk_alloc ?_ _)); exact BK116.out) hb)
                      have n10_ := Aside0.mk (blk_below (g := gb121) (o := .cells #[.slice A120_0 ((rd_Rule ((rd_Schema l0_5 x4_1).rules) x7_2).users).length c120_0, .slice A120_1 ((rd_Rule ((rd_Schema l0_5 x4_1).rules) x7_2).groups).length c120_1, .slice A120_2 ((rd_Rule ((rd_Schema l0_5 x4_1).rules) x7_2).verbs).length c120_2, .slice A120_3 ((rd_Rule ((rd_Schema l0_5 x4_1).rules) x7_2).resources).length c120_3, .slice A120_4 ((rd_Rule ((rd_Schema l0_5 x4_1).rules) x7_2).spaces).length c120_4] 53 (0, 0)) (by (with_reducible repeat (first | refine blk_drewN ?_ _ | refine blk_drew ?_ | refine blk_alloc ?_ _)); exact BK121.out) hb)
                      have n11_ := Aside0.mk (below_step (by repeat (first | (with_reducible first | exact HB.out | apply below_alloc | apply pw_below_drewN | apply below_drew1 | refine below_set ?_ GE107.out | refine below_set ?_ GE108.out | refine below_set ?_ GE116.out | refine below_set ?_ GE121.out) | exact HB.out)) hb)
                      clear HO_3
                      clear HO_6
                      clear HO_108004
                      clear HO124
                      clear HO127
                      clear HO130
                      clear BK107
                      clear BK108
                      clear BK116
                      clear BK121
                      clear HB
                      have HO_3 := n0_
                      have HO_6 := n1_
                      have HO_108004 := n2_
                      have HO124 := n3_
                      have HO127 := n4_
                      have HO130 := n5_
                      have HO133 := n6_
                      have BK107 := n7_
                      have BK108 := n8_
                      have BK116 := n9_
                      have BK121 := n10_
                      have HB := n11_
                      clear n0_ n1_ n2_ n3_ n4_ n5_ n6_ n7_ n8_ n9_ n10_ n11_
                      (try clear hb)
                      (try clear hb2)
                      (try clear hk)
                      (try clear hi)
                      (try clear ho0)
                      refine hK.out _ _ ⟨(blk_cell BK121.out 0).trans rfl, (blk_cell BK121.out 1).trans rfl, (blk_cell BK121.out 2).trans rfl, (blk_cell BK121.out 3).trans rfl, (blk_cell BK121.out 4).trans rfl⟩ (fun hHeld => ?_)
                      clear hK K
                      refine norm_ (a' := ?_) ?_ ?_
                      rotate_left
                      · show Act.put _ (some 50) _ = _
                        simp only [Act.put, List.setIfInBounds_toArray, List.set_cons_zero, List.set_cons_succ, i64_w, i32_w]
                        rfl
                      refine one_ (i := 15) (N := some 53) #[true, true, true, true, true, true, true, true, true, true, true, true, true, true, true, true, false, false, false, false] rfl rfl (one_of HT_.out (by kernel_rfl)) (by decide) (fun K hK => ?_)
                      refine goes_ Tryd.func31 (by kernel_rfl) rfl #[.slice A120_4 ((rd_Rule ((rd_Schema l0_5 x4_1).rules) x7_2).spaces).length c120_4] (by rfl) rfl rfl (by (try simp only [List.map_toArray, List.map_cons, List.map_nil]); first | done | rfl | (simp only [List.length_drop, List.length_take]; rfl)) ?_
                      with_reducible refine (usherref10_words.calls _ _ ((rd_Rule ((rd_Schema l0_5 x4_1).rules) x7_2).spaces) t134 _ ?side1 ?side2 A26.out).mono ?_
                      (case side1 => repeat (first | exact (Kd.C_below HR120_4.out HB.out) | (with_reducible refine Kd.C_alloc ?_ _) | (with_reducible refine Kd.C_drewN ?_ _) | (with_reducible refine Kd.C_drew ?_)))
                      (case side2 => exact HC120_4.out)
                      rintro e w42 ⟨v135, rfl, ho0, hb⟩
                      refine ⟨_, rfl, ?_⟩
                      have n0_ := Aside0.mk (Kd.R_elder' (by (with_reducible repeat (first | apply Kd.R_alloc | apply Kd.R_drewN | apply Kd.R_drew)); exact HO_3.out) (Kd.R_base ho0) hb)
                      have n1_ := Aside0.mk (Kd.S_elder' (by (with_reducible repeat (first | apply Kd.S_alloc | apply Kd.S_drewN | apply Kd.S_drew)); exact HO_6.out) (Kd.R_base ho0) hb)
                      have n2_ := Aside0.mk (Kd.R_below (by (with_reducible repeat (first | apply Kd.R_alloc | apply Kd.R_drewN | apply Kd.R_drew)); exact HO_108004.out) hb)
                      have n3_ := Aside0.mk (Kd.R_elder' (by (with_reducible repeat (first | apply Kd.R_alloc | apply Kd.R_drewN | apply Kd.R_drew)); exact HO124.out) (Kd.R_base ho0) hb)
                      have n4_ := Aside0.mk (Kd.R_elder' (by (with_reducible repeat (first | apply Kd.R_alloc | apply Kd.R_drewN | apply Kd.R_drew)); exact HO127.out) (Kd.R_base ho0) hb)
                      have n5_ := Aside0.mk (Kd.R_elder' (by (with_reducible repeat (first | apply Kd.R_alloc | apply Kd.R_drewN | apply Kd.R_drew)); exact HO130.out) (Kd.R_base ho0) hb)
                      have n6_ := Aside0.mk (Kd.R_elder' (by (with_reducible repeat (first | apply Kd.R_alloc | apply Kd.R_drewN | apply Kd.R_drew)); exact HO133.out) (Kd.R_base ho0) hb)
                      have n7_ := Aside0.mk (Kd.R_lower (Kd.R_new' (Kd.R_new' (Kd.R_new' (Kd.R_new' ho0 (Kd.R_lt (by (with_reducible repeat (first | apply Kd.R_alloc | apply Kd.R_drewN | apply Kd.R_drew)); exact HO124.out))) (Kd.R_lt (by (with_reducible repeat (first | apply Kd.R_alloc | apply Kd.R_drewN | apply Kd.R_drew)); exact HO127.out))) (Kd.R_lt (by (with_reducible repeat (first | apply Kd.R_alloc | apply Kd.R_drewN | apply Kd.R_drew)); exact HO130.out))) (Kd.R_lt (by (with_reducible repeat (first | apply Kd.R_alloc | apply Kd.R_drewN | apply Kd.R_drew)); exact HO133.out))) (below_size (by repeat (first | (with_reducible first | exact HB.out | apply below_alloc | apply pw_below_drewN | apply below_drew1 | refine below_set ?_ GE107.out | refine below_set ?_ GE108.out | refine below_set ?_ GE116.out | refine below_set ?_ GE121.out) | exact HB.out))))
                      have n8_ := Aside0.mk (blk_below (g := gb107) (o := .cells #[.int .i64 a0_0, .int .i64 a0_1, .int .i64 a0_2, .int .i64 a0_3, .slice Ao10 y112.length co10, .slice (some ad115) l0_5.length c0_5] 25 (0, 0)) (by (with_reducible repeat (first | refine blk_drewN ?_ _ | refine blk_drew ?_ | refine blk_alloc ?_ _)); exact BK107.out) hb)
                      have n9_ := Aside0.mk (blk_below (g := gb108) (o := .cells #[.int .i64 0, .int .i64 0, .int .i64 0, .int .i64 0, .slice none 0 0, .slice none 0 0] 25 (0, 0)) (by (with_reducible repeat (first | refine blk_drewN ?_ _ | refine blk_drew ?_ | refine blk_alloc ?_ _)); exact BK108.out) hb)
                      have n10_ := Aside0.mk (blk_below (g := gb116) (o := .cells #[.string ((rd_Schema l0_5 x4_1).name), .string ((rd_Schema l0_5 x4_1).level), .int .i64 ((rd_Schema l0_5 x4_1).rank), .int .i64 ((rd_Schema l0_5 x4_1).tells), .slice (some ad120) ((rd_Schema l0_5 x4_1).rules).length c115_4] 46 (0, 0)) (by (with_reducible repeat (first | refine blk_drewN ?_ _ | refine blk_drew ?_ | refine blk_alloc ?_ _)); exact BK116.out) hb)
                      have n11_ := Aside0.mk (blk_below (g := gb121) (o := .cells #[.slice A120_0 ((rd_Rule ((rd_Schema l0_5 x4_1).rules) x7_2).users).length c120_0, .slice A120_1 ((rd_Rule ((rd_Schema l0_5 x4_1).rules) x7_2).groups).length c120_1, .slice A120_2 ((rd_Rule ((rd_Schema l0_5 x4_1).rules) x7_2).verbs).length c120_2, .slice A120_3 ((rd_Rule ((rd_Schema l0_5 x4_1).rules) x7_2).resources).length c120_3, .slice A120_4 ((rd_Rule ((rd_Schema l0_5 x4_1).rules) x7_2).spaces).length c120_4] 53 (0, 0)) (by (with_reducible repeat (first | refine blk_drewN ?_ _ | refine blk_drew ?_ | refine blk_alloc ?_ _)); exact BK121.out) hb)
                      have n12_ := Aside0.mk (below_step (by repeat (first | (with_reducible first | exact HB.out | apply below_alloc | apply pw_below_drewN | apply below_drew1 | refine below_set ?_ GE107.out | refine below_set ?_ GE108.out | refine below_set ?_ GE116.out | refine below_set ?_ GE121.out) | exact HB.out)) hb)
                      clear HO_3
                      clear HO_6
                      clear HO_108004
                      clear HO124
                      clear HO127
                      clear HO130
                      clear HO133
                      clear BK107
                      clear BK108
                      clear BK116
                      clear BK121
                      clear HB
                      have HO_3 := n0_
                      have HO_6 := n1_
                      have HO_108004 := n2_
                      have HO124 := n3_
                      have HO127 := n4_
                      have HO130 := n5_
                      have HO133 := n6_
                      have HO136 := n7_
                      have BK107 := n8_
                      have BK108 := n9_
                      have BK116 := n10_
                      have BK121 := n11_
                      have HB := n12_
                      clear n0_ n1_ n2_ n3_ n4_ n5_ n6_ n7_ n8_ n9_ n10_ n11_ n12_
                      (try clear hb)
                      (try clear hb2)
                      (try clear hk)
                      (try clear hi)
                      (try clear ho0)
                      obtain ⟨Ao43, co43, eo43⟩ := Kd.R_slice HO136.out
                      (first | subst eo43 | (injection eo43 with f1_ f2_ f3_; have f4_ := f1_.symm; have f5_ := f3_.symm; clear f1_ f2_ f3_; subst f4_; subst f5_))
                      obtain ⟨Ao44, co44, eo44⟩ := Kd.R_slice HO133.out
                      (first | subst eo44 | (injection eo44 with f1_ f2_ f3_; have f4_ := f1_.symm; have f5_ := f3_.symm; clear f1_ f2_ f3_; subst f4_; subst f5_))
                      obtain ⟨Ao45, co45, eo45⟩ := Kd.R_slice HO130.out
                      (first | subst eo45 | (injection eo45 with f1_ f2_ f3_; have f4_ := f1_.symm; have f5_ := f3_.symm; clear f1_ f2_ f3_; subst f4_; subst f5_))
                      obtain ⟨Ao46, co46, eo46⟩ := Kd.R_slice HO127.out
                      (first | subst eo46 | (injection eo46 with f1_ f2_ f3_; have f4_ := f1_.symm; have f5_ := f3_.symm; clear f1_ f2_ f3_; subst f4_; subst f5_))
                      obtain ⟨Ao47, co47, eo47⟩ := Kd.R_slice HO124.out
                      (first | subst eo47 | (injection eo47 with f1_ f2_ f3_; have f4_ := f1_.symm; have f5_ := f3_.symm; clear f1_ f2_ f3_; subst f4_; subst f5_))
                      refine hK.out _ _ ⟨(blk_cell BK121.out 0).trans rfl, (blk_cell BK121.out 1).trans rfl, (blk_cell BK121.out 2).trans rfl, (blk_cell BK121.out 3).trans rfl, (blk_cell BK121.out 4).trans rfl⟩ (fun hHeld => ?_)
                      clear hK K
                      refine norm_ (a' := ?_) ?_ ?_
                      rotate_left
                      · show Act.put _ (some 53) _ = _
                        simp only [Act.put, List.setIfInBounds_toArray, List.set_cons_zero, List.set_cons_succ, i64_w, i32_w]
                        rfl
                      refine pure_ (i := 16) (N := some 54) (v := ?_) (a' := ?_) #[true, true, true, true, true, true, true, true, true, true, true, true, true, true, true, true, true, false, false, false] rfl rfl (any_of HT_.out (by kernel_rfl)) (fun _ _ _ h => h) (Or.inl ⟨by rfl, ?_⟩) ?_ ?_
                      rotate_left
                      · intro w'
                        go_simp
                        with_reducible rfl
                      rotate_left
                      · simp only [Act.put, List.setIfInBounds_toArray, List.set_cons_zero, List.set_cons_succ, i64_w, i32_w]
                        rfl
                      refine one_ (i := 17) (N := some 55) #[true, true, true, true, true, true, true, true, true, true, true, true, true, true, true, true, true, true, false, false] rfl rfl (one_of HT_.out (by kernel_rfl)) (by decide) (fun K hK => ?_)
                      refine value_ (w1 := ?_) (v := ?_) (by rfl) rfl ?_ ?_
                      rotate_left 2
                      · go_simp
                        constructor
                        · rfl
                        · rfl
                      refine hK.out _ _ ⟨(blk_cell (blk_alloc BK121.out _) 0).trans rfl, (blk_cell (blk_alloc BK121.out _) 1).trans rfl, (blk_cell (blk_alloc BK121.out _) 2).trans rfl, (blk_cell (blk_alloc BK121.out _) 3).trans rfl, (blk_cell (blk_alloc BK121.out _) 4).trans rfl⟩ (fun hHeld => ?_)
                      clear hK K
                      refine norm_ (a' := ?_) ?_ ?_
                      rotate_left
                      · show Act.put _ (some 55) _ = _
                        simp only [Act.put, List.setIfInBounds_toArray, List.set_cons_zero, List.set_cons_succ, i64_w, i32_w]
                        rfl
                      refine one_ (i := 18) (N := some 56) #[true, true, true, true, true, true, true, true, true, true, true, true, true, true, true, true, true, true, true, false] rfl rfl (one_of HT_.out (by kernel_rfl)) (by decide) (fun K hK => ?_)
                      refine Kd.S_append_step kRule (w0 := w) w.heap.size (by rfl) (.tmp 38) (.tmp 55) 44 53 (.agg #[(.slice none 0 0), (.slice none 0 0), (.slice none 0 0), (.slice none 0 0), (.slice none 0 0)]) 120 rfl Tryd.underlying44 infoRule rfl (by decide) (by omega) u6 x6_2 (⟨t122, t125, t128, t131, t134⟩ : Rule) [.slice Ao47 t122.length co47, .slice Ao46 t125.length co46, .slice Ao45 t128.length co45, .slice Ao44 t131.length co44, .slice Ao43 t134.length co43] (fun k_ => k_ ≠ gb121) (fun k_ => some k_ = (.slice Ao47 t122.length co47 : Value).ownBlock ∨ some k_ = (.slice Ao46 t125.length co46 : Value).ownBlock ∨ some k_ = (.slice Ao45 t128.length co45 : Value).ownBlock ∨ some k_ = (.slice Ao44 t131.length co44 : Value).ownBlock ∨ some k_ = (.slice Ao43 t134.length co43 : Value).ownBlock) rfl rfl ?aP (fun k_ hk_ => hk_.elim (fun h_ => ((Kd.R_mono (ok' := fun k_ => ((fun k_ => k_ ≠ gb121)) k_ ∧ some k_ ≠ (u6 : Value).ownBlock) (Kd.R_types (Kd.R_apart' (HO124.out) (Kd.S_typed HO_6.out) (by decide)) BK121.out (by decide)) (fun k_ hk => ⟨hk.2, hk.1.2⟩))).1 k_ h_.symm) (fun h_ => h_.elim (fun h_ => ((Kd.R_mono (ok' := fun k_ => ((fun k_ => k_ ≠ gb121)) k_ ∧ some k_ ≠ (u6 : Value).ownBlock) (Kd.R_types (Kd.R_apart' (HO127.out) (Kd.S_typed HO_6.out) (by decide)) BK121.out (by decide)) (fun k_ hk => ⟨hk.2, hk.1.2⟩))).1 k_ h_.symm) (fun h_ => h_.elim (fun h_ => ((Kd.R_mono (ok' := fun k_ => ((fun k_ => k_ ≠ gb121)) k_ ∧ some k_ ≠ (u6 : Value).ownBlock) (Kd.R_types (Kd.R_apart' (HO130.out) (Kd.S_typed HO_6.out) (by decide)) BK121.out (by decide)) (fun k_ hk => ⟨hk.2, hk.1.2⟩))).1 k_ h_.symm) (fun h_ => h_.elim (fun h_ => ((Kd.R_mono (ok' := fun k_ => ((fun k_ => k_ ≠ gb121)) k_ ∧ some k_ ≠ (u6 : Value).ownBlock) (Kd.R_types (Kd.R_apart' (HO133.out) (Kd.S_typed HO_6.out) (by decide)) BK121.out (by decide)) (fun k_ hk => ⟨hk.2, hk.1.2⟩))).1 k_ h_.symm) (fun h_ => ((Kd.R_mono (ok' := fun k_ => ((fun k_ => k_ ≠ gb121)) k_ ∧ some k_ ≠ (u6 : Value).ownBlock) (Kd.R_types (Kd.R_apart' (HO136.out) (Kd.S_typed HO_6.out) (by decide)) BK121.out (by decide)) (fun k_ hk => ⟨hk.2, hk.1.2⟩))).1 k_ h_.symm))))) ?aF ?aO ?aB ?aS ?aL ?_
                      (case aP => exact kRule_mkM _ _ _ (⟨t122, t125, t128, t131, t134⟩ : Rule) (Kd.R_mono (Kd.R_tight rfl (Kd.R_mono (ok' := fun k_ => ((fun k_ => k_ ≠ gb121)) k_ ∧ some k_ ≠ (u6 : Value).ownBlock) (Kd.R_types (Kd.R_apart' (HO124.out) (Kd.S_typed HO_6.out) (by decide)) BK121.out (by decide)) (fun k_ hk => ⟨hk.2, hk.1.2⟩))) (fun _ h_ => Or.inl h_)) (Kd.R_mono (Kd.R_tight rfl (Kd.R_mono (ok' := fun k_ => ((fun k_ => k_ ≠ gb121)) k_ ∧ some k_ ≠ (u6 : Value).ownBlock) (Kd.R_types (Kd.R_apart' (HO127.out) (Kd.S_typed HO_6.out) (by decide)) BK121.out (by decide)) (fun k_ hk => ⟨hk.2, hk.1.2⟩))) (fun _ h_ => Or.inr (Or.inl h_))) (Kd.R_mono (Kd.R_tight rfl (Kd.R_mono (ok' := fun k_ => ((fun k_ => k_ ≠ gb121)) k_ ∧ some k_ ≠ (u6 : Value).ownBlock) (Kd.R_types (Kd.R_apart' (HO130.out) (Kd.S_typed HO_6.out) (by decide)) BK121.out (by decide)) (fun k_ hk => ⟨hk.2, hk.1.2⟩))) (fun _ h_ => Or.inr (Or.inr (Or.inl h_)))) (Kd.R_mono (Kd.R_tight rfl (Kd.R_mono (ok' := fun k_ => ((fun k_ => k_ ≠ gb121)) k_ ∧ some k_ ≠ (u6 : Value).ownBlock) (Kd.R_types (Kd.R_apart' (HO133.out) (Kd.S_typed HO_6.out) (by decide)) BK121.out (by decide)) (fun k_ hk => ⟨hk.2, hk.1.2⟩))) (fun _ h_ => Or.inr (Or.inr (Or.inr (Or.inl h_))))) (Kd.R_mono (Kd.R_tight rfl (Kd.R_mono (ok' := fun k_ => ((fun k_ => k_ ≠ gb121)) k_ ∧ some k_ ≠ (u6 : Value).ownBlock) (Kd.R_types (Kd.R_apart' (HO136.out) (Kd.S_typed HO_6.out) (by decide)) BK121.out (by decide)) (fun k_ hk => ⟨hk.2, hk.1.2⟩))) (fun _ h_ => Or.inr (Or.inr (Or.inr (Or.inr (h_)))))))
                      (case aB => exact (by repeat (first | (with_reducible first | exact HB.out | apply below_alloc | apply pw_below_drewN | apply below_drew1 | refine below_set ?_ GE107.out | refine below_set ?_ GE108.out | refine below_set ?_ GE116.out | refine below_set ?_ GE121.out) | exact HB.out)))
                      (case aF => exact (fun k_ hk => Kd.freshB (g := gb121) (o := .cells #[.slice A120_0 ((rd_Rule ((rd_Schema l0_5 x4_1).rules) x7_2).users).length c120_0, .slice A120_1 ((rd_Rule ((rd_Schema l0_5 x4_1).rules) x7_2).groups).length c120_1, .slice A120_2 ((rd_Rule ((rd_Schema l0_5 x4_1).rules) x7_2).verbs).length c120_2, .slice A120_3 ((rd_Rule ((rd_Schema l0_5 x4_1).rules) x7_2).resources).length c120_3, .slice A120_4 ((rd_Rule ((rd_Schema l0_5 x4_1).rules) x7_2).spaces).length c120_4] 53 (0, 0)) (by (with_reducible repeat (first | refine blk_drewN ?_ _ | refine blk_drew ?_ | refine blk_alloc ?_ _)); exact BK121.out) k_ hk))
                      (case aO => exact (by (with_reducible repeat (first | apply Kd.S_alloc | apply Kd.S_drewN | apply Kd.S_drew)); exact Kd.S_mono HO_6.out (fun k_ hk => ⟨hk.1.1.1.1.1, fun e_ => e_.elim (fun h_ => hk.1.1.1.1.2 h_) (fun h_ => h_.elim (fun h_ => hk.1.1.1.2 h_) (fun h_ => h_.elim (fun h_ => hk.1.1.2 h_) (fun h_ => h_.elim (fun h_ => hk.1.2 h_) (fun h_ => hk.2 h_))))⟩)))
                      (case aS => exact (below_size (by repeat (first | (with_reducible first | exact HB.out | apply below_alloc | apply pw_below_drewN | apply below_drew1 | refine below_set ?_ GE107.out | refine below_set ?_ GE108.out | refine below_set ?_ GE116.out | refine below_set ?_ GE121.out) | exact HB.out))))
                      (case aL => have := LMc27.out; omega)
                      intro v138 w48 ho hb hg hat
                      rw [← Ny137.out] at ho
                      have n0_ := Aside0.mk (Kd.R_after (ok := (fun k_ => some k_ ≠ (.slice Ao47 t122.length co47 : Value).ownBlock ∧ some k_ ≠ (.slice Ao46 t125.length co46 : Value).ownBlock ∧ some k_ ≠ (.slice Ao45 t128.length co45 : Value).ownBlock ∧ some k_ ≠ (.slice Ao44 t131.length co44 : Value).ownBlock ∧ some k_ ≠ (.slice Ao43 t134.length co43 : Value).ownBlock ∧ k_ ≠ gb116 ∧ k_ ≠ gb121)) (by (with_reducible repeat (first | apply Kd.R_alloc | apply Kd.R_drewN | apply Kd.R_drew)); exact Kd.R_mono HO_3.out (fun _ hk => ⟨⟨hk.1.1.1.1.2, ⟨hk.1.1.1.2, ⟨hk.1.1.2, ⟨hk.1.2, ⟨hk.2, ⟨hk.1.1.1.1.1.2.1, hk.1.1.1.1.1.2.2⟩⟩⟩⟩⟩⟩, hk.1.1.1.1.1.1⟩)) hg hat)
                      have n1_ := Aside0.mk (Kd.R_over' (by (with_reducible repeat (first | apply Kd.R_alloc | apply Kd.R_drewN | apply Kd.R_drew)); exact HO_108004.out) (Kd.S_typed (by (with_reducible repeat (first | apply Kd.S_alloc | apply Kd.S_drewN | apply Kd.S_drew)); exact HO_6.out)) (by decide) hg)
                      have n2_ := Aside0.mk (blk_grown (g := gb107) (o := .cells #[.int .i64 a0_0, .int .i64 a0_1, .int .i64 a0_2, .int .i64 a0_3, .slice Ao10 y112.length co10, .slice (some ad115) l0_5.length c0_5] 25 (0, 0)) (by (with_reducible repeat (first | refine blk_drewN ?_ _ | refine blk_drew ?_ | refine blk_alloc ?_ _)); exact BK107.out) hg (Kd.S_ne HO_6.out BK107.out (by decide)))
                      have n3_ := Aside0.mk (blk_grown (g := gb108) (o := .cells #[.int .i64 0, .int .i64 0, .int .i64 0, .int .i64 0, .slice none 0 0, .slice none 0 0] 25 (0, 0)) (by (with_reducible repeat (first | refine blk_drewN ?_ _ | refine blk_drew ?_ | refine blk_alloc ?_ _)); exact BK108.out) hg (Kd.S_ne HO_6.out BK108.out (by decide)))
                      have n4_ := Aside0.mk (blk_grown (g := gb116) (o := .cells #[.string ((rd_Schema l0_5 x4_1).name), .string ((rd_Schema l0_5 x4_1).level), .int .i64 ((rd_Schema l0_5 x4_1).rank), .int .i64 ((rd_Schema l0_5 x4_1).tells), .slice (some ad120) ((rd_Schema l0_5 x4_1).rules).length c115_4] 46 (0, 0)) (by (with_reducible repeat (first | refine blk_drewN ?_ _ | refine blk_drew ?_ | refine blk_alloc ?_ _)); exact BK116.out) hg (Kd.S_ne HO_6.out BK116.out (by decide)))
                      have n5_ := Aside0.mk (blk_grown (g := gb121) (o := .cells #[.slice A120_0 ((rd_Rule ((rd_Schema l0_5 x4_1).rules) x7_2).users).length c120_0, .slice A120_1 ((rd_Rule ((rd_Schema l0_5 x4_1).rules) x7_2).groups).length c120_1, .slice A120_2 ((rd_Rule ((rd_Schema l0_5 x4_1).rules) x7_2).verbs).length c120_2, .slice A120_3 ((rd_Rule ((rd_Schema l0_5 x4_1).rules) x7_2).resources).length c120_3, .slice A120_4 ((rd_Rule ((rd_Schema l0_5 x4_1).rules) x7_2).spaces).length c120_4] 53 (0, 0)) (by (with_reducible repeat (first | refine blk_drewN ?_ _ | refine blk_drew ?_ | refine blk_alloc ?_ _)); exact BK121.out) hg (Kd.S_away HO_6.out (fun _ hk => hk.1.1.1.1.1)))
                      have n6_ := Aside0.mk (hb)
                      have n7_ := Aside0.mk (ho)
                      clear HO_3
                      clear HO_108004
                      clear BK107
                      clear BK108
                      clear BK116
                      clear BK121
                      clear HB
                      clear HO_6
                      clear HO124
                      clear HO127
                      clear HO130
                      clear HO133
                      clear HO136
                      have HO_3 := n0_
                      have HO_108004 := n1_
                      have BK107 := n2_
                      have BK108 := n3_
                      have BK116 := n4_
                      have BK121 := n5_
                      have HB := n6_
                      have HO139 := n7_
                      clear n0_ n1_ n2_ n3_ n4_ n5_ n6_ n7_
                      clear ho hb hg hat
                      refine hK.out _ _ ⟨(blk_cell BK121.out 0).trans rfl, (blk_cell BK121.out 1).trans rfl, (blk_cell BK121.out 2).trans rfl, (blk_cell BK121.out 3).trans rfl, (blk_cell BK121.out 4).trans rfl⟩ (fun hHeld => ?_)
                      clear hK K
                      refine norm_ (a' := ?_) ?_ ?_
                      rotate_left
                      · show Act.put _ (some 56) _ = _
                        simp only [Act.put, List.setIfInBounds_toArray, List.set_cons_zero, List.set_cons_succ, i64_w, i32_w]
                        rfl
                      refine pure_ (i := 19) (N := some 6) (v := ?_) (a' := ?_) #[true, true, true, true, true, true, true, true, true, true, true, true, true, true, true, true, true, true, true, true] rfl rfl (any_of HT_.out (by kernel_rfl)) (fun _ _ _ h => h) (Or.inl ⟨by rfl, ?_⟩) ?_ ?_
                      rotate_left
                      · intro w'
                        go_simp
                        with_reducible rfl
                      rotate_left
                      · simp only [Act.put, List.setIfInBounds_toArray, List.set_cons_zero, List.set_cons_succ, i64_w, i32_w]
                        rfl
                      refine done_ (done_of HT_.out (by kernel_rfl)) ?_
                      try go_wp2
                      go_roundg k2
                      case measure => have := HK1.out; have := HK2.out; omega
                      case rel => exact ⟨(y137), (wrap64 (x7_2 + 1)), (by first | rfl | (simp; done) | (simp [*]; done)), H', ⟨by have := HK1.out; have := HK2.out; omega⟩, ⟨by (with_reducible repeat (first | apply Kd.R_alloc | apply Kd.R_drewN | apply Kd.R_drew)); exact Kd.R_mono HO_3.out (fun _ hk => ⟨hk.2, hk.1.2.2.2.2.2.1⟩)⟩, ⟨by (with_reducible repeat (first | apply Kd.S_alloc | apply Kd.S_drewN | apply Kd.S_drew)); exact Kd.S_mono HO139.out (fun _ hk => trivial)⟩, ⟨by (with_reducible repeat (first | apply Kd.R_alloc | apply Kd.R_drewN | apply Kd.R_drew)); exact HO_108004.out⟩, ⟨by (with_reducible repeat (first | refine blk_drewN ?_ _ | refine blk_drew ?_ | refine blk_alloc ?_ _)); exact BK107.out⟩, ⟨by (with_reducible repeat (first | refine blk_drewN ?_ _ | refine blk_drew ?_ | refine blk_alloc ?_ _)); exact BK108.out⟩, ⟨by (with_reducible repeat (first | refine blk_drewN ?_ _ | refine blk_drew ?_ | refine blk_alloc ?_ _)); exact BK116.out⟩, ⟨by repeat (first | (with_reducible first | exact HB.out | apply below_alloc | apply pw_below_drewN | apply below_drew1 | refine below_set ?_ GE107.out | refine below_set ?_ GE108.out | refine below_set ?_ GE116.out | refine below_set ?_ GE121.out) | exact HB.out)⟩⟩
                    · rw [if_neg c27] at H
                      exact absurd H (by simp)
                  · rw [if_neg c21] at H
                    exact absurd H (by simp)
                · rw [if_neg c20] at H
                  have c20b0 : decide (x7_2 < (((rd_Schema l0_5 x4_1).rules).length : Int)) = false := decide_eq_false c20
                  clear c20
                  by_cases c49 : x3_1.length < 1954687338268
                  · rw [if_pos c49] at H
                    have LMc49 := Aside0.mk c49
                    clear c49
                    obtain ⟨y117, hy117⟩ : ∃ y_ : List (Schema), y_ = (x3_1 ++ [(⟨((rd_Schema l0_5 x4_1).name), ((rd_Schema l0_5 x4_1).level), ((rd_Schema l0_5 x4_1).rank), ((rd_Schema l0_5 x4_1).tells), x6_2⟩ : Schema)]) := ⟨_, rfl⟩
                    replace H : (usherref10_Copy.l0 k2 y117 (wrap64 (x4_1 + 1)) a0_0 a0_1 a0_2 a0_3 y112 l0_5) = some (r1, r2, r3, r4, r5, r6) := by first | (rw [hy117]; with_reducible exact H) | (have H2_ := (Option.bind_some _ _).symm.trans H; rw [hy117]; with_reducible exact H2_) | (have H2_ := (Option.bind_some _ _).symm.trans H; with_reducible exact H2_) | with_reducible exact H | (rw [hy117]; exact H) | exact H
                    have Ny117 := Aside0.mk hy117
                    clear hy117
                    have H' := Aside0.mk H
                    clear H
                    have hnb50 := NB116_107.out
                    have hnc50 := NB107_116.out
                    have hnb51 := NB116_108.out
                    have hnc51 := NB108_116.out
                    have hcz52_0 : wr.cell? ⟨gb116, 0, none⟩ = some (.string ((rd_Schema l0_5 x4_1).name)) := (blk_cell BK116.out 0).trans rfl
                    have hcz52_1 : wr.cell? ⟨gb116, 1, none⟩ = some (.string ((rd_Schema l0_5 x4_1).level)) := (blk_cell BK116.out 1).trans rfl
                    have hcz52_2 : wr.cell? ⟨gb116, 2, none⟩ = some (.int .i64 ((rd_Schema l0_5 x4_1).rank)) := (blk_cell BK116.out 2).trans rfl
                    have hcz52_3 : wr.cell? ⟨gb116, 3, none⟩ = some (.int .i64 ((rd_Schema l0_5 x4_1).tells)) := (blk_cell BK116.out 3).trans rfl
                    have hcz52_4 : wr.cell? ⟨gb116, 4, none⟩ = some (.slice A115_4 ((rd_Schema l0_5 x4_1).rules).length c115_4) := (blk_cell BK116.out 4).trans rfl
                    have hfz52_0 := blk_frozen BK116.out 0
                    have hfz52_1 := blk_frozen BK116.out 1
                    have hfz52_2 := blk_frozen BK116.out 2
                    have hfz52_3 := blk_frozen BK116.out 3
                    have hfz52_4 := blk_frozen BK116.out 4
                    obtain ⟨Ao53, co53, eo53⟩ := Kd.S_slice HO_6.out
                    subst eo53
                    go_wp2_with (first | ((with_reducible refine gate_store (t := 44) (p := 58) rfl ?_); refine store_event (t := 44) (p := 58) (v := ?vo_w54) (w1 := (wr.setCell ⟨gb116, 4, none⟩ (.slice Ao53 x6_2.length co53))) ?hg ?ho ?hn ?hr ?_; (case ho => rfl); (case hg => rfl); (case hn => rfl); (case hr => first | (go_simp; done) | (go_simp; rfl)); intro w54 hw; have n0_ : Aside0 (Kd.R kSchema 46 w54 w.heap.size (fun k_ => some k_ ≠ (.slice Ao53 x6_2.length co53 : Value).ownBlock ∧ k_ ≠ gb116) u3 x3_1) := ⟨(by rw [hw]; exact (by (with_reducible repeat (first | apply Kd.R_alloc | apply Kd.R_drewN | apply Kd.R_drew)); exact Kd.R_mono (Kd.R_far (p := ⟨gb116, 4, none⟩) (Kd.R_mono HO_3.out (fun k_ hk => (⟨hk, hk.2⟩ : _ ∧ k_ ≠ gb116))) (fun _ hk => hk.2) (.slice Ao53 x6_2.length co53)) (fun _ hk => ⟨hk.1.1, hk.1.2⟩)))⟩; have n1_ : Aside0 (Kd.S kRule 53 w54 w.heap.size (fun _ => True) (.slice Ao53 x6_2.length co53) x6_2) := ⟨(by rw [hw]; exact (by (with_reducible repeat (first | apply Kd.S_alloc | apply Kd.S_drewN | apply Kd.S_drew)); exact Kd.S_mono (Kd.S_far (p := ⟨gb116, 4, none⟩) (Kd.S_types HO_6.out BK116.out (by decide)) (fun _ hk => hk.2) (.slice Ao53 x6_2.length co53)) (fun _ hk => trivial)))⟩; have n2_ : Aside0 (Kd.R kLevel 40 w54 w.heap.size (fun _ => True) (.slice Ao10 y112.length co10) y112) := ⟨(by rw [hw]; exact (by (with_reducible repeat (first | apply Kd.R_alloc | apply Kd.R_drewN | apply Kd.R_drew)); exact Kd.R_mono (Kd.R_far (p := ⟨gb116, 4, none⟩) (Kd.R_types HO_108004.out BK116.out (by decide)) (fun _ hk => hk.2) (.slice Ao53 x6_2.length co53)) (fun _ hk => trivial)))⟩; have n3_ : Aside0 (w54.heap[gb107]? = some (.cells #[.int .i64 a0_0, .int .i64 a0_1, .int .i64 a0_2, .int .i64 a0_3, .slice Ao10 y112.length co10, .slice (some ad115) l0_5.length c0_5] 25 (0, 0))) := ⟨(by rw [hw]; exact (by (with_reducible repeat (first | refine blk_drewN ?_ _ | refine blk_drew ?_ | refine blk_alloc ?_ _)); refine blk_far ?_ NB107_116.out _; (with_reducible repeat (first | refine blk_drewN ?_ _ | refine blk_drew ?_ | refine blk_alloc ?_ _)); exact BK107.out))⟩; have n4_ : Aside0 (w54.heap[gb108]? = some (.cells #[.int .i64 0, .int .i64 0, .int .i64 0, .int .i64 0, .slice none 0 0, .slice none 0 0] 25 (0, 0))) := ⟨(by rw [hw]; exact (by (with_reducible repeat (first | refine blk_drewN ?_ _ | refine blk_drew ?_ | refine blk_alloc ?_ _)); refine blk_far ?_ NB108_116.out _; (with_reducible repeat (first | refine blk_drewN ?_ _ | refine blk_drew ?_ | refine blk_alloc ?_ _)); exact BK108.out))⟩; have n5_ : Aside0 (w54.heap[gb116]? = some (.cells #[.string ((rd_Schema l0_5 x4_1).name), .string ((rd_Schema l0_5 x4_1).level), .int .i64 ((rd_Schema l0_5 x4_1).rank), .int .i64 ((rd_Schema l0_5 x4_1).tells), .slice Ao53 x6_2.length co53] 46 (0, 0))) := ⟨(by rw [hw]; exact (by (with_reducible repeat (first | refine blk_drewN ?_ _ | refine blk_drew ?_ | refine blk_alloc ?_ _)); refine blk_put (cs := #[.string ((rd_Schema l0_5 x4_1).name), .string ((rd_Schema l0_5 x4_1).level), .int .i64 ((rd_Schema l0_5 x4_1).rank), .int .i64 ((rd_Schema l0_5 x4_1).tells), .slice A115_4 ((rd_Schema l0_5 x4_1).rules).length c115_4]) ?_ 4 _ rfl; (with_reducible repeat (first | refine blk_drewN ?_ _ | refine blk_drew ?_ | refine blk_alloc ?_ _)); exact BK116.out))⟩; have n6_ : Aside0 (Below w.heap.size w w54) := ⟨(by rw [hw]; exact (by repeat (first | (with_reducible first | exact HB.out | apply below_alloc | apply pw_below_drewN | apply below_drew1 | refine below_set ?_ GE107.out | refine below_set ?_ GE108.out | refine below_set ?_ GE116.out) | exact HB.out)))⟩; clear hw; clear HO_3; clear HO_6; clear HO_108004; clear BK107; clear BK108; clear BK116; clear HB; have HO_3 := n0_; have HO_6 := n1_; have HO_108004 := n2_; have BK107 := n3_; have BK108 := n4_; have BK116 := n5_; have HB := n6_; clear n0_ n1_ n2_ n3_ n4_ n5_ n6_; have hcz55_0 : w54.cell? ⟨gb116, 0, none⟩ = some (.string ((rd_Schema l0_5 x4_1).name)) := (blk_cell BK116.out 0).trans rfl; have hcz55_1 : w54.cell? ⟨gb116, 1, none⟩ = some (.string ((rd_Schema l0_5 x4_1).level)) := (blk_cell BK116.out 1).trans rfl; have hcz55_2 : w54.cell? ⟨gb116, 2, none⟩ = some (.int .i64 ((rd_Schema l0_5 x4_1).rank)) := (blk_cell BK116.out 2).trans rfl; have hcz55_3 : w54.cell? ⟨gb116, 3, none⟩ = some (.int .i64 ((rd_Schema l0_5 x4_1).tells)) := (blk_cell BK116.out 3).trans rfl; have hcz55_4 : w54.cell? ⟨gb116, 4, none⟩ = some (.slice Ao53 x6_2.length co53) := (blk_cell BK116.out 4).trans rfl; have hfz55_0 := blk_frozen BK116.out 0; have hfz55_1 := blk_frozen BK116.out 1; have hfz55_2 := blk_frozen BK116.out 2; have hfz55_3 := blk_frozen BK116.out 3; have hfz55_4 := blk_frozen BK116.out 4) | ((with_reducible refine gate_builtin (b := .append) (xs := #[.tmp 59, .tmp 61]) rfl ?_); at_builtin; refine Kd.R_append kSchema (w0 := w) w.heap.size rfl (.tmp 59) (.tmp 61) 23 46 (.agg #[(.string ⟨#[]⟩), (.string ⟨#[]⟩), (.int .i64 0), (.int .i64 0), (.slice none 0 0)]) 72 rfl Tryd.underlying23 infoSchema rfl (by decide) (by omega) u3 x3_1 (⟨((rd_Schema l0_5 x4_1).name), ((rd_Schema l0_5 x4_1).level), ((rd_Schema l0_5 x4_1).rank), ((rd_Schema l0_5 x4_1).tells), x6_2⟩ : Schema) [.string ((rd_Schema l0_5 x4_1).name), .string ((rd_Schema l0_5 x4_1).level), .int .i64 ((rd_Schema l0_5 x4_1).rank), .int .i64 ((rd_Schema l0_5 x4_1).tells), .slice Ao53 x6_2.length co53] (fun k_ => k_ ≠ gb116) (fun k_ => ((fun k_ => k_ ≠ gb116)) k_ ∧ some k_ ≠ (u3 : Value).ownBlock) rfl rfl ?aP (fun _ hk => hk) ?aF ?aO ?aB ?aS ?aL ?_; (case aP => exact kSchema_mkM _ _ _ (⟨((rd_Schema l0_5 x4_1).name), ((rd_Schema l0_5 x4_1).level), ((rd_Schema l0_5 x4_1).rank), ((rd_Schema l0_5 x4_1).tells), x6_2⟩ : Schema) (Kd.R_mono (Kd.R_types (Kd.R_apart' ((Kd.S_R HO_6.out)) (Kd.R_typed HO_3.out) (by decide)) BK116.out (by decide)) (fun k_ hk => ⟨hk.2, hk.1.2⟩))); (case aB => exact (by repeat (first | (with_reducible first | exact HB.out | apply below_alloc | apply pw_below_drewN | apply below_drew1 | refine below_set ?_ GE107.out | refine below_set ?_ GE108.out | refine below_set ?_ GE116.out) | exact HB.out))); (case aF => exact (fun k_ hk => Kd.freshB (g := gb116) (o := .cells #[.string ((rd_Schema l0_5 x4_1).name), .string ((rd_Schema l0_5 x4_1).level), .int .i64 ((rd_Schema l0_5 x4_1).rank), .int .i64 ((rd_Schema l0_5 x4_1).tells), .slice Ao53 x6_2.length co53] 46 (0, 0)) (by (with_reducible repeat (first | refine blk_drewN ?_ _ | refine blk_drew ?_ | refine blk_alloc ?_ _)); exact BK116.out) k_ hk)); (case aO => exact (by (with_reducible repeat (first | apply Kd.R_alloc | apply Kd.R_drewN | apply Kd.R_drew)); exact Kd.R_mono HO_3.out (fun _ hk => hk.2))); (case aS => exact (below_size (by repeat (first | (with_reducible first | exact HB.out | apply below_alloc | apply pw_below_drewN | apply below_drew1 | refine below_set ?_ GE107.out | refine below_set ?_ GE108.out | refine below_set ?_ GE116.out) | exact HB.out)))); (case aL => have := LMc49.out; omega); intro v118 w56 ho hb hg hat; rw [← Ny117.out] at ho; have n0_ := Aside0.mk (Kd.R_over' (by (with_reducible repeat (first | apply Kd.R_alloc | apply Kd.R_drewN | apply Kd.R_drew)); exact HO_108004.out) (Kd.R_typed (by (with_reducible repeat (first | apply Kd.R_alloc | apply Kd.R_drewN | apply Kd.R_drew)); exact HO_3.out)) (by decide) hg); have n1_ := Aside0.mk (blk_grown (g := gb107) (o := .cells #[.int .i64 a0_0, .int .i64 a0_1, .int .i64 a0_2, .int .i64 a0_3, .slice Ao10 y112.length co10, .slice (some ad115) l0_5.length c0_5] 25 (0, 0)) (by (with_reducible repeat (first | refine blk_drewN ?_ _ | refine blk_drew ?_ | refine blk_alloc ?_ _)); exact BK107.out) hg (Kd.R_ne HO_3.out BK107.out (by decide))); have n2_ := Aside0.mk (blk_grown (g := gb108) (o := .cells #[.int .i64 0, .int .i64 0, .int .i64 0, .int .i64 0, .slice none 0 0, .slice none 0 0] 25 (0, 0)) (by (with_reducible repeat (first | refine blk_drewN ?_ _ | refine blk_drew ?_ | refine blk_alloc ?_ _)); exact BK108.out) hg (Kd.R_ne HO_3.out BK108.out (by decide))); have n3_ := Aside0.mk (blk_grown (g := gb116) (o := .cells #[.string ((rd_Schema l0_5 x4_1).name), .string ((rd_Schema l0_5 x4_1).level), .int .i64 ((rd_Schema l0_5 x4_1).rank), .int .i64 ((rd_Schema l0_5 x4_1).tells), .slice Ao53 x6_2.length co53] 46 (0, 0)) (by (with_reducible repeat (first | refine blk_drewN ?_ _ | refine blk_drew ?_ | refine blk_alloc ?_ _)); exact BK116.out) hg (Kd.R_away HO_3.out (fun _ hk => hk.2))); have n4_ := Aside0.mk (hb); have n5_ := Aside0.mk (ho); clear HO_108004; clear BK107; clear BK108; clear BK116; clear HB; clear HO_3; clear HO_6; have HO_108004 := n0_; have BK107 := n1_; have BK108 := n2_; have BK116 := n3_; have HB := n4_; have HO119 := n5_; clear n0_ n1_ n2_ n3_ n4_ n5_; clear ho hb hg hat))
                    go_roundg k2
                    case measure => have := HK1.out; have := HK2.out; omega
                    case rel => exact ⟨(y117), (wrap64 (x4_1 + 1)), (by first | rfl | (simp; done) | (simp [*]; done)), H', ⟨by have := HK1.out; have := HK2.out; omega⟩, ⟨by (with_reducible repeat (first | apply Kd.R_alloc | apply Kd.R_drewN | apply Kd.R_drew)); exact Kd.R_mono HO119.out (fun _ hk => trivial)⟩, ⟨by (with_reducible repeat (first | apply Kd.R_alloc | apply Kd.R_drewN | apply Kd.R_drew)); exact HO_108004.out⟩, ⟨by (with_reducible repeat (first | refine blk_drewN ?_ _ | refine blk_drew ?_ | refine blk_alloc ?_ _)); exact BK107.out⟩, ⟨by (with_reducible repeat (first | refine blk_drewN ?_ _ | refine blk_drew ?_ | refine blk_alloc ?_ _)); exact BK108.out⟩, ⟨by repeat (first | (with_reducible first | exact HB.out | apply below_alloc | apply pw_below_drewN | apply below_drew1 | refine below_set ?_ GE107.out | refine below_set ?_ GE108.out | refine below_set ?_ GE116.out) | exact HB.out)⟩⟩
                  · rw [if_neg c49] at H
                    exact absurd H (by simp)
          · rw [if_neg c13] at H
            exact absurd H (by simp)
        · rw [if_neg c12] at H
          have c12b0 : decide (x4_1 < (l0_5.length : Int)) = false := decide_eq_false c12
          clear c12
          simp only [Option.some.injEq, Prod.mk.injEq] at H
          obtain ⟨rfl, rfl, rfl, rfl, rfl, rfl⟩ := H
          have hnb57 := NB107_108.out
          have hnc57 := NB108_107.out
          have hcz58_0 : wr.cell? ⟨gb107, 0, none⟩ = some (.int .i64 a0_0) := (blk_cell BK107.out 0).trans rfl
          have hcz58_1 : wr.cell? ⟨gb107, 1, none⟩ = some (.int .i64 a0_1) := (blk_cell BK107.out 1).trans rfl
          have hcz58_2 : wr.cell? ⟨gb107, 2, none⟩ = some (.int .i64 a0_2) := (blk_cell BK107.out 2).trans rfl
          have hcz58_3 : wr.cell? ⟨gb107, 3, none⟩ = some (.int .i64 a0_3) := (blk_cell BK107.out 3).trans rfl
          have hcz58_4 : wr.cell? ⟨gb107, 4, none⟩ = some (.slice Ao10 y112.length co10) := (blk_cell BK107.out 4).trans rfl
          have hcz58_5 : wr.cell? ⟨gb107, 5, none⟩ = some (.slice A0_5 l0_5.length c0_5) := (blk_cell BK107.out 5).trans rfl
          have hfz58_0 := blk_frozen BK107.out 0
          have hfz58_1 := blk_frozen BK107.out 1
          have hfz58_2 := blk_frozen BK107.out 2
          have hfz58_3 := blk_frozen BK107.out 3
          have hfz58_4 := blk_frozen BK107.out 4
          have hfz58_5 := blk_frozen BK107.out 5
          obtain ⟨Ao59, co59, eo59⟩ := Kd.R_slice HO_3.out
          subst eo59
          have hcz60_0 : wr.cell? ⟨gb108, 0, none⟩ = some (.int .i64 0) := (blk_cell BK108.out 0).trans rfl
          have hcz60_1 : wr.cell? ⟨gb108, 1, none⟩ = some (.int .i64 0) := (blk_cell BK108.out 1).trans rfl
          have hcz60_2 : wr.cell? ⟨gb108, 2, none⟩ = some (.int .i64 0) := (blk_cell BK108.out 2).trans rfl
          have hcz60_3 : wr.cell? ⟨gb108, 3, none⟩ = some (.int .i64 0) := (blk_cell BK108.out 3).trans rfl
          have hcz60_4 : wr.cell? ⟨gb108, 4, none⟩ = some (.slice none 0 0) := (blk_cell BK108.out 4).trans rfl
          have hcz60_5 : wr.cell? ⟨gb108, 5, none⟩ = some (.slice none 0 0) := (blk_cell BK108.out 5).trans rfl
          have hfz60_0 := blk_frozen BK108.out 0
          have hfz60_1 := blk_frozen BK108.out 1
          have hfz60_2 := blk_frozen BK108.out 2
          have hfz60_3 := blk_frozen BK108.out 3
          have hfz60_4 := blk_frozen BK108.out 4
          have hfz60_5 := blk_frozen BK108.out 5
          go_wp2
          refine bodyPost_ret (results_cell_row rfl _ _ gb108 25 #[.int .i64 a0_0, .int .i64 a0_1, .int .i64 a0_2, .int .i64 a0_3, .slice Ao10 y112.length co10, .slice Ao59 x3_1.length co59] (0, 0) _ rfl (by (with_reducible repeat (first | refine blk_drewN ?_ _ | refine blk_drew ?_ | refine blk_alloc ?_ _)); refine blk_put (cs := #[.int .i64 a0_0, .int .i64 a0_1, .int .i64 a0_2, .int .i64 a0_3, .slice Ao10 y112.length co10, .slice none 0 0]) ?_ 5 _ rfl; (with_reducible repeat (first | refine blk_drewN ?_ _ | refine blk_drew ?_ | refine blk_alloc ?_ _)); refine blk_put (cs := #[.int .i64 a0_0, .int .i64 a0_1, .int .i64 a0_2, .int .i64 a0_3, .slice none 0 0, .slice none 0 0]) ?_ 4 _ rfl; (with_reducible repeat (first | refine blk_drewN ?_ _ | refine blk_drew ?_ | refine blk_alloc ?_ _)); refine blk_put (cs := #[.int .i64 a0_0, .int .i64 a0_1, .int .i64 a0_2, .int .i64 0, .slice none 0 0, .slice none 0 0]) ?_ 3 _ rfl; (with_reducible repeat (first | refine blk_drewN ?_ _ | refine blk_drew ?_ | refine blk_alloc ?_ _)); refine blk_put (cs := #[.int .i64 a0_0, .int .i64 a0_1, .int .i64 0, .int .i64 0, .slice none 0 0, .slice none 0 0]) ?_ 2 _ rfl; (with_reducible repeat (first | refine blk_drewN ?_ _ | refine blk_drew ?_ | refine blk_alloc ?_ _)); refine blk_put (cs := #[.int .i64 a0_0, .int .i64 0, .int .i64 0, .int .i64 0, .slice none 0 0, .slice none 0 0]) ?_ 1 _ rfl; (with_reducible repeat (first | refine blk_drewN ?_ _ | refine blk_drew ?_ | refine blk_alloc ?_ _)); refine blk_put (cs := #[.int .i64 0, .int .i64 0, .int .i64 0, .int .i64 0, .slice none 0 0, .slice none 0 0]) ?_ 0 _ rfl; (with_reducible repeat (first | refine blk_drewN ?_ _ | refine blk_drew ?_ | refine blk_alloc ?_ _)); refine blk_far ?_ NB108_107.out _; (with_reducible repeat (first | refine blk_drewN ?_ _ | refine blk_drew ?_ | refine blk_alloc ?_ _)); exact BK108.out) Tryd.underlying25 rfl (by kernel_rfl)) rfl ?_
          exact ⟨_, _, by first | rfl | (simp [errW_none, errW_some] <;> rfl) | (simp [*, errW_none, errW_some] <;> rfl), by (with_reducible repeat (first | apply Kd.R_alloc | apply Kd.R_drewN | apply Kd.R_drew)); exact Kd.R_mono (Kd.R_far (p := ⟨gb108, 5, none⟩) (Kd.R_far (p := ⟨gb108, 4, none⟩) (Kd.R_far (p := ⟨gb108, 3, none⟩) (Kd.R_far (p := ⟨gb108, 2, none⟩) (Kd.R_far (p := ⟨gb108, 1, none⟩) (Kd.R_far (p := ⟨gb108, 0, none⟩) (Kd.R_far (p := ⟨gb107, 5, none⟩) (Kd.R_types (Kd.R_types HO_108004.out BK107.out (by decide)) BK108.out (by decide)) (fun _ hk => hk.1.2) (.slice Ao59 x3_1.length co59)) (fun _ hk => hk.2) (.int .i64 a0_0)) (fun _ hk => hk.2) (.int .i64 a0_1)) (fun _ hk => hk.2) (.int .i64 a0_2)) (fun _ hk => hk.2) (.int .i64 a0_3)) (fun _ hk => hk.2) (.slice Ao10 y112.length co10)) (fun _ hk => hk.2) (.slice Ao59 x3_1.length co59)) (fun _ hk => trivial), by (with_reducible repeat (first | apply Kd.R_alloc | apply Kd.R_drewN | apply Kd.R_drew)); exact Kd.R_mono (Kd.R_far (p := ⟨gb108, 5, none⟩) (Kd.R_far (p := ⟨gb108, 4, none⟩) (Kd.R_far (p := ⟨gb108, 3, none⟩) (Kd.R_far (p := ⟨gb108, 2, none⟩) (Kd.R_far (p := ⟨gb108, 1, none⟩) (Kd.R_far (p := ⟨gb108, 0, none⟩) (Kd.R_far (p := ⟨gb107, 5, none⟩) (Kd.R_types (Kd.R_types HO_3.out BK107.out (by decide)) BK108.out (by decide)) (fun _ hk => hk.1.2) (.slice Ao59 x3_1.length co59)) (fun _ hk => hk.2) (.int .i64 a0_0)) (fun _ hk => hk.2) (.int .i64 a0_1)) (fun _ hk => hk.2) (.int .i64 a0_2)) (fun _ hk => hk.2) (.int .i64 a0_3)) (fun _ hk => hk.2) (.slice Ao10 y112.length co10)) (fun _ hk => hk.2) (.slice Ao59 x3_1.length co59)) (fun _ hk => trivial), by repeat (first | (with_reducible first | exact HB.out | apply below_alloc | apply pw_below_drewN | apply below_drew1 | refine below_set ?_ GE107.out | refine below_set ?_ GE108.out) | exact HB.out)⟩
  · rw [if_neg c2] at H
    exact absurd H (by simp)


end Go.Proofs.YtcgadbojojkchaaDoor.U
