/- The walk of print.tellLevel. -/
import Derived.Test.YtcgadbojojkchaaDoorWf
import Derived.Lib.ItoaLen
set_option linter.unusedVariables false
set_option linter.unusedSimpArgs false
namespace Go.Proofs.YtcgadbojojkchaaDoor.U
open Go.RowKit Go.Proofs.YtcgadbojojkchaaDoorW.PrintWords Go.Proofs.YtcgadbojojkchaaDoorW.PrintLast Go.Proofs.YtcgadbojojkchaaDoorW.PrintMore

theorem arrI5_0 (n0 n1 n2 n3 n4 : Int) (w : World) : (Instr.index 110 (.agg #[.int .i64 n0, .int .i64 n1, .int .i64 n2, .int .i64 n3, .int .i64 n4]) (.int .i64 0)).run Tryd.prog w = .ok (.int .i64 n0) w := by kernel_rfl
theorem arrI5_1 (n0 n1 n2 n3 n4 : Int) (w : World) : (Instr.index 110 (.agg #[.int .i64 n0, .int .i64 n1, .int .i64 n2, .int .i64 n3, .int .i64 n4]) (.int .i64 1)).run Tryd.prog w = .ok (.int .i64 n1) w := by kernel_rfl
theorem arrI5_2 (n0 n1 n2 n3 n4 : Int) (w : World) : (Instr.index 110 (.agg #[.int .i64 n0, .int .i64 n1, .int .i64 n2, .int .i64 n3, .int .i64 n4]) (.int .i64 2)).run Tryd.prog w = .ok (.int .i64 n2) w := by kernel_rfl
theorem arrI5_3 (n0 n1 n2 n3 n4 : Int) (w : World) : (Instr.index 110 (.agg #[.int .i64 n0, .int .i64 n1, .int .i64 n2, .int .i64 n3, .int .i64 n4]) (.int .i64 3)).run Tryd.prog w = .ok (.int .i64 n3) w := by kernel_rfl
theorem arrI5_4 (n0 n1 n2 n3 n4 : Int) (w : World) : (Instr.index 110 (.agg #[.int .i64 n0, .int .i64 n1, .int .i64 n2, .int .i64 n3, .int .i64 n4]) (.int .i64 4)).run Tryd.prog w = .ok (.int .i64 n4) w := by kernel_rfl
attribute [local go_sem] arrI5_0 arrI5_1 arrI5_2 arrI5_3 arrI5_4
def LevelN (l : Level) : Prop := l.name.size ≤ 32 ∧ l.shares ≤ 9223372036854775807 ∧ l.lend ≤ 9223372036854775807 ∧ l.borrow ≤ 9223372036854775807 ∧ l.queues ≤ 9223372036854775807 ∧ l.hand ≤ 9223372036854775807 ∧ l.length ≤ 9223372036854775807 ∧ l.wait ≤ 9223372036854775807 ∧ l.guess ≤ 9223372036854775807
set_option maxHeartbeats 16000000 in
set_option maxRecDepth 100000 in
theorem tellLevel_calls (B b : Nat) (t : List UInt8) (l : Level) (w : World) (hb : Bld B b t w) (hB : B ≤ w.heap.size) (ht : Tab w) (hl : LevelN l) (hlen : t.length ≤ 140737488300000) :
    Calls Tryd.prog 34 #[.pointer (some ⟨b, 0, none⟩), .agg #[.string l.name, .int .i64 l.kind, .int .i64 l.shares, .int .i64 l.lend, .int .i64 l.borrow, .int .i64 l.queues, .int .i64 l.hand, .int .i64 l.length, .int .i64 l.wait, .int .i64 l.guess]] w fun e w' =>
      e = .returned (.tuple #[]) ∧ Bld B b (t ++ lineT (levelW l)) w' ∧ Below B w w' ∧ Oth b w w' := by
  obtain ⟨nm, kd, sh, le, bo, qu, ha, ln, wa, gu⟩ := l
  obtain ⟨l1, l2, l3, l4, l5, l6, l7, l8, l9⟩ := hl
  simp only at l1 l2 l3 l4 l5 l6 l7 l8 l9 ⊢
  have HBD := Aside0.mk hb
  have HT := Aside0.mk ht
  clear hb ht
  have hu40 := Tryd.underlying40
  by_cases hk : kd = 1
  · subst hk
    go_enter Tryd.func34, Tryd.ntmps34
    go_wp2_with fail
    refine (tell_lit B b t [⟨#[108, 101, 118, 101, 108]⟩, nm, ⟨#[101, 120, 101, 109, 112, 116]⟩] _ _ 3 (by simp) rfl (Bld_below HBD.out (below_alloc (Below.refl _ _) _)) (by simp; omega) (by simp) (by simp) (by intro x hx; simp at hx; rcases hx with rfl | rfl | rfl <;> first | omega | decide) hlen).mono ?_
    rintro e w1 ⟨rfl, hb1, hb2, hb3⟩
    have H1 := Aside0.mk hb1
    have H2 := Aside0.mk hb2
    have H3 := Aside0.mk hb3
    clear hb1 hb2 hb3
    go_wp2
    refine bodyPost_ret (results_none rfl _ _ _) rfl ?_
    exact ⟨rfl, H1.out, (below_tail hB (below_alloc (Below.refl _ _) _)).trans H2.out, (oth_below (below_alloc (Below.refl _ _) _)).trans H3.out⟩
  have e1 : (kd == 1) = false := beq_eq_false_iff_ne.2 hk
  have HK := Aside0.mk hk
  clear hk
  obtain ⟨bw, hbw, hbs⟩ : ∃ x, x = borrowW bo ∧ x.size ≤ 21 := ⟨_, rfl, by unfold borrowW; split; exact digitsT_size _ l4; decide⟩
  have BW := Aside0.mk hbw
  have SZ := Aside0.mk hbs
  clear hbw
  by_cases h0 : 0 ≤ bo
  · have EB : Aside0 (digitsT bo = bw) := ⟨by rw [BW.out, borrowW, if_pos h0]⟩
    go_enter Tryd.func34, Tryd.ntmps34
    go_wp2_with (go_at_call 33; refine (digits_calls _ l4 _ (tab_of HT.out (below_alloc (Below.refl _ _) _))).mono ?_; rintro e w1 ⟨rfl, hb1⟩; rw [EB.out]; have X1 := Aside0.mk (blk_below (blk_new w _) hb1); have W1 := Aside0.mk (below_step (below_alloc (Below.refl w.heap.size w) _) hb1); have T1 := Aside0.mk (tab_of HT.out W1.out); clear hb1)
    clear EB
    have g0 : w1.cell? ⟨w.heap.size, 0, none⟩ = some (.string nm) := (blk_cell X1.out 0).trans rfl
    have g2 : w1.cell? ⟨w.heap.size, 2, none⟩ = some (.int .i64 sh) := (blk_cell X1.out 2).trans rfl
    have g3 : w1.cell? ⟨w.heap.size, 3, none⟩ = some (.int .i64 le) := (blk_cell X1.out 3).trans rfl
    go_region_held3 (fun w' => w'.cell? ⟨w.heap.size, 0, none⟩ = some (.string nm) ∧ w'.cell? ⟨w.heap.size, 2, none⟩ = some (.int .i64 sh) ∧ w'.cell? ⟨w.heap.size, 3, none⟩ = some (.int .i64 le))
      (go_keep)
      (first
        | (go_at_call 33; refine (digits_calls sh l2 _ (show Tab w1.drew from T1.out)).mono ?_; rintro e w2 ⟨rfl, hb1⟩; have T2 := Aside0.mk (tab_of (show Tab w1.drew from T1.out) hb1); have k0 : w2.cell? ⟨w.heap.size, 0, none⟩ = some (.string nm) := pw_cell_below hb1 g0; have k2 : w2.cell? ⟨w.heap.size, 2, none⟩ = some (.int .i64 sh) := pw_cell_below hb1 g2; have k3 : w2.cell? ⟨w.heap.size, 3, none⟩ = some (.int .i64 le) := pw_cell_below hb1 g3; have Y2 := Aside0.mk hb1; clear hb1)
        | (go_at_call 33; refine (digits_calls le l3 _ T2.out).mono ?_; rintro e w3 ⟨rfl, hb1⟩; have T3 := Aside0.mk (tab_of T2.out hb1); have m0 : w3.cell? ⟨w.heap.size, 0, none⟩ = some (.string nm) := pw_cell_below hb1 k0; have m2 : w3.cell? ⟨w.heap.size, 2, none⟩ = some (.int .i64 sh) := pw_cell_below hb1 k2; have m3 : w3.cell? ⟨w.heap.size, 3, none⟩ = some (.int .i64 le) := pw_cell_below hb1 k3; have Y3 := Aside0.mk hb1; clear hb1))
    clear g0 g2 g3 k0 k2 k3 m0 m2 m3
    have X3 := Aside0.mk (blk_below (blk_below (blk_drew X1.out) Y2.out) Y3.out)
    have B3 := Aside0.mk (below_step (below_step (below_drew1 W1.out) Y2.out) Y3.out)
    have R4 := Aside0.mk (lit_R w3 [⟨#[108, 101, 118, 101, 108]⟩, nm, digitsT sh, digitsT le, bw] w3.heap.size (Nat.le_refl _) (by simp))
    have L4 := Aside0.mk (below_alloc (Below.refl w3.heap.size w3) (.cells #[.string ⟨#[108, 101, 118, 101, 108]⟩, .string nm, .string (digitsT sh), .string (digitsT le), .string bw] 9))
    have X4 := Aside0.mk (blk_alloc X3.out (.cells #[.string ⟨#[108, 101, 118, 101, 108]⟩, .string nm, .string (digitsT sh), .string (digitsT le), .string bw] 9))
    obtain ⟨w4, hw4⟩ : ∃ w4, w4 = w3.alloc (.cells #[.string ⟨#[108, 101, 118, 101, 108]⟩, .string nm, .string (digitsT sh), .string (digitsT le), .string bw] 9) := ⟨_, rfl⟩
    have R4 : Aside0 (Kd.string.R 9 w4 w3.heap.size (fun _ => True) (.slice (some ⟨w3.heap.size, 0, none⟩) 5 5) [⟨#[108, 101, 118, 101, 108]⟩, nm, digitsT sh, digitsT le, bw]) := ⟨by rw [hw4]; exact R4.out⟩
    have L4 : Aside0 (Below w3.heap.size w3 w4) := ⟨by rw [hw4]; exact L4.out⟩
    have X4 : Aside0 (w4.heap[w.heap.size]? = some (.cells #[.string nm, .int .i64 kd, .int .i64 sh, .int .i64 le, .int .i64 bo, .int .i64 qu, .int .i64 ha, .int .i64 ln, .int .i64 wa, .int .i64 gu] 40 (0, 0))) := ⟨by rw [hw4]; exact X4.out⟩
    rw [← hw4]
    clear hw4
    have y1 : w4.cell? ⟨w.heap.size, 1, none⟩ = some (.int .i64 kd) := (blk_cell X4.out 1).trans rfl
    by_cases hk2 : kd = 2
    · have e2 : (kd == 2) = true := beq_iff_eq.2 hk2
      have HK2 := Aside0.mk hk2
      clear hk2
      go_wp2_with ((with_reducible refine gate_builtin (b := .append) (xs := #[.tmp 36, .tmp 37]) rfl ?_); at_builtin; refine Kd.R_append Kd.string (w0 := w3) w3.heap.size rfl (.tmp 36) (.tmp 37) 51 9 (.string ⟨#[]⟩) 16 rfl Tryd.underlying51 infoStr rfl (by decide) (by omega) _ [⟨#[108, 101, 118, 101, 108]⟩, nm, digitsT sh, digitsT le, bw] ⟨#[114, 101, 106, 101, 99, 116]⟩ [.string ⟨#[114, 101, 106, 101, 99, 116]⟩] (fun _ => True) (fun _ => False) rfl rfl rfl (fun _ h => h.elim) (fun _ _ => trivial) R4.out L4.out L4.out.size (by simp) ?_; intro v5 w5 ho hb _ _; obtain ⟨A5, c5, rfl, hc5, hC5⟩ := Kd.R_reads ho; have R5 : Aside0 (Kd.string.R 9 w5 w3.heap.size (fun _ => True) (.slice A5 6 c5) [⟨#[108, 101, 118, 101, 108]⟩, nm, digitsT sh, digitsT le, bw, ⟨#[114, 101, 106, 101, 99, 116]⟩]) := ⟨ho⟩; have L5 := Aside0.mk hb; have C5 : Aside0 (Kd.string.C w5 A5 6 [⟨#[108, 101, 118, 101, 108]⟩, nm, digitsT sh, digitsT le, bw, ⟨#[114, 101, 106, 101, 99, 116]⟩]) := ⟨hC5⟩; have q5 : 6 ≤ c5 := hc5; clear ho hC5 hc5; clear hb)
      refine (tell_n B b t _ _ [⟨#[108, 101, 118, 101, 108]⟩, nm, digitsT sh, digitsT le, bw, ⟨#[114, 101, 106, 101, 99, 116]⟩] _ 6 rfl (Bld_below HBD.out (below_step B3.out L5.out)) (Nat.le_trans hB (below_step B3.out L5.out).size) C5.out (by simp) q5 (by simp) (by intro x hx; simp only [List.mem_cons, List.mem_nil_iff, or_false] at hx; rcases hx with rfl | rfl | rfl | rfl | rfl | rfl <;> first | omega | (simp only [SZ.out]; omega) | decide | (refine Nat.le_trans (digitsT_size _ (by assumption)) (by omega))) hlen).mono ?_
      rintro e w9 ⟨rfl, hb1, hb2, hb3⟩
      have H1 := Aside0.mk hb1
      have H2 := Aside0.mk hb2
      have H3 := Aside0.mk hb3
      clear hb1 hb2 hb3
      go_wp2_with fail
      refine bodyPost_ret (results_none rfl _ _ _) rfl ?_
      refine ⟨rfl, ?_, (below_tail hB (below_step B3.out L5.out)).trans H2.out, (oth_below (below_step B3.out L5.out)).trans H3.out⟩
      have := H1.out
      rw [show levelW { name := nm, kind := kd, shares := sh, lend := le, borrow := bo, queues := qu, hand := ha, length := ln, wait := wa, guess := gu } = _ from by simp only [levelW, if_pos HK2.out, if_neg HK.out, ← BW.out]; rfl]
      exact this
    · have e2 : (kd == 2) = false := beq_eq_false_iff_ne.2 hk2
      have HK2 := Aside0.mk hk2
      clear hk2
      go_wp2_with ((with_reducible refine gate_builtin (b := .append) (xs := #[.tmp 40, .tmp 41]) rfl ?_); at_builtin; refine Kd.R_append Kd.string (w0 := w3) w3.heap.size rfl (.tmp 40) (.tmp 41) 51 9 (.string ⟨#[]⟩) 16 rfl Tryd.underlying51 infoStr rfl (by decide) (by omega) _ [⟨#[108, 101, 118, 101, 108]⟩, nm, digitsT sh, digitsT le, bw] ⟨#[113, 117, 101, 117, 101]⟩ [.string ⟨#[113, 117, 101, 117, 101]⟩] (fun _ => True) (fun _ => False) rfl rfl rfl (fun _ h => h.elim) (fun _ _ => trivial) R4.out L4.out L4.out.size (by simp) ?_; intro v5 w5 ho hb _ _; obtain ⟨A5, c5, rfl, hc5, hC5⟩ := Kd.R_reads ho; have R5 : Aside0 (Kd.string.R 9 w5 w3.heap.size (fun _ => True) (.slice A5 6 c5) [⟨#[108, 101, 118, 101, 108]⟩, nm, digitsT sh, digitsT le, bw, ⟨#[113, 117, 101, 117, 101]⟩]) := ⟨ho⟩; have L5 := Aside0.mk hb; have C5 : Aside0 (Kd.string.C w5 A5 6 [⟨#[108, 101, 118, 101, 108]⟩, nm, digitsT sh, digitsT le, bw, ⟨#[113, 117, 101, 117, 101]⟩]) := ⟨hC5⟩; have q5 : 6 ≤ c5 := hc5; clear ho hC5 hc5; have X5 := Aside0.mk (blk_below X3.out hb); have y5 : w5.cell? ⟨w.heap.size, 5, none⟩ = some (.int .i64 qu) := (blk_cell X5.out 5).trans rfl; have y6 : w5.cell? ⟨w.heap.size, 6, none⟩ = some (.int .i64 ha) := (blk_cell X5.out 6).trans rfl; have y7 : w5.cell? ⟨w.heap.size, 7, none⟩ = some (.int .i64 ln) := (blk_cell X5.out 7).trans rfl; have y8 : w5.cell? ⟨w.heap.size, 8, none⟩ = some (.int .i64 wa) := (blk_cell X5.out 8).trans rfl; have y9 : w5.cell? ⟨w.heap.size, 9, none⟩ = some (.int .i64 gu) := (blk_cell X5.out 9).trans rfl; clear hb)
      clear y1 y5 y6 y7 y8 y9
      refine wp_loop_rounds 6 ?_
      rw [rounds_succ]
      go_wp2_with (first
        | (go_at_call 33; refine (digits_calls qu (by assumption) _ (tab_of T3.out L5.out)).mono ?_; rintro e wd0 ⟨rfl, hb1⟩; have Rd0 := Aside0.mk (Kd.R_below R5.out hb1); have Ld0 := Aside0.mk (below_step L5.out hb1); clear hb1)
        | ((with_reducible refine gate_builtin (b := .append) (xs := #[.tmp 57, .tmp 60]) rfl ?_); at_builtin; refine Kd.R_append Kd.string (w0 := w3) w3.heap.size rfl (.tmp 57) (.tmp 60) 51 9 (.string ⟨#[]⟩) 16 rfl Tryd.underlying51 infoStr rfl (by decide) (by omega) _ [⟨#[108, 101, 118, 101, 108]⟩, nm, digitsT sh, digitsT le, bw, ⟨#[113, 117, 101, 117, 101]⟩] (digitsT qu) [.string (digitsT qu)] (fun _ => True) (fun _ => False) rfl rfl rfl (fun _ h => h.elim) (fun _ _ => trivial) Rd0.out Ld0.out Ld0.out.size (by simp) ?_; intro v6 w6 ho hb _ _; obtain ⟨A6, c6, rfl, hc6, hC6⟩ := Kd.R_reads ho; have R6 : Aside0 (Kd.string.R 9 w6 w3.heap.size (fun _ => True) (.slice A6 7 c6) [⟨#[108, 101, 118, 101, 108]⟩, nm, digitsT sh, digitsT le, bw, ⟨#[113, 117, 101, 117, 101]⟩, digitsT qu]) := ⟨ho⟩; have L6 := Aside0.mk hb; have C6 : Aside0 (Kd.string.C w6 A6 7 [⟨#[108, 101, 118, 101, 108]⟩, nm, digitsT sh, digitsT le, bw, ⟨#[113, 117, 101, 117, 101]⟩, digitsT qu]) := ⟨hC6⟩; have q6 : 7 ≤ c6 := hc6; clear ho hC6 hc6; clear hb))
      rw [rounds_succ]
      go_wp2_with (first
        | (go_at_call 33; refine (digits_calls ha (by assumption) _ (tab_of T3.out L6.out)).mono ?_; rintro e wd1 ⟨rfl, hb1⟩; have Rd1 := Aside0.mk (Kd.R_below R6.out hb1); have Ld1 := Aside0.mk (below_step L6.out hb1); clear hb1)
        | ((with_reducible refine gate_builtin (b := .append) (xs := #[.tmp 57, .tmp 60]) rfl ?_); at_builtin; refine Kd.R_append Kd.string (w0 := w3) w3.heap.size rfl (.tmp 57) (.tmp 60) 51 9 (.string ⟨#[]⟩) 16 rfl Tryd.underlying51 infoStr rfl (by decide) (by omega) _ [⟨#[108, 101, 118, 101, 108]⟩, nm, digitsT sh, digitsT le, bw, ⟨#[113, 117, 101, 117, 101]⟩, digitsT qu] (digitsT ha) [.string (digitsT ha)] (fun _ => True) (fun _ => False) rfl rfl rfl (fun _ h => h.elim) (fun _ _ => trivial) Rd1.out Ld1.out Ld1.out.size (by simp) ?_; intro v7 w7 ho hb _ _; obtain ⟨A7, c7, rfl, hc7, hC7⟩ := Kd.R_reads ho; have R7 : Aside0 (Kd.string.R 9 w7 w3.heap.size (fun _ => True) (.slice A7 8 c7) [⟨#[108, 101, 118, 101, 108]⟩, nm, digitsT sh, digitsT le, bw, ⟨#[113, 117, 101, 117, 101]⟩, digitsT qu, digitsT ha]) := ⟨ho⟩; have L7 := Aside0.mk hb; have C7 : Aside0 (Kd.string.C w7 A7 8 [⟨#[108, 101, 118, 101, 108]⟩, nm, digitsT sh, digitsT le, bw, ⟨#[113, 117, 101, 117, 101]⟩, digitsT qu, digitsT ha]) := ⟨hC7⟩; have q7 : 8 ≤ c7 := hc7; clear ho hC7 hc7; clear hb))
      rw [rounds_succ]
      go_wp2_with (first
        | (go_at_call 33; refine (digits_calls ln (by assumption) _ (tab_of T3.out L7.out)).mono ?_; rintro e wd2 ⟨rfl, hb1⟩; have Rd2 := Aside0.mk (Kd.R_below R7.out hb1); have Ld2 := Aside0.mk (below_step L7.out hb1); clear hb1)
        | ((with_reducible refine gate_builtin (b := .append) (xs := #[.tmp 57, .tmp 60]) rfl ?_); at_builtin; refine Kd.R_append Kd.string (w0 := w3) w3.heap.size rfl (.tmp 57) (.tmp 60) 51 9 (.string ⟨#[]⟩) 16 rfl Tryd.underlying51 infoStr rfl (by decide) (by omega) _ [⟨#[108, 101, 118, 101, 108]⟩, nm, digitsT sh, digitsT le, bw, ⟨#[113, 117, 101, 117, 101]⟩, digitsT qu, digitsT ha] (digitsT ln) [.string (digitsT ln)] (fun _ => True) (fun _ => False) rfl rfl rfl (fun _ h => h.elim) (fun _ _ => trivial) Rd2.out Ld2.out Ld2.out.size (by simp) ?_; intro v8 w8 ho hb _ _; obtain ⟨A8, c8, rfl, hc8, hC8⟩ := Kd.R_reads ho; have R8 : Aside0 (Kd.string.R 9 w8 w3.heap.size (fun _ => True) (.slice A8 9 c8) [⟨#[108, 101, 118, 101, 108]⟩, nm, digitsT sh, digitsT le, bw, ⟨#[113, 117, 101, 117, 101]⟩, digitsT qu, digitsT ha, digitsT ln]) := ⟨ho⟩; have L8 := Aside0.mk hb; have C8 : Aside0 (Kd.string.C w8 A8 9 [⟨#[108, 101, 118, 101, 108]⟩, nm, digitsT sh, digitsT le, bw, ⟨#[113, 117, 101, 117, 101]⟩, digitsT qu, digitsT ha, digitsT ln]) := ⟨hC8⟩; have q8 : 9 ≤ c8 := hc8; clear ho hC8 hc8; clear hb))
      rw [rounds_succ]
      go_wp2_with (first
        | (go_at_call 33; refine (digits_calls wa (by assumption) _ (tab_of T3.out L8.out)).mono ?_; rintro e wd3 ⟨rfl, hb1⟩; have Rd3 := Aside0.mk (Kd.R_below R8.out hb1); have Ld3 := Aside0.mk (below_step L8.out hb1); clear hb1)
        | ((with_reducible refine gate_builtin (b := .append) (xs := #[.tmp 57, .tmp 60]) rfl ?_); at_builtin; refine Kd.R_append Kd.string (w0 := w3) w3.heap.size rfl (.tmp 57) (.tmp 60) 51 9 (.string ⟨#[]⟩) 16 rfl Tryd.underlying51 infoStr rfl (by decide) (by omega) _ [⟨#[108, 101, 118, 101, 108]⟩, nm, digitsT sh, digitsT le, bw, ⟨#[113, 117, 101, 117, 101]⟩, digitsT qu, digitsT ha, digitsT ln] (digitsT wa) [.string (digitsT wa)] (fun _ => True) (fun _ => False) rfl rfl rfl (fun _ h => h.elim) (fun _ _ => trivial) Rd3.out Ld3.out Ld3.out.size (by simp) ?_; intro v9 w9 ho hb _ _; obtain ⟨A9, c9, rfl, hc9, hC9⟩ := Kd.R_reads ho; have R9 : Aside0 (Kd.string.R 9 w9 w3.heap.size (fun _ => True) (.slice A9 10 c9) [⟨#[108, 101, 118, 101, 108]⟩, nm, digitsT sh, digitsT le, bw, ⟨#[113, 117, 101, 117, 101]⟩, digitsT qu, digitsT ha, digitsT ln, digitsT wa]) := ⟨ho⟩; have L9 := Aside0.mk hb; have C9 : Aside0 (Kd.string.C w9 A9 10 [⟨#[108, 101, 118, 101, 108]⟩, nm, digitsT sh, digitsT le, bw, ⟨#[113, 117, 101, 117, 101]⟩, digitsT qu, digitsT ha, digitsT ln, digitsT wa]) := ⟨hC9⟩; have q9 : 10 ≤ c9 := hc9; clear ho hC9 hc9; clear hb))
      rw [rounds_succ]
      go_wp2_with (first
        | (go_at_call 33; refine (digits_calls gu (by assumption) _ (tab_of T3.out L9.out)).mono ?_; rintro e wd4 ⟨rfl, hb1⟩; have Rd4 := Aside0.mk (Kd.R_below R9.out hb1); have Ld4 := Aside0.mk (below_step L9.out hb1); clear hb1)
        | ((with_reducible refine gate_builtin (b := .append) (xs := #[.tmp 57, .tmp 60]) rfl ?_); at_builtin; refine Kd.R_append Kd.string (w0 := w3) w3.heap.size rfl (.tmp 57) (.tmp 60) 51 9 (.string ⟨#[]⟩) 16 rfl Tryd.underlying51 infoStr rfl (by decide) (by omega) _ [⟨#[108, 101, 118, 101, 108]⟩, nm, digitsT sh, digitsT le, bw, ⟨#[113, 117, 101, 117, 101]⟩, digitsT qu, digitsT ha, digitsT ln, digitsT wa] (digitsT gu) [.string (digitsT gu)] (fun _ => True) (fun _ => False) rfl rfl rfl (fun _ h => h.elim) (fun _ _ => trivial) Rd4.out Ld4.out Ld4.out.size (by simp) ?_; intro v10 w10 ho hb _ _; obtain ⟨A10, c10, rfl, hc10, hC10⟩ := Kd.R_reads ho; have R10 : Aside0 (Kd.string.R 9 w10 w3.heap.size (fun _ => True) (.slice A10 11 c10) [⟨#[108, 101, 118, 101, 108]⟩, nm, digitsT sh, digitsT le, bw, ⟨#[113, 117, 101, 117, 101]⟩, digitsT qu, digitsT ha, digitsT ln, digitsT wa, digitsT gu]) := ⟨ho⟩; have L10 := Aside0.mk hb; have C10 : Aside0 (Kd.string.C w10 A10 11 [⟨#[108, 101, 118, 101, 108]⟩, nm, digitsT sh, digitsT le, bw, ⟨#[113, 117, 101, 117, 101]⟩, digitsT qu, digitsT ha, digitsT ln, digitsT wa, digitsT gu]) := ⟨hC10⟩; have q10 : 11 ≤ c10 := hc10; clear ho hC10 hc10; clear hb))
      rw [rounds_succ]
      go_wp2_with fail
      refine (tell_n B b t _ _ [⟨#[108, 101, 118, 101, 108]⟩, nm, digitsT sh, digitsT le, bw, ⟨#[113, 117, 101, 117, 101]⟩, digitsT qu, digitsT ha, digitsT ln, digitsT wa, digitsT gu] _ 11 rfl (Bld_below HBD.out (below_step B3.out L10.out)) (Nat.le_trans hB (below_step B3.out L10.out).size) C10.out (by simp) q10 (by simp) (by intro x hx; simp only [List.mem_cons, List.mem_nil_iff, or_false] at hx; rcases hx with rfl | rfl | rfl | rfl | rfl | rfl | rfl | rfl | rfl | rfl | rfl <;> first | omega | (simp only [SZ.out]; omega) | decide | (refine Nat.le_trans (digitsT_size _ (by assumption)) (by omega))) hlen).mono ?_
      rintro e w9 ⟨rfl, hb1, hb2, hb3⟩
      have H1 := Aside0.mk hb1
      have H2 := Aside0.mk hb2
      have H3 := Aside0.mk hb3
      clear hb1 hb2 hb3
      go_wp2_with fail
      refine bodyPost_end (results_none rfl _ _ _) rfl ?_
      refine ⟨rfl, ?_, (below_tail hB (below_step B3.out L10.out)).trans H2.out, (oth_below (below_step B3.out L10.out)).trans H3.out⟩
      have := H1.out
      rw [show levelW { name := nm, kind := kd, shares := sh, lend := le, borrow := bo, queues := qu, hand := ha, length := ln, wait := wa, guess := gu } = _ from by simp only [levelW, if_neg HK2.out, if_neg HK.out, ← BW.out]; rfl]
      exact this
  · have EB : Aside0 (⟨#[97, 108, 108]⟩ = bw) := ⟨by rw [BW.out, borrowW, if_neg h0]⟩
    go_enter Tryd.func34, Tryd.ntmps34
    go_wp2_with fail
    rw [EB.out]
    obtain ⟨w1, hw1⟩ : ∃ w1, w1 = w.alloc (.cells #[.string nm, .int .i64 kd, .int .i64 sh, .int .i64 le, .int .i64 bo, .int .i64 qu, .int .i64 ha, .int .i64 ln, .int .i64 wa, .int .i64 gu] 40) := ⟨_, rfl⟩
    have X1 : Aside0 (w1.heap[w.heap.size]? = some (.cells #[.string nm, .int .i64 kd, .int .i64 sh, .int .i64 le, .int .i64 bo, .int .i64 qu, .int .i64 ha, .int .i64 ln, .int .i64 wa, .int .i64 gu] 40 (0, 0))) := ⟨by rw [hw1]; exact blk_new _ _⟩
    have W1 : Aside0 (Below w.heap.size w w1) := ⟨by rw [hw1]; exact below_alloc (Below.refl _ _) _⟩
    rw [← hw1]
    have T1 := Aside0.mk (tab_of HT.out W1.out)
    clear hw1
    clear EB
    have g0 : w1.cell? ⟨w.heap.size, 0, none⟩ = some (.string nm) := (blk_cell X1.out 0).trans rfl
    have g2 : w1.cell? ⟨w.heap.size, 2, none⟩ = some (.int .i64 sh) := (blk_cell X1.out 2).trans rfl
    have g3 : w1.cell? ⟨w.heap.size, 3, none⟩ = some (.int .i64 le) := (blk_cell X1.out 3).trans rfl
    go_region_held3 (fun w' => w'.cell? ⟨w.heap.size, 0, none⟩ = some (.string nm) ∧ w'.cell? ⟨w.heap.size, 2, none⟩ = some (.int .i64 sh) ∧ w'.cell? ⟨w.heap.size, 3, none⟩ = some (.int .i64 le))
      (go_keep)
      (first
        | (go_at_call 33; refine (digits_calls sh l2 _ (show Tab w1.drew from T1.out)).mono ?_; rintro e w2 ⟨rfl, hb1⟩; have T2 := Aside0.mk (tab_of (show Tab w1.drew from T1.out) hb1); have k0 : w2.cell? ⟨w.heap.size, 0, none⟩ = some (.string nm) := pw_cell_below hb1 g0; have k2 : w2.cell? ⟨w.heap.size, 2, none⟩ = some (.int .i64 sh) := pw_cell_below hb1 g2; have k3 : w2.cell? ⟨w.heap.size, 3, none⟩ = some (.int .i64 le) := pw_cell_below hb1 g3; have Y2 := Aside0.mk hb1; clear hb1)
        | (go_at_call 33; refine (digits_calls le l3 _ T2.out).mono ?_; rintro e w3 ⟨rfl, hb1⟩; have T3 := Aside0.mk (tab_of T2.out hb1); have m0 : w3.cell? ⟨w.heap.size, 0, none⟩ = some (.string nm) := pw_cell_below hb1 k0; have m2 : w3.cell? ⟨w.heap.size, 2, none⟩ = some (.int .i64 sh) := pw_cell_below hb1 k2; have m3 : w3.cell? ⟨w.heap.size, 3, none⟩ = some (.int .i64 le) := pw_cell_below hb1 k3; have Y3 := Aside0.mk hb1; clear hb1))
    clear g0 g2 g3 k0 k2 k3 m0 m2 m3
    have X3 := Aside0.mk (blk_below (blk_below (blk_drew X1.out) Y2.out) Y3.out)
    have B3 := Aside0.mk (below_step (below_step (below_drew1 W1.out) Y2.out) Y3.out)
    have R4 := Aside0.mk (lit_R w3 [⟨#[108, 101, 118, 101, 108]⟩, nm, digitsT sh, digitsT le, bw] w3.heap.size (Nat.le_refl _) (by simp))
    have L4 := Aside0.mk (below_alloc (Below.refl w3.heap.size w3) (.cells #[.string ⟨#[108, 101, 118, 101, 108]⟩, .string nm, .string (digitsT sh), .string (digitsT le), .string bw] 9))
    have X4 := Aside0.mk (blk_alloc X3.out (.cells #[.string ⟨#[108, 101, 118, 101, 108]⟩, .string nm, .string (digitsT sh), .string (digitsT le), .string bw] 9))
    obtain ⟨w4, hw4⟩ : ∃ w4, w4 = w3.alloc (.cells #[.string ⟨#[108, 101, 118, 101, 108]⟩, .string nm, .string (digitsT sh), .string (digitsT le), .string bw] 9) := ⟨_, rfl⟩
    have R4 : Aside0 (Kd.string.R 9 w4 w3.heap.size (fun _ => True) (.slice (some ⟨w3.heap.size, 0, none⟩) 5 5) [⟨#[108, 101, 118, 101, 108]⟩, nm, digitsT sh, digitsT le, bw]) := ⟨by rw [hw4]; exact R4.out⟩
    have L4 : Aside0 (Below w3.heap.size w3 w4) := ⟨by rw [hw4]; exact L4.out⟩
    have X4 : Aside0 (w4.heap[w.heap.size]? = some (.cells #[.string nm, .int .i64 kd, .int .i64 sh, .int .i64 le, .int .i64 bo, .int .i64 qu, .int .i64 ha, .int .i64 ln, .int .i64 wa, .int .i64 gu] 40 (0, 0))) := ⟨by rw [hw4]; exact X4.out⟩
    rw [← hw4]
    clear hw4
    have y1 : w4.cell? ⟨w.heap.size, 1, none⟩ = some (.int .i64 kd) := (blk_cell X4.out 1).trans rfl
    by_cases hk2 : kd = 2
    · have e2 : (kd == 2) = true := beq_iff_eq.2 hk2
      have HK2 := Aside0.mk hk2
      clear hk2
      go_wp2_with ((with_reducible refine gate_builtin (b := .append) (xs := #[.tmp 36, .tmp 37]) rfl ?_); at_builtin; refine Kd.R_append Kd.string (w0 := w3) w3.heap.size rfl (.tmp 36) (.tmp 37) 51 9 (.string ⟨#[]⟩) 16 rfl Tryd.underlying51 infoStr rfl (by decide) (by omega) _ [⟨#[108, 101, 118, 101, 108]⟩, nm, digitsT sh, digitsT le, bw] ⟨#[114, 101, 106, 101, 99, 116]⟩ [.string ⟨#[114, 101, 106, 101, 99, 116]⟩] (fun _ => True) (fun _ => False) rfl rfl rfl (fun _ h => h.elim) (fun _ _ => trivial) R4.out L4.out L4.out.size (by simp) ?_; intro v5 w5 ho hb _ _; obtain ⟨A5, c5, rfl, hc5, hC5⟩ := Kd.R_reads ho; have R5 : Aside0 (Kd.string.R 9 w5 w3.heap.size (fun _ => True) (.slice A5 6 c5) [⟨#[108, 101, 118, 101, 108]⟩, nm, digitsT sh, digitsT le, bw, ⟨#[114, 101, 106, 101, 99, 116]⟩]) := ⟨ho⟩; have L5 := Aside0.mk hb; have C5 : Aside0 (Kd.string.C w5 A5 6 [⟨#[108, 101, 118, 101, 108]⟩, nm, digitsT sh, digitsT le, bw, ⟨#[114, 101, 106, 101, 99, 116]⟩]) := ⟨hC5⟩; have q5 : 6 ≤ c5 := hc5; clear ho hC5 hc5; clear hb)
      refine (tell_n B b t _ _ [⟨#[108, 101, 118, 101, 108]⟩, nm, digitsT sh, digitsT le, bw, ⟨#[114, 101, 106, 101, 99, 116]⟩] _ 6 rfl (Bld_below HBD.out (below_step B3.out L5.out)) (Nat.le_trans hB (below_step B3.out L5.out).size) C5.out (by simp) q5 (by simp) (by intro x hx; simp only [List.mem_cons, List.mem_nil_iff, or_false] at hx; rcases hx with rfl | rfl | rfl | rfl | rfl | rfl <;> first | omega | (simp only [SZ.out]; omega) | decide | (refine Nat.le_trans (digitsT_size _ (by assumption)) (by omega))) hlen).mono ?_
      rintro e w9 ⟨rfl, hb1, hb2, hb3⟩
      have H1 := Aside0.mk hb1
      have H2 := Aside0.mk hb2
      have H3 := Aside0.mk hb3
      clear hb1 hb2 hb3
      go_wp2_with fail
      refine bodyPost_ret (results_none rfl _ _ _) rfl ?_
      refine ⟨rfl, ?_, (below_tail hB (below_step B3.out L5.out)).trans H2.out, (oth_below (below_step B3.out L5.out)).trans H3.out⟩
      have := H1.out
      rw [show levelW { name := nm, kind := kd, shares := sh, lend := le, borrow := bo, queues := qu, hand := ha, length := ln, wait := wa, guess := gu } = _ from by simp only [levelW, if_pos HK2.out, if_neg HK.out, ← BW.out]; rfl]
      exact this
    · have e2 : (kd == 2) = false := beq_eq_false_iff_ne.2 hk2
      have HK2 := Aside0.mk hk2
      clear hk2
      go_wp2_with ((with_reducible refine gate_builtin (b := .append) (xs := #[.tmp 40, .tmp 41]) rfl ?_); at_builtin; refine Kd.R_append Kd.string (w0 := w3) w3.heap.size rfl (.tmp 40) (.tmp 41) 51 9 (.string ⟨#[]⟩) 16 rfl Tryd.underlying51 infoStr rfl (by decide) (by omega) _ [⟨#[108, 101, 118, 101, 108]⟩, nm, digitsT sh, digitsT le, bw] ⟨#[113, 117, 101, 117, 101]⟩ [.string ⟨#[113, 117, 101, 117, 101]⟩] (fun _ => True) (fun _ => False) rfl rfl rfl (fun _ h => h.elim) (fun _ _ => trivial) R4.out L4.out L4.out.size (by simp) ?_; intro v5 w5 ho hb _ _; obtain ⟨A5, c5, rfl, hc5, hC5⟩ := Kd.R_reads ho; have R5 : Aside0 (Kd.string.R 9 w5 w3.heap.size (fun _ => True) (.slice A5 6 c5) [⟨#[108, 101, 118, 101, 108]⟩, nm, digitsT sh, digitsT le, bw, ⟨#[113, 117, 101, 117, 101]⟩]) := ⟨ho⟩; have L5 := Aside0.mk hb; have C5 : Aside0 (Kd.string.C w5 A5 6 [⟨#[108, 101, 118, 101, 108]⟩, nm, digitsT sh, digitsT le, bw, ⟨#[113, 117, 101, 117, 101]⟩]) := ⟨hC5⟩; have q5 : 6 ≤ c5 := hc5; clear ho hC5 hc5; have X5 := Aside0.mk (blk_below X3.out hb); have y5 : w5.cell? ⟨w.heap.size, 5, none⟩ = some (.int .i64 qu) := (blk_cell X5.out 5).trans rfl; have y6 : w5.cell? ⟨w.heap.size, 6, none⟩ = some (.int .i64 ha) := (blk_cell X5.out 6).trans rfl; have y7 : w5.cell? ⟨w.heap.size, 7, none⟩ = some (.int .i64 ln) := (blk_cell X5.out 7).trans rfl; have y8 : w5.cell? ⟨w.heap.size, 8, none⟩ = some (.int .i64 wa) := (blk_cell X5.out 8).trans rfl; have y9 : w5.cell? ⟨w.heap.size, 9, none⟩ = some (.int .i64 gu) := (blk_cell X5.out 9).trans rfl; clear hb)
      clear y1 y5 y6 y7 y8 y9
      refine wp_loop_rounds 6 ?_
      rw [rounds_succ]
      go_wp2_with (first
        | (go_at_call 33; refine (digits_calls qu (by assumption) _ (tab_of T3.out L5.out)).mono ?_; rintro e wd0 ⟨rfl, hb1⟩; have Rd0 := Aside0.mk (Kd.R_below R5.out hb1); have Ld0 := Aside0.mk (below_step L5.out hb1); clear hb1)
        | ((with_reducible refine gate_builtin (b := .append) (xs := #[.tmp 57, .tmp 60]) rfl ?_); at_builtin; refine Kd.R_append Kd.string (w0 := w3) w3.heap.size rfl (.tmp 57) (.tmp 60) 51 9 (.string ⟨#[]⟩) 16 rfl Tryd.underlying51 infoStr rfl (by decide) (by omega) _ [⟨#[108, 101, 118, 101, 108]⟩, nm, digitsT sh, digitsT le, bw, ⟨#[113, 117, 101, 117, 101]⟩] (digitsT qu) [.string (digitsT qu)] (fun _ => True) (fun _ => False) rfl rfl rfl (fun _ h => h.elim) (fun _ _ => trivial) Rd0.out Ld0.out Ld0.out.size (by simp) ?_; intro v6 w6 ho hb _ _; obtain ⟨A6, c6, rfl, hc6, hC6⟩ := Kd.R_reads ho; have R6 : Aside0 (Kd.string.R 9 w6 w3.heap.size (fun _ => True) (.slice A6 7 c6) [⟨#[108, 101, 118, 101, 108]⟩, nm, digitsT sh, digitsT le, bw, ⟨#[113, 117, 101, 117, 101]⟩, digitsT qu]) := ⟨ho⟩; have L6 := Aside0.mk hb; have C6 : Aside0 (Kd.string.C w6 A6 7 [⟨#[108, 101, 118, 101, 108]⟩, nm, digitsT sh, digitsT le, bw, ⟨#[113, 117, 101, 117, 101]⟩, digitsT qu]) := ⟨hC6⟩; have q6 : 7 ≤ c6 := hc6; clear ho hC6 hc6; clear hb))
      rw [rounds_succ]
      go_wp2_with (first
        | (go_at_call 33; refine (digits_calls ha (by assumption) _ (tab_of T3.out L6.out)).mono ?_; rintro e wd1 ⟨rfl, hb1⟩; have Rd1 := Aside0.mk (Kd.R_below R6.out hb1); have Ld1 := Aside0.mk (below_step L6.out hb1); clear hb1)
        | ((with_reducible refine gate_builtin (b := .append) (xs := #[.tmp 57, .tmp 60]) rfl ?_); at_builtin; refine Kd.R_append Kd.string (w0 := w3) w3.heap.size rfl (.tmp 57) (.tmp 60) 51 9 (.string ⟨#[]⟩) 16 rfl Tryd.underlying51 infoStr rfl (by decide) (by omega) _ [⟨#[108, 101, 118, 101, 108]⟩, nm, digitsT sh, digitsT le, bw, ⟨#[113, 117, 101, 117, 101]⟩, digitsT qu] (digitsT ha) [.string (digitsT ha)] (fun _ => True) (fun _ => False) rfl rfl rfl (fun _ h => h.elim) (fun _ _ => trivial) Rd1.out Ld1.out Ld1.out.size (by simp) ?_; intro v7 w7 ho hb _ _; obtain ⟨A7, c7, rfl, hc7, hC7⟩ := Kd.R_reads ho; have R7 : Aside0 (Kd.string.R 9 w7 w3.heap.size (fun _ => True) (.slice A7 8 c7) [⟨#[108, 101, 118, 101, 108]⟩, nm, digitsT sh, digitsT le, bw, ⟨#[113, 117, 101, 117, 101]⟩, digitsT qu, digitsT ha]) := ⟨ho⟩; have L7 := Aside0.mk hb; have C7 : Aside0 (Kd.string.C w7 A7 8 [⟨#[108, 101, 118, 101, 108]⟩, nm, digitsT sh, digitsT le, bw, ⟨#[113, 117, 101, 117, 101]⟩, digitsT qu, digitsT ha]) := ⟨hC7⟩; have q7 : 8 ≤ c7 := hc7; clear ho hC7 hc7; clear hb))
      rw [rounds_succ]
      go_wp2_with (first
        | (go_at_call 33; refine (digits_calls ln (by assumption) _ (tab_of T3.out L7.out)).mono ?_; rintro e wd2 ⟨rfl, hb1⟩; have Rd2 := Aside0.mk (Kd.R_below R7.out hb1); have Ld2 := Aside0.mk (below_step L7.out hb1); clear hb1)
        | ((with_reducible refine gate_builtin (b := .append) (xs := #[.tmp 57, .tmp 60]) rfl ?_); at_builtin; refine Kd.R_append Kd.string (w0 := w3) w3.heap.size rfl (.tmp 57) (.tmp 60) 51 9 (.string ⟨#[]⟩) 16 rfl Tryd.underlying51 infoStr rfl (by decide) (by omega) _ [⟨#[108, 101, 118, 101, 108]⟩, nm, digitsT sh, digitsT le, bw, ⟨#[113, 117, 101, 117, 101]⟩, digitsT qu, digitsT ha] (digitsT ln) [.string (digitsT ln)] (fun _ => True) (fun _ => False) rfl rfl rfl (fun _ h => h.elim) (fun _ _ => trivial) Rd2.out Ld2.out Ld2.out.size (by simp) ?_; intro v8 w8 ho hb _ _; obtain ⟨A8, c8, rfl, hc8, hC8⟩ := Kd.R_reads ho; have R8 : Aside0 (Kd.string.R 9 w8 w3.heap.size (fun _ => True) (.slice A8 9 c8) [⟨#[108, 101, 118, 101, 108]⟩, nm, digitsT sh, digitsT le, bw, ⟨#[113, 117, 101, 117, 101]⟩, digitsT qu, digitsT ha, digitsT ln]) := ⟨ho⟩; have L8 := Aside0.mk hb; have C8 : Aside0 (Kd.string.C w8 A8 9 [⟨#[108, 101, 118, 101, 108]⟩, nm, digitsT sh, digitsT le, bw, ⟨#[113, 117, 101, 117, 101]⟩, digitsT qu, digitsT ha, digitsT ln]) := ⟨hC8⟩; have q8 : 9 ≤ c8 := hc8; clear ho hC8 hc8; clear hb))
      rw [rounds_succ]
      go_wp2_with (first
        | (go_at_call 33; refine (digits_calls wa (by assumption) _ (tab_of T3.out L8.out)).mono ?_; rintro e wd3 ⟨rfl, hb1⟩; have Rd3 := Aside0.mk (Kd.R_below R8.out hb1); have Ld3 := Aside0.mk (below_step L8.out hb1); clear hb1)
        | ((with_reducible refine gate_builtin (b := .append) (xs := #[.tmp 57, .tmp 60]) rfl ?_); at_builtin; refine Kd.R_append Kd.string (w0 := w3) w3.heap.size rfl (.tmp 57) (.tmp 60) 51 9 (.string ⟨#[]⟩) 16 rfl Tryd.underlying51 infoStr rfl (by decide) (by omega) _ [⟨#[108, 101, 118, 101, 108]⟩, nm, digitsT sh, digitsT le, bw, ⟨#[113, 117, 101, 117, 101]⟩, digitsT qu, digitsT ha, digitsT ln] (digitsT wa) [.string (digitsT wa)] (fun _ => True) (fun _ => False) rfl rfl rfl (fun _ h => h.elim) (fun _ _ => trivial) Rd3.out Ld3.out Ld3.out.size (by simp) ?_; intro v9 w9 ho hb _ _; obtain ⟨A9, c9, rfl, hc9, hC9⟩ := Kd.R_reads ho; have R9 : Aside0 (Kd.string.R 9 w9 w3.heap.size (fun _ => True) (.slice A9 10 c9) [⟨#[108, 101, 118, 101, 108]⟩, nm, digitsT sh, digitsT le, bw, ⟨#[113, 117, 101, 117, 101]⟩, digitsT qu, digitsT ha, digitsT ln, digitsT wa]) := ⟨ho⟩; have L9 := Aside0.mk hb; have C9 : Aside0 (Kd.string.C w9 A9 10 [⟨#[108, 101, 118, 101, 108]⟩, nm, digitsT sh, digitsT le, bw, ⟨#[113, 117, 101, 117, 101]⟩, digitsT qu, digitsT ha, digitsT ln, digitsT wa]) := ⟨hC9⟩; have q9 : 10 ≤ c9 := hc9; clear ho hC9 hc9; clear hb))
      rw [rounds_succ]
      go_wp2_with (first
        | (go_at_call 33; refine (digits_calls gu (by assumption) _ (tab_of T3.out L9.out)).mono ?_; rintro e wd4 ⟨rfl, hb1⟩; have Rd4 := Aside0.mk (Kd.R_below R9.out hb1); have Ld4 := Aside0.mk (below_step L9.out hb1); clear hb1)
        | ((with_reducible refine gate_builtin (b := .append) (xs := #[.tmp 57, .tmp 60]) rfl ?_); at_builtin; refine Kd.R_append Kd.string (w0 := w3) w3.heap.size rfl (.tmp 57) (.tmp 60) 51 9 (.string ⟨#[]⟩) 16 rfl Tryd.underlying51 infoStr rfl (by decide) (by omega) _ [⟨#[108, 101, 118, 101, 108]⟩, nm, digitsT sh, digitsT le, bw, ⟨#[113, 117, 101, 117, 101]⟩, digitsT qu, digitsT ha, digitsT ln, digitsT wa] (digitsT gu) [.string (digitsT gu)] (fun _ => True) (fun _ => False) rfl rfl rfl (fun _ h => h.elim) (fun _ _ => trivial) Rd4.out Ld4.out Ld4.out.size (by simp) ?_; intro v10 w10 ho hb _ _; obtain ⟨A10, c10, rfl, hc10, hC10⟩ := Kd.R_reads ho; have R10 : Aside0 (Kd.string.R 9 w10 w3.heap.size (fun _ => True) (.slice A10 11 c10) [⟨#[108, 101, 118, 101, 108]⟩, nm, digitsT sh, digitsT le, bw, ⟨#[113, 117, 101, 117, 101]⟩, digitsT qu, digitsT ha, digitsT ln, digitsT wa, digitsT gu]) := ⟨ho⟩; have L10 := Aside0.mk hb; have C10 : Aside0 (Kd.string.C w10 A10 11 [⟨#[108, 101, 118, 101, 108]⟩, nm, digitsT sh, digitsT le, bw, ⟨#[113, 117, 101, 117, 101]⟩, digitsT qu, digitsT ha, digitsT ln, digitsT wa, digitsT gu]) := ⟨hC10⟩; have q10 : 11 ≤ c10 := hc10; clear ho hC10 hc10; clear hb))
      rw [rounds_succ]
      go_wp2_with fail
      refine (tell_n B b t _ _ [⟨#[108, 101, 118, 101, 108]⟩, nm, digitsT sh, digitsT le, bw, ⟨#[113, 117, 101, 117, 101]⟩, digitsT qu, digitsT ha, digitsT ln, digitsT wa, digitsT gu] _ 11 rfl (Bld_below HBD.out (below_step B3.out L10.out)) (Nat.le_trans hB (below_step B3.out L10.out).size) C10.out (by simp) q10 (by simp) (by intro x hx; simp only [List.mem_cons, List.mem_nil_iff, or_false] at hx; rcases hx with rfl | rfl | rfl | rfl | rfl | rfl | rfl | rfl | rfl | rfl | rfl <;> first | omega | (simp only [SZ.out]; omega) | decide | (refine Nat.le_trans (digitsT_size _ (by assumption)) (by omega))) hlen).mono ?_
      rintro e w9 ⟨rfl, hb1, hb2, hb3⟩
      have H1 := Aside0.mk hb1
      have H2 := Aside0.mk hb2
      have H3 := Aside0.mk hb3
      clear hb1 hb2 hb3
      go_wp2_with fail
      refine bodyPost_end (results_none rfl _ _ _) rfl ?_
      refine ⟨rfl, ?_, (below_tail hB (below_step B3.out L10.out)).trans H2.out, (oth_below (below_step B3.out L10.out)).trans H3.out⟩
      have := H1.out
      rw [show levelW { name := nm, kind := kd, shares := sh, lend := le, borrow := bo, queues := qu, hand := ha, length := ln, wait := wa, guess := gu } = _ from by simp only [levelW, if_neg HK2.out, if_neg HK.out, ← BW.out]; rfl]
      exact this
end Go.Proofs.YtcgadbojojkchaaDoor.U
