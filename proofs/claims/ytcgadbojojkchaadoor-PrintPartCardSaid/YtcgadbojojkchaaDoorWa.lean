/- The walks of package words' functions on one text: plain, Name. -/
import Derived.Test.YtcgadbojojkchaaDoorBase
import Derived.BigGuardPart
import Derived.Lib.Hide
import Derived.Lib.Bytes
set_option linter.unusedVariables false
set_option linter.unusedSimpArgs false
namespace Go.Proofs.YtcgadbojojkchaaDoor.U
open Go.RowKit Go.Proofs.YtcgadbojojkchaaDoorW.PrintWords

theorem byte_at (s : ByteArray) (i : Int) : ∀ h : i.toNat < s.size, ((s[i.toNat]'h).toNat : Int) = byteAt s i := fun h => by simp [byteAt, h]
theorem isEmpty_iff (s : ByteArray) : s.toList.isEmpty = decide (s.size = 0) := by
  rw [Lib.toList_data, ← data_length s]
  cases s.data.toList <;> simp

theorem plain_calls (c : Int) (w : World) : Calls Tryd.prog 101 #[.int .u8 c] w fun e w' => e = .returned (.bool (plainB c)) ∧ w' = w := by
  go_enter Tryd.func101, Tryd.ntmps101
  go_wp2
  all_goals go_ret
  all_goals exact ⟨by simp [plainB, *] <;> omega, rfl⟩

theorem name_calls (s : ByteArray) (hs : s.size ≤ 140737488351232) (w : World) :
    Calls Tryd.prog 69 #[.string s] w fun e w' => e = .returned (.bool (nameB s)) ∧ w' = w := by
  have hE := isEmpty_iff s
  by_cases h0 : s.size = 0
  · have e1 : s.toList.isEmpty = true := by rw [hE]; simp [h0]
    clear hE
    go_enter Tryd.func69, Tryd.ntmps69
    go_wp2_with fail
    go_ret
    exact ⟨by simp [nameB, h0], rfl⟩
  have e1 : s.toList.isEmpty = false := by rw [hE]; simp [h0]
  have p0 : 0 < s.size := by omega
  have hb0 : ((s[0]).toNat : Int) = byteAt s 0 := byte_at s 0 p0
  have B0 := Aside0.mk hb0
  clear hE h0 hb0
  go_enter Tryd.func69, Tryd.ntmps69
  go_wp2_with fail
  · go_ret
    have : (32 : Int) < s.size := by assumption
    exact ⟨by simp [nameB]; omega, rfl⟩
  · go_ret
    have h1 : ((s[0]).toNat : Int) < 97 := by assumption
    rw [B0.out] at h1
    exact ⟨by simp [nameB]; omega, rfl⟩
  · go_ret
    have h1 : 122 < ((s[0]).toNat : Int) := by assumption
    rw [B0.out] at h1
    exact ⟨by simp [nameB]; omega, rfl⟩
  have l1 : ((s[0]).toNat : Int) ≤ 122 := by assumption
  have l2 : 97 ≤ ((s[0]).toNat : Int) := by assumption
  have l3 : (s.size : Int) ≤ 32 := by assumption
  rw [B0.out] at l1 l2
  go_loop [23] (fun v => ∃ k : Nat, k ≤ s.size ∧ v = .int .i64 k ∧ Aside0 (∀ i : Nat, i < k → nameC (byteAt s i) = true)) (fun v => s.size - (intOf v).toNat)
  case atStart => exact ⟨0, Nat.zero_le _, rfl, ⟨fun i hi => absurd hi (Nat.not_lt_zero _)⟩⟩
  case round =>
    obtain ⟨k, hk, rfl, hall⟩ := hrel
    by_cases hlt : k < s.size
    · have hbk : ((s[k]).toNat : Int) = byteAt s k := byte_at s k hlt
      have BK := Aside0.mk hbk
      clear hbk
      go_wp2_with (go_at_call 101; refine (plain_calls _ _).mono ?_; rintro e w' ⟨rfl, rfl⟩)
      · go_ret
        have g1 : plainB ((s[k]).toNat) = false := by assumption
        have g2 : (((s[k]).toNat : Int) != 45) = true := by assumption
        rw [BK.out] at g1 g2
        refine ⟨?_, rfl⟩
        have : nameB s = false := by
          unfold nameB
          rw [Bool.and_eq_false_iff]
          exact .inr (decide_eq_false fun h => by have := h k hlt; simp [nameC, g1] at this; simp [this] at g2)
        rw [this]; rfl
      · go_round
        case rel =>
          have g2 : (((s[k]).toNat : Int) != 45) = false := by assumption
          rw [BK.out] at g2
          exact ⟨k + 1, by omega, by go_num, ⟨fun i hi => by
            rcases Nat.lt_or_ge i k with h | h
            · exact hall.out i h
            · obtain rfl : i = k := by omega
              simp [nameC]; right; simpa using g2⟩⟩
        case measure => simp [intOf]; omega
      · go_round
        case rel =>
          have g1 : plainB ((s[k]).toNat) = true := by assumption
          rw [BK.out] at g1
          exact ⟨k + 1, by omega, by go_num, ⟨fun i hi => by
            rcases Nat.lt_or_ge i k with h | h
            · exact hall.out i h
            · obtain rfl : i = k := by omega
              simp [nameC, g1]⟩⟩
        case measure => simp [intOf]; omega
    · go_wp2_with fail
      go_ret
      refine ⟨?_, rfl⟩
      have : nameB s = true := by
        have ha := hall.out
        obtain rfl : k = s.size := by omega
        simp [nameB]
        exact ⟨⟨⟨⟨by omega, by omega⟩, l2⟩, l1⟩, ha⟩
      rw [this]; rfl
end Go.Proofs.YtcgadbojojkchaaDoor.U
