/- The walks of slices.Index and slices.Contains on texts, of words.Word, good, Join and Digits. -/
import Derived.Test.YtcgadbojojkchaaDoorWa
import Derived.Test.YtcgadbojojkchaaDoorShelf
set_option linter.unusedVariables false
set_option linter.unusedSimpArgs false
namespace Go.Proofs.YtcgadbojojkchaaDoor.U
open Go.RowKit Go.Proofs.YtcgadbojojkchaaDoorW.PrintWords

theorem str_at {w : World} {A : Option Addr} {xs : List ByteArray} (h : Kd.string.C w A xs.length xs) (k : Nat) (hk : k < xs.length) : ∃ ad, A = some ad ∧ w.cell? (ad.add k) = some (.string xs[k]) := by
  obtain ⟨ad, e, hc⟩ := Kd.at_string h (k : Int) (by omega) (by omega)
  refine ⟨ad, e, ?_⟩
  rw [Int.toNat_natCast] at hc
  rw [hc, rdOf, Int.toNat_natCast, List.getD_eq_getElem?_getD, List.getElem?_eq_getElem hk]; rfl
theorem bytes_ne {a b : ByteArray} : (a.toList == b.toList) = decide (a = b) := by
  rw [← beq_toListBytes]
  by_cases h : a = b <;> simp [h]
theorem bytes_of {a b : ByteArray} {r : Bool} (h : (a.toList == b.toList) = r) : decide (a = b) = r := bytes_ne.symm.trans h

theorem bytes_lit {a : ByteArray} {l : List UInt8} {r : Bool} (h : (a.toList == l) = r) : decide (a = ⟨l.toArray⟩) = r := by
  rw [Lib.toList_data] at h
  have : (a = ⟨l.toArray⟩) ↔ (a.data.toList == l) = true := by
    rw [beq_iff_eq]
    exact ⟨fun e => by rw [e], fun e => bytes_data (by simpa using e)⟩
  rw [← h]
  by_cases g : a = ⟨l.toArray⟩
  · rw [decide_eq_true g, this.1 g]
  · rw [decide_eq_false g]
    cases k : (a.data.toList == l) with
    | false => rfl
    | true => exact absurd (this.2 k) g
theorem upto_succ {P : Nat → Prop} {k : Nat} (h : ∀ i, i < k → P i) (hk : P k) : ∀ i, i < k + 1 → P i := fun i hi => by
  rcases Nat.lt_or_ge i k with g | g
  · exact h i g
  · obtain rfl : i = k := by omega
    exact hk

theorem index_calls (A : Option Addr) (c : Nat) (xs : List ByteArray) (x : ByteArray) (w : World) (h : Kd.string.C w A xs.length xs) (hn : xs.length ≤ 9223372036854775807) :
    Calls Tryd.prog 124 #[.slice A xs.length c, .string x] w fun e w' => Aside0 (∃ r : Int, e = .returned (.int .i64 r) ∧ (0 ≤ r ↔ x ∈ xs)) ∧ w' = w := by
  have H := Aside0.mk h
  clear h
  go_enter Tryd.func124, Tryd.ntmps124
  go_wp2
  go_loop [8] (fun v => ∃ k : Nat, k ≤ xs.length ∧ v = .int .i64 k ∧ Aside0 (∀ (i : Nat) (h : i < xs.length), i < k → x ≠ xs[i])) (fun v => xs.length - (intOf v).toNat)
  case atStart => exact ⟨0, Nat.zero_le _, rfl, ⟨fun i _ hi => absurd hi (Nat.not_lt_zero _)⟩⟩
  case round =>
    obtain ⟨k, hk, rfl, hall⟩ := hrel
    by_cases hlt : k < xs.length
    · obtain ⟨ad, e, hc⟩ := str_at H.out k hlt
      subst e
      go_wp2
      · go_ret
        have g := bytes_of (show (x.toList == (xs[k]).toList) = true by assumption)
        refine ⟨⟨_, rfl, fun _ => ?_, fun _ => by omega⟩, rfl⟩
        rw [of_decide_eq_true g]
        exact List.getElem_mem _
      · go_round
        case rel =>
          have g := bytes_of (show (x.toList == (xs[k]).toList) = false by assumption)
          exact ⟨k + 1, by omega, by go_num, ⟨fun i hl hi => by
            rcases Nat.lt_or_ge i k with h | h
            · exact hall.out i hl h
            · obtain rfl : i = k := by omega
              exact of_decide_eq_false g⟩⟩
        case measure => simp [intOf]; omega
    · go_wp2
      go_ret
      refine ⟨⟨_, rfl, fun h => by omega, fun h => ?_⟩, rfl⟩
      obtain ⟨i, hi, he⟩ := List.mem_iff_getElem.1 h
      exact absurd he.symm (hall.out i hi (by omega))

theorem contains_calls (A : Option Addr) (c : Nat) (xs : List ByteArray) (x : ByteArray) (w : World) (h : Kd.string.C w A xs.length xs) (hn : xs.length ≤ 9223372036854775807) :
    Calls Tryd.prog 99 #[.slice A xs.length c, .string x] w fun e w' => e = .returned (.bool (decide (x ∈ xs))) ∧ w' = w := by
  have H := Aside0.mk h
  clear h
  go_enter Tryd.func99, Tryd.ntmps99
  go_wp2_with (go_at_call 124; refine (index_calls _ _ _ _ _ H.out hn).mono ?_; rintro e w' ⟨⟨r, rfl, hr⟩, rfl⟩; have hR := Aside0.mk hr; clear hr)
  go_ret
  exact ⟨by rw [decide_eq_decide.2 hR.out.symm]; rfl, rfl⟩

def extraB (c : Int) : Bool := decide (c = 46) || decide (c = 95) || decide (c = 58) || decide (c = 47) || decide (c = 64) || decide (c = 45)
theorem extra_of (b : UInt8) : Lib.indexByte [46, 95, 58, 47, 64, 45] b < 0 ↔ extraB (b.toNat : Int) = false := by
  have h : ∀ n : Fin 256, Lib.indexByte [46, 95, 58, 47, 64, 45] (UInt8.ofNat n) < 0 ↔ extraB ((UInt8.ofNat n).toNat : Int) = false := by decide +kernel
  have := h ⟨b.toNat, b.toNat_lt⟩
  simpa using this
theorem ib_calls (b : UInt8) (w : World) : Calls Tryd.prog 123 #[.string ⟨#[46, 95, 58, 47, 64, 45]⟩, .int .u8 (b.toNat : Int)] w fun e w' => Aside0 (∃ r : Int, e = .returned (.int .i64 r) ∧ (r < 0 ↔ extraB (b.toNat : Int) = false)) ∧ w' = w := by
  refine (Tryd.strings_IndexByte ⟨#[46, 95, 58, 47, 64, 45]⟩ (b.toNat : Int) w).mono ?_
  rintro e w' ⟨rfl, rfl⟩
  exact ⟨⟨_, rfl, by simpa using extra_of b⟩, rfl⟩
theorem wordC_eq (c : Int) : wordC c = (plainB c || (decide (65 ≤ c) && decide (c ≤ 90)) || extraB c) := by simp only [wordC, extraB, Bool.or_assoc]

theorem word_bad {s : ByteArray} {k : Nat} (hk : k < s.size) (h : wordC (byteAt s k) = false) : wordB s = false := by
  unfold wordB
  rw [Bool.and_eq_false_iff]
  exact .inr (decide_eq_false fun g => by have := g k hk; rw [h] at this; cases this)

theorem word_calls (s : ByteArray) (hs : s.size ≤ 140737488351232) (w : World) :
    Calls Tryd.prog 98 #[.string s] w fun e w' => e = .returned (.bool (wordB s)) ∧ w' = w := by
  have hE := isEmpty_iff s
  by_cases h0 : s.size = 0
  · have e1 : s.toList.isEmpty = true := by rw [hE]; simp [h0]
    clear hE
    go_enter Tryd.func98, Tryd.ntmps98
    go_wp2_with fail
    go_ret
    exact ⟨by simp [wordB, h0], rfl⟩
  have e1 : s.toList.isEmpty = false := by rw [hE]; simp [h0]
  have p0 : 0 < s.size := by omega
  clear hE h0
  go_enter Tryd.func98, Tryd.ntmps98
  go_wp2_with fail
  · go_ret
    have : (64 : Int) < s.size := by assumption
    exact ⟨by simp [wordB]; omega, rfl⟩
  · go_ret
    have g := bytes_lit (show (s.toList == ([45] : List UInt8)) = true by assumption)
    exact ⟨by simp [wordB, of_decide_eq_true g], rfl⟩
  have l1 : (s.size : Int) ≤ 64 := by assumption
  have g := bytes_lit (show (s.toList == ([45] : List UInt8)) = false by assumption)
  have l2 := Aside0.mk (of_decide_eq_false g)
  clear g
  go_loop [18] (fun v => ∃ k : Nat, k ≤ s.size ∧ v = .int .i64 k ∧ Aside0 (∀ i : Nat, i < k → wordC (byteAt s i) = true)) (fun v => s.size - (intOf v).toNat)
  case atStart => exact ⟨0, Nat.zero_le _, rfl, ⟨fun i hi => absurd hi (Nat.not_lt_zero _)⟩⟩
  case round =>
    obtain ⟨k, hk, rfl, hall⟩ := hrel
    by_cases hlt : k < s.size
    · have hbk : ((s[k]).toNat : Int) = byteAt s k := byte_at s k hlt
      have BK := Aside0.mk hbk
      clear hbk
      go_wp2_with (first | (go_at_call 101; refine (plain_calls _ _).mono ?_; rintro e w' ⟨rfl, rfl⟩) | (go_at_call 123; refine (ib_calls _ _).mono ?_; rintro e w' ⟨⟨r, rfl, hr⟩, rfl⟩; have HR := Aside0.mk hr; clear hr))
      · go_ret
        have g : wordC ((s[k]).toNat) = false := by
          have g0 := HR.out.1 (by assumption)
          have g1 : plainB ((s[k]).toNat) = false := by assumption
          have g2 : ((s[k]).toNat : Int) < 65 := by assumption
          rw [wordC_eq, g0, g1]; simp; omega
        rw [BK.out] at g
        exact ⟨by rw [word_bad hlt g]; rfl, rfl⟩
      · go_round
        case rel =>
          have g : wordC ((s[k]).toNat) = true := by
            have g0 : extraB ((s[k]).toNat : Int) = true := by
              have := HR.out
              have g3 : 0 ≤ r := by assumption
              cases h : extraB ((s[k]).toNat : Int) with
              | true => rfl
              | false => have := this.2 h; omega
            rw [wordC_eq, g0]; simp
          rw [BK.out] at g
          exact ⟨k + 1, by omega, by go_num, ⟨upto_succ hall.out g⟩⟩
        case measure => simp [intOf]; omega
      · go_ret
        have g : wordC ((s[k]).toNat) = false := by
          have g0 := HR.out.1 (by assumption)
          have g1 : plainB ((s[k]).toNat) = false := by assumption
          have g2 : 90 < ((s[k]).toNat : Int) := by assumption
          rw [wordC_eq, g0, g1]; simp; omega
        rw [BK.out] at g
        exact ⟨by rw [word_bad hlt g]; rfl, rfl⟩
      · go_round
        case rel =>
          have g : wordC ((s[k]).toNat) = true := by
            have g0 : extraB ((s[k]).toNat : Int) = true := by
              have := HR.out
              have g3 : 0 ≤ r := by assumption
              cases h : extraB ((s[k]).toNat : Int) with
              | true => rfl
              | false => have := this.2 h; omega
            rw [wordC_eq, g0]; simp
          rw [BK.out] at g
          exact ⟨k + 1, by omega, by go_num, ⟨upto_succ hall.out g⟩⟩
        case measure => simp [intOf]; omega
      · go_round
        case rel =>
          have g : wordC ((s[k]).toNat) = true := by
            have g1 : ¬ ((s[k]).toNat : Int) < 65 := by assumption
            have g2 : ¬ 90 < ((s[k]).toNat : Int) := by assumption
            rw [wordC_eq]; simp; omega
          rw [BK.out] at g
          exact ⟨k + 1, by omega, by go_num, ⟨upto_succ hall.out g⟩⟩
        case measure => simp [intOf]; omega
      · go_round
        case rel =>
          have g : wordC ((s[k]).toNat) = true := by
            have g1 : plainB ((s[k]).toNat) = true := by assumption
            rw [wordC_eq, g1]; simp
          rw [BK.out] at g
          exact ⟨k + 1, by omega, by go_num, ⟨upto_succ hall.out g⟩⟩
        case measure => simp [intOf]; omega
    · go_wp2_with fail
      go_ret
      refine ⟨?_, rfl⟩
      have : wordB s = true := by
        have ha := hall.out
        obtain rfl : k = s.size := by omega
        simp [wordB]
        exact ⟨⟨⟨by omega, by omega⟩, l2.out⟩, ha⟩
      rw [this]; rfl

theorem contains_take (ad : Addr) (c : Nat) (xs : List ByteArray) (k : Nat) (x : ByteArray) (w : World) (h : Kd.string.C w (some ad) xs.length xs) (hn : xs.length ≤ 9223372036854775807) (hk : k ≤ xs.length) :
    Calls Tryd.prog 99 #[.slice (some ad) k c, .string x] w fun e w' => e = .returned (.bool (decide (x ∈ xs.take k))) ∧ w' = w := by
  have hl : (xs.take k).length = k := by rw [List.length_take]; omega
  have := contains_calls (some ad) c (xs.take k) x w (Kd.C_take h hk) (by omega)
  rw [hl] at this
  exact this
theorem goodB_of {xs : List ByteArray} (h1 : ∀ i, i < xs.length → (∀ h : i < xs.length, wordB xs[i] = true ∧ xs[i] ∉ xs.take i)) (hne : xs ≠ [⟨#[42]⟩]) : goodB xs = decide ((xs.length : Int) ≤ 8) := by
  unfold goodB
  rw [decide_eq_false hne, Bool.false_or]
  have a1 : ∀ x ∈ xs, wordB x = true := fun x hx => by
    obtain ⟨i, hi, rfl⟩ := List.mem_iff_getElem.1 hx
    exact (h1 i hi hi).1
  have a2 : xs.Nodup := by
    rw [List.Nodup, List.pairwise_iff_getElem]
    intro i j hi hj hij he
    exact (h1 j hj hj).2 (List.mem_take_iff_getElem.2 ⟨i, by omega, he⟩)
  rw [decide_eq_true a1, decide_eq_true a2]
  simp
  omega
theorem goodB_no {xs : List ByteArray} {k : Nat} (hk : k < xs.length) (h : wordB xs[k] = false ∨ xs[k] ∈ xs.take k) (hne : xs ≠ [⟨#[42]⟩]) : goodB xs = false := by
  unfold goodB
  rw [decide_eq_false hne, Bool.false_or]
  rcases h with h | h
  · have : ¬ ∀ x ∈ xs, wordB x = true := fun g => by have := g _ (List.getElem_mem hk); rw [h] at this; cases this
    rw [decide_eq_false this]; simp
  · have : ¬ xs.Nodup := fun g => by
      obtain ⟨i, hi, he⟩ := List.mem_take_iff_getElem.1 h
      rw [List.Nodup, List.pairwise_iff_getElem] at g
      exact g i k (by omega) hk (by omega) he
    rw [decide_eq_false this]; simp

theorem addr0 (a : Addr) : a.add 0 = a := rfl
set_option maxRecDepth 100000 in
theorem good_calls (A : Option Addr) (c : Nat) (xs : List ByteArray) (w : World) (h : Kd.string.C w A xs.length xs) (hn : xs.length ≤ 9223372036854775807) (hc : xs.length ≤ c) (hx : ∀ x ∈ xs, x.size ≤ 140737488351232) :
    Calls Tryd.prog 66 #[.slice A xs.length c] w fun e w' => e = .returned (.bool (goodB xs)) ∧ w' = w := by
  have H := Aside0.mk h
  have HX := Aside0.mk hx
  clear h hx
  by_cases hpos : 0 < xs.length
  · obtain ⟨ad, e, hc0⟩ := str_at H.out 0 hpos
    rw [addr0] at hc0
    subst e
    by_cases hs : xs = [⟨#[42]⟩]
    · subst hs
      go_enter Tryd.func66, Tryd.ntmps66
      go_wp2_with fail
      go_ret
      exact ⟨rfl, rfl⟩
    have HN := Aside0.mk hs
    clear hs
    by_cases h1 : (xs.length : Int) = 1
    · have e1 : ((xs.length : Int) == 1) = true := beq_iff_eq.2 h1
      have e2 : ((xs[0]).toList == ([42] : List UInt8)) = false := by
        cases k : ((xs[0]).toList == ([42] : List UInt8)) with
        | false => rfl
        | true =>
          have g := of_decide_eq_true (bytes_lit k)
          obtain ⟨x, hx⟩ := List.length_eq_one_iff.1 (show xs.length = 1 by omega)
          simp only [hx, List.getElem_cons_zero] at g
          exact absurd (by rw [hx, g]) HN.out
      clear h1
      go_enter Tryd.func66, Tryd.ntmps66
      go_wp2_with fail
      clear hc0
      go_loop [16] (fun v => ∃ k : Nat, k ≤ xs.length ∧ v = .int .i64 k ∧ Aside0 (∀ i, i < k → (∀ h : i < xs.length, wordB xs[i] = true ∧ xs[i] ∉ xs.take i))) (fun v => xs.length - (intOf v).toNat)
      case atStart => exact ⟨0, Nat.zero_le _, rfl, ⟨fun i hi => absurd hi (Nat.not_lt_zero _)⟩⟩
      case round =>
        obtain ⟨k, hk, rfl, hall⟩ := hrel
        by_cases hlt : k < xs.length
        · obtain ⟨ad', e, hc1⟩ := str_at H.out k hlt
          obtain rfl := Option.some.inj e
          clear e
          go_wp2_with (first | (go_at_call 98; refine (word_calls _ (HX.out _ (List.getElem_mem _)) _).mono ?_; rintro e w' ⟨rfl, rfl⟩) | (go_at_call 99; refine (contains_take _ _ xs _ _ _ H.out hn hk).mono ?_; rintro e w' ⟨rfl, rfl⟩))
          · go_ret
            exact ⟨by rw [goodB_no hlt (.inl (by assumption)) HN.out]; rfl, rfl⟩
          · go_ret
            exact ⟨by rw [goodB_no hlt (.inr (by assumption)) HN.out]; rfl, rfl⟩
          · go_round
            case rel =>
              have g1 : wordB xs[k] = true := by assumption
              have g2 : xs[k] ∉ xs.take k := by assumption
              exact ⟨k + 1, by omega, by go_num, ⟨upto_succ hall.out fun _ => ⟨g1, g2⟩⟩⟩
            case measure => simp [intOf]; omega
        · go_wp2_with fail
          go_ret
          refine ⟨?_, rfl⟩
          obtain rfl : k = xs.length := by omega
          rw [goodB_of hall.out HN.out]; rfl
    · have e1 : ((xs.length : Int) == 1) = false := beq_eq_false_iff_ne.2 h1
      clear h1
      go_enter Tryd.func66, Tryd.ntmps66
      go_wp2_with fail
      clear hc0
      go_loop [16] (fun v => ∃ k : Nat, k ≤ xs.length ∧ v = .int .i64 k ∧ Aside0 (∀ i, i < k → (∀ h : i < xs.length, wordB xs[i] = true ∧ xs[i] ∉ xs.take i))) (fun v => xs.length - (intOf v).toNat)
      case atStart => exact ⟨0, Nat.zero_le _, rfl, ⟨fun i hi => absurd hi (Nat.not_lt_zero _)⟩⟩
      case round =>
        obtain ⟨k, hk, rfl, hall⟩ := hrel
        by_cases hlt : k < xs.length
        · obtain ⟨ad', e, hc1⟩ := str_at H.out k hlt
          obtain rfl := Option.some.inj e
          clear e
          go_wp2_with (first | (go_at_call 98; refine (word_calls _ (HX.out _ (List.getElem_mem _)) _).mono ?_; rintro e w' ⟨rfl, rfl⟩) | (go_at_call 99; refine (contains_take _ _ xs _ _ _ H.out hn hk).mono ?_; rintro e w' ⟨rfl, rfl⟩))
          · go_ret
            exact ⟨by rw [goodB_no hlt (.inl (by assumption)) HN.out]; rfl, rfl⟩
          · go_ret
            exact ⟨by rw [goodB_no hlt (.inr (by assumption)) HN.out]; rfl, rfl⟩
          · go_round
            case rel =>
              have g1 : wordB xs[k] = true := by assumption
              have g2 : xs[k] ∉ xs.take k := by assumption
              exact ⟨k + 1, by omega, by go_num, ⟨upto_succ hall.out fun _ => ⟨g1, g2⟩⟩⟩
            case measure => simp [intOf]; omega
        · go_wp2_with fail
          go_ret
          refine ⟨?_, rfl⟩
          obtain rfl : k = xs.length := by omega
          rw [goodB_of hall.out HN.out]; rfl
  · obtain rfl : xs = [] := List.length_eq_zero_iff.1 (by omega)
    go_enter Tryd.func66, Tryd.ntmps66
    go_wp2_with fail
    refine wp_loop_rounds 1 ?_
    rw [rounds_succ]
    go_wp2_with fail
    go_ret
    exact ⟨rfl, rfl⟩
end Go.Proofs.YtcgadbojojkchaaDoor.U
