/- The walk of usherref10.Small: it answers; what it says yes to is small. -/
import Derived.Test.YtcgadbojojkchaaDoorWe
set_option linter.unusedVariables false
set_option linter.unusedSimpArgs false
namespace Go.Proofs.YtcgadbojojkchaaDoor.U
open Go.RowKit Go.Proofs.YtcgadbojojkchaaDoorW.PrintWords Go.Proofs.YtcgadbojojkchaaDoorW.PrintLast Go.Proofs.YtcgadbojojkchaaDoorW.PrintMore

def listSm (l : List ByteArray) : Prop := l.length ≤ 40 ∧ ∀ i (h : i < l.length), l[i].size ≤ 1000
def partOf (r : Rule) (j : Nat) : List ByteArray := match j with
  | 0 => r.users
  | 1 => r.groups
  | 2 => r.verbs
  | 3 => r.resources
  | _ => r.spaces
def ruleSm (r : Rule) : Prop := ∀ j, j < 5 → listSm (partOf r j)
def schemaSm (s : Schema) : Prop := s.rules.length ≤ 40 ∧ s.name.size ≤ 1000 ∧ s.level.size ≤ 1000 ∧ ∀ i (h : i < s.rules.length), ruleSm s.rules[i]
def SmallC (c : Config) : Prop := c.levels.length ≤ 40 ∧ c.schemas.length ≤ 80 ∧ (∀ i (h : i < c.levels.length), c.levels[i].name.size ≤ 1000) ∧ ∀ i (h : i < c.schemas.length), schemaSm c.schemas[i]
theorem len_of {α : Type} {d : Kd α} {w : World} {A : Option Addr} {n : Nat} {xs : List α} (h : d.C w A n xs) : n ≤ 9223372036854775807 := h.2.1

def SmallPost (c : Config) (w : World) (e : Ending) (w' : World) : Prop := (∃ b : Bool, e = .returned (.bool b) ∧ (b = true → SmallC c)) ∧ Below w.heap.size w w'

set_option maxHeartbeats 16000000 in
set_option maxRecDepth 100000 in
theorem small_calls (c : Config) (A B : Option Addr) (n m : Nat) (w : World) (hl : kLevel.C w A c.levels.length c.levels) (hn : c.levels.length ≤ n)
    (hs : kSchema.C w B c.schemas.length c.schemas) (hm : c.schemas.length ≤ m) :
    Calls Tryd.prog 13 #[.agg #[.int .i64 c.total, .int .i64 c.period, .int .i64 c.perSeat, .int .i64 c.most, .slice A c.levels.length n, .slice B c.schemas.length m]] w (SmallPost c w) := by
  have hll := len_of hl
  have hsl := len_of hs
  have HL := Aside0.mk hl
  have HS := Aside0.mk hs
  clear hl hs
  have hu25 := Tryd.underlying25
  have hu40 := Tryd.underlying40
  have hu46 := Tryd.underlying46
  have hu53 := Tryd.underlying53
  by_cases h1 : c.levels.length ≤ 40 ∧ c.schemas.length ≤ 80
  · have e1 : decide (40 < (c.levels.length : Int)) = false := decide_eq_false (by omega)
    have e2 : decide (80 < (c.schemas.length : Int)) = false := decide_eq_false (by omega)
    have H1 := Aside0.mk h1
    clear h1
    go_enter Tryd.func13, Tryd.ntmps13
    go_wp2_with fail
    obtain ⟨w1, hw1⟩ : ∃ w1, w1 = w.alloc (.cells #[.int .i64 c.total, .int .i64 c.period, .int .i64 c.perSeat, .int .i64 c.most, .slice A c.levels.length n, .slice B c.schemas.length m] 25) := ⟨_, rfl⟩
    have B1 : Aside0 (Below w.heap.size w w1) := ⟨by rw [hw1]; exact below_alloc (Below.refl _ _) _⟩
    have X1 : Aside0 (w1.heap[w.heap.size]? = some (.cells #[.int .i64 c.total, .int .i64 c.period, .int .i64 c.perSeat, .int .i64 c.most, .slice A c.levels.length n, .slice B c.schemas.length m] 25 (0, 0))) := ⟨by rw [hw1]; exact blk_new _ _⟩
    rw [← hw1]
    clear hw1
    go_loop [4] (fun v => ∃ k : Nat, k ≤ c.levels.length ∧ v = .int .i64 k ∧ Aside0 (∀ i (h : i < c.levels.length), i < k → c.levels[i].name.size ≤ 1000)) (fun v => c.levels.length - (intOf v).toNat)
    case atStart => exact ⟨0, Nat.zero_le _, rfl, ⟨fun i _ hi => absurd hi (Nat.not_lt_zero _)⟩⟩
    case round =>
      obtain ⟨k, hk, rfl, hall⟩ := hrel
      have x4 : w1.cell? ⟨w.heap.size, 4, none⟩ = some (.slice A c.levels.length n) := (blk_cell X1.out 4).trans rfl
      by_cases hlt : k < c.levels.length
      · obtain ⟨ad, e, h0, _⟩ := level_at (Kd.C_below HL.out B1.out) k hlt
        subst e
        go_wp2_with fail
        · go_ret
          exact ⟨⟨false, rfl, fun h => by cases h⟩, B1.out⟩
        · go_round
          case rel =>
            have q : (c.levels[k].name.size : Int) ≤ 1000 := by assumption
            exact ⟨k + 1, by omega, by go_num, ⟨fun i h hi => by
              rcases Nat.lt_or_ge i k with g | g
              · exact hall.out i h g
              · obtain rfl : i = k := by omega
                omega⟩⟩
          case measure => simp [intOf]; omega
      · have HA : Aside0 (∀ i (h : i < c.levels.length), c.levels[i].name.size ≤ 1000) := ⟨fun i h => hall.out i h (by omega)⟩
        clear hall
        go_wp2_with fail
        clear x4
        go_loopw [3, 5] (fun u v wr => ∃ (k : Nat) (z : Int), k ≤ c.schemas.length ∧ u = .int .i64 z ∧ v = .int .i64 k ∧ Aside0 (∀ i (h : i < c.schemas.length), i < k → schemaSm c.schemas[i]) ∧ Aside0 (Below w1.heap.size w1 wr)) (fun _ v _ => c.schemas.length - (intOf v).toNat)
        case atStart => exact ⟨0, 0, Nat.zero_le _, rfl, rfl, ⟨fun i _ hi => absurd hi (Nat.not_lt_zero _)⟩, ⟨Below.refl _ _⟩⟩
        case round =>
          obtain ⟨wo, rfl⟩ : ∃ wo : World, wo = wr := ⟨_, rfl⟩
          obtain ⟨k, z, hk, rfl, rfl, hall, HB⟩ := hrel
          have x5 : wo.cell? ⟨w.heap.size, 5, none⟩ = some (.slice B c.schemas.length m) := (blk_cell (blk_below X1.out HB.out) 5).trans rfl
          by_cases hlt : k < c.schemas.length
          · obtain ⟨ad, A4, c4, e, h0, h1, h2, h3, h4, g4⟩ := schema_at (Kd.C_below HS.out (below_step B1.out HB.out)) k hlt
            subst e
            have G4 := Aside0.mk g4
            clear g4
            have hrl := len_of G4.out.2
            by_cases hq : c.schemas[k].rules.length ≤ 40 ∧ c.schemas[k].name.size ≤ 1000 ∧ c.schemas[k].level.size ≤ 1000
            · have e1 : decide (40 < (c.schemas[k].rules.length : Int)) = false := decide_eq_false (by omega)
              have e2 : decide (1000 < (c.schemas[k].name.size : Int)) = false := decide_eq_false (by omega)
              have e3 : decide (1000 < (c.schemas[k].level.size : Int)) = false := decide_eq_false (by omega)
              have HQ := Aside0.mk hq
              clear hq
              go_wp2_with fail
              clear x5 h0 h1 h2 h3 h4 e1 e2 e3
              obtain ⟨w2, hw2⟩ : ∃ w2, w2 = wo.alloc (.cells #[.string c.schemas[k].name, .string c.schemas[k].level, .int .i64 c.schemas[k].rank, .int .i64 c.schemas[k].tells, .slice A4 c.schemas[k].rules.length c4] 46) := ⟨_, rfl⟩
              have B2 : Aside0 (Below w1.heap.size w1 w2) := ⟨by rw [hw2]; exact below_alloc HB.out _⟩
              have X2 : Aside0 (w2.heap[wo.heap.size]? = some (.cells #[.string c.schemas[k].name, .string c.schemas[k].level, .int .i64 c.schemas[k].rank, .int .i64 c.schemas[k].tells, .slice A4 c.schemas[k].rules.length c4] 46 (0, 0))) := ⟨by rw [hw2]; exact blk_new _ _⟩
              have G5 : Aside0 (kRule.C w2 A4 c.schemas[k].rules.length c.schemas[k].rules) := ⟨by rw [hw2]; exact Kd.C_below G4.out.2 (below_alloc (Below.refl _ _) _)⟩
              rw [← hw2]
              clear hw2
              go_loopw [3, 7] (fun u v wr => ∃ (j : Nat) (z : Int), j ≤ c.schemas[k].rules.length ∧ u = .int .i64 z ∧ v = .int .i64 j ∧ Aside0 (∀ i (h : i < c.schemas[k].rules.length), i < j → ruleSm c.schemas[k].rules[i]) ∧ Aside0 (Below w2.heap.size w2 wr)) (fun _ v _ => c.schemas[k].rules.length - (intOf v).toNat)
              case atStart => exact ⟨0, _, Nat.zero_le _, rfl, rfl, ⟨fun i _ hi => absurd hi (Nat.not_lt_zero _)⟩, ⟨Below.refl _ _⟩⟩
              case round =>
                obtain ⟨wp, rfl⟩ : ∃ wp : World, wp = wr := ⟨_, rfl⟩
                obtain ⟨j, z2, hj, rfl, rfl, hallr, HB2⟩ := hrel
                have x4 : wp.cell? ⟨wo.heap.size, 4, none⟩ = some (.slice A4 c.schemas[k].rules.length c4) := (blk_cell (blk_below X2.out HB2.out) 4).trans rfl
                by_cases hjl : j < c.schemas[k].rules.length
                · obtain ⟨ar, a0, c0, a1, c1, a2, c2, a3, c3, a5, c5, e, h0, h1, h2, h3, h4, g0, g1, g2, g3, g5⟩ := rule_at (Kd.C_below G5.out HB2.out) j hjl
                  subst e
                  have P0 := Aside0.mk g0
                  have P1 := Aside0.mk g1
                  have P2 := Aside0.mk g2
                  have P3 := Aside0.mk g3
                  have P4 := Aside0.mk g5
                  clear g0 g1 g2 g3 g5
                  go_wp2_with fail
                  clear x4 h0 h1 h2 h3 h4
                  obtain ⟨w3, hw3⟩ : ∃ w3, w3 = (wp.alloc (.cells #[.slice a0 c.schemas[k].rules[j].users.length c0, .slice a1 c.schemas[k].rules[j].groups.length c1, .slice a2 c.schemas[k].rules[j].verbs.length c2, .slice a3 c.schemas[k].rules[j].resources.length c3, .slice a5 c.schemas[k].rules[j].spaces.length c5] 53)).alloc (.cells #[.slice a0 c.schemas[k].rules[j].users.length c0, .slice a1 c.schemas[k].rules[j].groups.length c1, .slice a2 c.schemas[k].rules[j].verbs.length c2, .slice a3 c.schemas[k].rules[j].resources.length c3, .slice a5 c.schemas[k].rules[j].spaces.length c5] 51) := ⟨_, rfl⟩
                  have B3 : Aside0 (Below wp.heap.size wp w3) := ⟨by rw [hw3]; exact below_alloc (below_alloc (Below.refl _ _) _) _⟩
                  have X3 : Aside0 (w3.heap[wp.heap.size + 1]? = some (.cells #[.slice a0 c.schemas[k].rules[j].users.length c0, .slice a1 c.schemas[k].rules[j].groups.length c1, .slice a2 c.schemas[k].rules[j].verbs.length c2, .slice a3 c.schemas[k].rules[j].resources.length c3, .slice a5 c.schemas[k].rules[j].spaces.length c5] 51 (0, 0))) := ⟨by rw [hw3]; have := blk_new (wp.alloc (.cells #[.slice a0 c.schemas[k].rules[j].users.length c0, .slice a1 c.schemas[k].rules[j].groups.length c1, .slice a2 c.schemas[k].rules[j].verbs.length c2, .slice a3 c.schemas[k].rules[j].resources.length c3, .slice a5 c.schemas[k].rules[j].spaces.length c5] 53)) (.cells #[.slice a0 c.schemas[k].rules[j].users.length c0, .slice a1 c.schemas[k].rules[j].groups.length c1, .slice a2 c.schemas[k].rules[j].verbs.length c2, .slice a3 c.schemas[k].rules[j].resources.length c3, .slice a5 c.schemas[k].rules[j].spaces.length c5] 51); simpa using this⟩
                  rw [← hw3]
                  clear hw3
                  have PT : Aside0 (∀ q, q < 5 → ∃ aq cq, w3.cell? ⟨wp.heap.size + 1, q, none⟩ = some (.slice aq (partOf c.schemas[k].rules[j] q).length cq) ∧ Kd.string.C w3 aq (partOf c.schemas[k].rules[j] q).length (partOf c.schemas[k].rules[j] q)) := ⟨fun q hq => by
                    match q, hq with
                    | 0, _ => exact ⟨a0, c0, (blk_cell X3.out 0).trans rfl, Kd.C_below P0.out.2 B3.out⟩
                    | 1, _ => exact ⟨a1, c1, (blk_cell X3.out 1).trans rfl, Kd.C_below P1.out.2 B3.out⟩
                    | 2, _ => exact ⟨a2, c2, (blk_cell X3.out 2).trans rfl, Kd.C_below P2.out.2 B3.out⟩
                    | 3, _ => exact ⟨a3, c3, (blk_cell X3.out 3).trans rfl, Kd.C_below P3.out.2 B3.out⟩
                    | 4, _ => exact ⟨a5, c5, (blk_cell X3.out 4).trans rfl, Kd.C_below P4.out.2 B3.out⟩⟩
                  go_loop [3, 89] (fun u v => ∃ (q : Nat) (z : Int), q ≤ 5 ∧ u = .int .i64 z ∧ v = .int .i64 q ∧ Aside0 (∀ i, i < q → listSm (partOf c.schemas[k].rules[j] i))) (fun _ v => 5 - (intOf v).toNat)
                  case atStart => exact ⟨0, _, Nat.zero_le _, rfl, rfl, ⟨fun i hi => absurd hi (Nat.not_lt_zero _)⟩⟩
                  case round =>
                    obtain ⟨q, z3, hq5, rfl, rfl, hallq⟩ := hrel
                    by_cases hql : q < 5
                    · obtain ⟨aq, cq, y0, hC⟩ := PT.out q hql
                      obtain ⟨xs, hxs⟩ : ∃ xs, xs = partOf c.schemas[k].rules[j] q := ⟨_, rfl⟩
                      rw [← hxs] at y0 hC
                      have HX := Aside0.mk hxs
                      have HCq := Aside0.mk hC
                      have hxl := len_of hC
                      clear hxs hC
                      by_cases hx4 : xs.length ≤ 40
                      · have e1 : decide (40 < (xs.length : Int)) = false := decide_eq_false (by omega)
                        go_wp2_with fail
                        clear y0 e1
                        go_loop [3, 11] (fun u v => ∃ (i : Nat) (z : Int), i ≤ xs.length ∧ u = .int .i64 z ∧ v = .int .i64 i ∧ Aside0 (∀ p (h : p < xs.length), p < i → xs[p].size ≤ 1000)) (fun _ v => xs.length - (intOf v).toNat)
                        case atStart => exact ⟨0, _, Nat.zero_le _, rfl, rfl, ⟨fun i _ hi => absurd hi (Nat.not_lt_zero _)⟩⟩
                        case round =>
                          obtain ⟨i, z4, hi, rfl, rfl, hallx⟩ := hrel
                          by_cases hil : i < xs.length
                          · obtain ⟨ax, e, hc0⟩ := str_at HCq.out i hil
                            subst e
                            go_wp2_with fail
                            · go_ret
                              exact ⟨⟨false, rfl, fun h => by cases h⟩, below_step B1.out (below_step B2.out (below_step HB2.out B3.out))⟩
                            · go_round
                              case rel =>
                                have qq : (xs[i].size : Int) ≤ 1000 := by assumption
                                exact ⟨i + 1, _, by omega, rfl, by go_num, ⟨fun p h hp => by
                                  rcases Nat.lt_or_ge p i with g | g
                                  · exact hallx.out p h g
                                  · obtain rfl : p = i := by omega
                                    omega⟩⟩
                              case measure => simp [intOf]; omega
                          · go_wp2_with fail
                            go_round
                            case rel => exact ⟨q + 1, _, by omega, rfl, by go_num, ⟨upto_succ hallq.out (by rw [← HX.out]; exact ⟨hx4, fun p h => hallx.out p h (by omega)⟩)⟩⟩
                            case measure => simp [intOf]; omega
                      · have e1 : decide (40 < (xs.length : Int)) = true := decide_eq_true (by omega)
                        go_wp2_with fail
                        go_ret
                        exact ⟨⟨false, rfl, fun h => by cases h⟩, below_step B1.out (below_step B2.out (below_step HB2.out B3.out))⟩
                    · go_wp2_with fail
                      go_roundw
                      case rel => exact ⟨j + 1, _, by omega, rfl, by go_num, ⟨fun i h hi => by
                        rcases Nat.lt_or_ge i j with g | g
                        · exact hallr.out i h g
                        · obtain rfl : i = j := by omega
                          exact fun p hp => hallq.out p (by omega)⟩, ⟨below_step HB2.out B3.out⟩⟩
                      case measure => simp [intOf]; omega
                · go_wp2_with fail
                  go_roundw
                  case rel => exact ⟨k + 1, _, by omega, rfl, by go_num, ⟨fun i h hi => by
                    rcases Nat.lt_or_ge i k with g | g
                    · exact hall.out i h g
                    · obtain rfl : i = k := by omega
                      exact ⟨HQ.out.1, HQ.out.2.1, HQ.out.2.2, fun p h => hallr.out p h (by omega)⟩⟩, ⟨below_step B2.out HB2.out⟩⟩
                  case measure => simp [intOf]; omega
            · go_wp2_with fail
              all_goals try (exfalso; omega)
              all_goals go_ret
              all_goals exact ⟨⟨false, rfl, fun h => by cases h⟩, below_step B1.out (below_alloc HB.out _)⟩
          · have HSa : Aside0 (SmallC c) := ⟨H1.out.1, H1.out.2, HA.out, fun i h => hall.out i h (by omega)⟩
            go_wp2_with fail
            go_ret
            exact ⟨⟨_, rfl, fun _ => HSa.out⟩, below_step B1.out HB.out⟩
  · by_cases h2 : c.levels.length ≤ 40
    · have e1 : decide (40 < (c.levels.length : Int)) = false := decide_eq_false (by omega)
      have e2 : decide (80 < (c.schemas.length : Int)) = true := decide_eq_true (by omega)
      clear h1 h2
      go_enter Tryd.func13, Tryd.ntmps13
      go_wp2_with fail
      go_ret
      exact ⟨⟨false, rfl, fun h => by cases h⟩, below_alloc (Below.refl _ _) _⟩
    · have e1 : decide (40 < (c.levels.length : Int)) = true := decide_eq_true (by omega)
      clear h1 h2
      go_enter Tryd.func13, Tryd.ntmps13
      go_wp2_with fail
      go_ret
      exact ⟨⟨false, rfl, fun h => by cases h⟩, below_alloc (Below.refl _ _) _⟩
end Go.Proofs.YtcgadbojojkchaaDoor.U
