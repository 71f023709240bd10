/- The walk of print.Formed. -/
import Derived.Test.YtcgadbojojkchaaDoorWd
set_option linter.unusedVariables false
set_option linter.unusedSimpArgs false
namespace Go.Proofs.YtcgadbojojkchaaDoor.U
open Go.RowKit Go.Proofs.YtcgadbojojkchaaDoorW.PrintWords Go.Proofs.YtcgadbojojkchaaDoorW.PrintLast Go.Proofs.YtcgadbojojkchaaDoorW.PrintMore

theorem level_at {w : World} {A : Option Addr} {xs : List Level} (h : kLevel.C w A xs.length xs) (k : Nat) (hk : k < xs.length) :
    ∃ ad, A = some ad ∧ w.cell? (ad.add (k * 10)) = some (.string xs[k].name) ∧
      w.cell? ⟨(ad.add (k * 10)).block, (ad.add (k * 10)).off + 1, none⟩ = some (.int .i64 xs[k].kind) ∧
      w.cell? ⟨(ad.add (k * 10)).block, (ad.add (k * 10)).off + 2, none⟩ = some (.int .i64 xs[k].shares) ∧
      w.cell? ⟨(ad.add (k * 10)).block, (ad.add (k * 10)).off + 3, none⟩ = some (.int .i64 xs[k].lend) ∧
      w.cell? ⟨(ad.add (k * 10)).block, (ad.add (k * 10)).off + 4, none⟩ = some (.int .i64 xs[k].borrow) ∧
      w.cell? ⟨(ad.add (k * 10)).block, (ad.add (k * 10)).off + 5, none⟩ = some (.int .i64 xs[k].queues) ∧
      w.cell? ⟨(ad.add (k * 10)).block, (ad.add (k * 10)).off + 6, none⟩ = some (.int .i64 xs[k].hand) ∧
      w.cell? ⟨(ad.add (k * 10)).block, (ad.add (k * 10)).off + 7, none⟩ = some (.int .i64 xs[k].length) ∧
      w.cell? ⟨(ad.add (k * 10)).block, (ad.add (k * 10)).off + 8, none⟩ = some (.int .i64 xs[k].wait) ∧
      w.cell? ⟨(ad.add (k * 10)).block, (ad.add (k * 10)).off + 9, none⟩ = some (.int .i64 xs[k].guess) := by
  have e : rd_Level xs (k : Int) = xs[k] := by unfold rd_Level; rw [Int.toNat_natCast, List.getD_eq_getElem?_getD, List.getElem?_eq_getElem hk]; rfl
  have := at_Level h (k : Int) (by omega) (by omega)
  rw [e, Int.toNat_natCast] at this
  exact this
theorem schema_at {w : World} {A : Option Addr} {xs : List Schema} (h : kSchema.C w A xs.length xs) (k : Nat) (hk : k < xs.length) :
    ∃ ad A4 c4, A = some ad ∧ w.cell? (ad.add (k * 5)) = some (.string xs[k].name) ∧
      w.cell? ⟨(ad.add (k * 5)).block, (ad.add (k * 5)).off + 1, none⟩ = some (.string xs[k].level) ∧
      w.cell? ⟨(ad.add (k * 5)).block, (ad.add (k * 5)).off + 2, none⟩ = some (.int .i64 xs[k].rank) ∧
      w.cell? ⟨(ad.add (k * 5)).block, (ad.add (k * 5)).off + 3, none⟩ = some (.int .i64 xs[k].tells) ∧
      w.cell? ⟨(ad.add (k * 5)).block, (ad.add (k * 5)).off + 4, none⟩ = some (.slice A4 xs[k].rules.length c4) ∧
      (xs[k].rules.length ≤ c4 ∧ kRule.C w A4 xs[k].rules.length xs[k].rules) := by
  have e : rd_Schema xs (k : Int) = xs[k] := by unfold rd_Schema; rw [Int.toNat_natCast, List.getD_eq_getElem?_getD, List.getElem?_eq_getElem hk]; rfl
  have := at_Schema h (k : Int) (by omega) (by omega)
  rw [e, Int.toNat_natCast] at this
  obtain ⟨ad, A4, c4, e, h0, h1, h2, h3, h4, l4, g4⟩ := this
  exact ⟨ad, A4, c4, e, h0, h1, h2, h3, h4, l4, g4⟩

structure ConfigS (c : Config) : Prop where
  llen : c.levels.length ≤ 9223372036854775807
  levels : ∀ l ∈ c.levels, l.name.size ≤ 140737488351232
  slen : c.schemas.length ≤ 9223372036854775807
  schemas : ∀ s ∈ c.schemas, SchemaS s

/-- The tests at formedB's head. -/
def headB (c : Config) : Bool := within c.total 0 4096 && within c.period 0 1000 && within c.perSeat 0 1048576 && within c.most 0 16 &&
  (decide (c.perSeat = 0) == decide (c.most = 0)) && decide (c.levels.length ≤ 16) && decide (c.schemas.length ≤ 32)

theorem formedB_eq (c : Config) : formedB c = (headB c && (c.levels.all levelB && decide (c.levels.map (·.name)).Nodup) && (c.schemas.all schemaB && decide (c.schemas.map (·.name)).Nodup)) := by
  simp only [formedB, headB, Bool.and_assoc]
theorem formed_head {c : Config} (h : headB c = false) : formedB c = false := by rw [formedB_eq, h]; simp
theorem all_of {α : Type} {f : α → Bool} {l : List α} (h : ∀ i (hi : i < l.length), f l[i] = true) : l.all f = true := by
  rw [List.all_eq_true]
  intro x hx
  obtain ⟨i, hi, rfl⟩ := List.mem_iff_getElem.1 hx
  exact h i hi
theorem nodup_of {α : Type} {g : α → ByteArray} {l : List α} (h : ∀ i (hi : i < l.length) j (hj : j < l.length), j < i → g l[j] ≠ g l[i]) : decide (l.map g).Nodup = true := by
  apply decide_eq_true
  rw [List.Nodup, List.pairwise_iff_getElem]
  intro i j hi hj hij
  rw [List.getElem_map, List.getElem_map]
  exact h j (by simpa using hj) i (by simpa using hi) hij
theorem nodup_no {α : Type} {g : α → ByteArray} {l : List α} {i j : Nat} (hi : i < l.length) (hj : j < l.length) (hji : j < i) (he : g l[j] = g l[i]) : decide (l.map g).Nodup = false := by
  apply decide_eq_false
  intro h
  rw [List.Nodup, List.pairwise_iff_getElem] at h
  have := h j i (by simpa using hj) (by simpa using hi) hji
  rw [List.getElem_map, List.getElem_map] at this
  exact this he
theorem formed_level {c : Config} {k : Nat} (hk : k < c.levels.length) (h : levelB c.levels[k] = false) : formedB c = false := by
  have : c.levels.all levelB = false := by rw [List.all_eq_false]; exact ⟨_, List.getElem_mem hk, by rw [h]; simp⟩
  rw [formedB_eq, this]; simp
theorem formed_schema {c : Config} {k : Nat} (hk : k < c.schemas.length) (h : schemaB c.schemas[k] = false) : formedB c = false := by
  have : c.schemas.all schemaB = false := by rw [List.all_eq_false]; exact ⟨_, List.getElem_mem hk, by rw [h]; simp⟩
  rw [formedB_eq, this]; simp
theorem formed_levels2 {c : Config} {i j : Nat} (hi : i < c.levels.length) (hj : j < c.levels.length) (hji : j < i) (he : c.levels[j].name = c.levels[i].name) : formedB c = false := by
  rw [formedB_eq, nodup_no (g := (·.name)) hi hj hji he]; simp
theorem formed_schemas2 {c : Config} {i j : Nat} (hi : i < c.schemas.length) (hj : j < c.schemas.length) (hji : j < i) (he : c.schemas[j].name = c.schemas[i].name) : formedB c = false := by
  rw [formedB_eq, nodup_no (g := (·.name)) hi hj hji he]; simp

set_option maxHeartbeats 4000000 in
set_option maxRecDepth 100000 in
theorem formed_calls (c : Config) (A B : Option Addr) (n m : Nat) (w : World) (hl : kLevel.C w A c.levels.length c.levels) (hn : c.levels.length ≤ n)
    (hs : kSchema.C w B c.schemas.length c.schemas) (hm : c.schemas.length ≤ m) (hc : ConfigS c) :
    Calls Tryd.prog 17 #[.agg #[.int .i64 c.total, .int .i64 c.period, .int .i64 c.perSeat, .int .i64 c.most, .slice A c.levels.length n, .slice B c.schemas.length m]] w fun e w' =>
      e = .returned (.bool (formedB c)) ∧ Below w.heap.size w w' := by
  have HL := Aside0.mk hl
  have HS := Aside0.mk hs
  have HC := Aside0.mk hc
  have hll := hc.llen
  have hsl := hc.slen
  clear hl hs hc
  have hu25 := Tryd.underlying25
  have hu40 := Tryd.underlying40
  have hu46 := Tryd.underlying46
  go_enter Tryd.func17, Tryd.ntmps17
  go_wp2_with (go_at_call 41; refine (within_calls _ _ _ _).mono ?_; rintro e w' ⟨rfl, rfl⟩)
  iterate 7
    · go_ret
      exact ⟨by rw [formed_head (by first | (simp_all [headB]; done) | (unfold headB; rw [show (decide (c.perSeat = 0) == decide (c.most = 0)) = false from beq_eq_false_iff_ne.2 (show ¬ (c.perSeat == 0) = (c.most == 0) by assumption)]; simp; done) | (simp_all [headB]; omega))]; rfl, by repeat (first | exact Below.refl _ _ | apply below_alloc)⟩
  rename within c.total 0 4096 = true => q1
  rename within c.period 0 1000 = true => q2
  rename within c.perSeat 0 1048576 = true => q3
  rename (!within c.most 0 16) = false => q4
  rename (c.perSeat == 0) = (c.most == 0) => q5
  rename (c.schemas.length : Int) ≤ 32 => q6
  rename (c.levels.length : Int) ≤ 16 => q7
  have q4' : within c.most 0 16 = true := by simpa using q4
  have HQ : Aside0 (headB c = true) := ⟨by unfold headB; rw [q1, q2, q3, q4', show (decide (c.perSeat = 0) == decide (c.most = 0)) = true from beq_iff_eq.2 q5, decide_eq_true (show c.levels.length ≤ 16 by omega), decide_eq_true (show c.schemas.length ≤ 32 by omega)]; rfl⟩
  clear q1 q2 q3 q4 q4' q5 q6 q7
  obtain ⟨w1, hw1⟩ : ∃ w1, w1 = w.alloc (.cells #[.int .i64 c.total, .int .i64 c.period, .int .i64 c.perSeat, .int .i64 c.most, .slice A c.levels.length n, .slice B c.schemas.length m] 25) := ⟨_, rfl⟩
  have hB1 : Below w.heap.size w w1 := by rw [hw1]; exact below_alloc (Below.refl _ _) _
  have hX1 : w1.heap[w.heap.size]? = some (.cells #[.int .i64 c.total, .int .i64 c.period, .int .i64 c.perSeat, .int .i64 c.most, .slice A c.levels.length n, .slice B c.schemas.length m] 25 (0, 0)) := by rw [hw1]; exact blk_new _ _
  rw [← hw1]
  have HB1 := Aside0.mk hB1
  have HX1 := Aside0.mk hX1
  clear hB1 hX1 hw1
  go_loopw [55] (fun v wr => ∃ k : Nat, k ≤ c.levels.length ∧ v = .int .i64 k ∧ Aside0 (∀ i (hi : i < c.levels.length), i < k → levelB c.levels[i] = true ∧ ∀ j (hj : j < c.levels.length), j < i → c.levels[j].name ≠ c.levels[i].name) ∧ Aside0 (Below w1.heap.size w1 wr)) (fun v _ => c.levels.length - (intOf v).toNat)
  case atStart => exact ⟨0, Nat.zero_le _, rfl, ⟨fun i _ hi => absurd hi (Nat.not_lt_zero _)⟩, ⟨Below.refl _ _⟩⟩
  case round =>
    obtain ⟨wo, rfl⟩ : ∃ wo : World, wo = wr := ⟨_, rfl⟩
    obtain ⟨k, hk, rfl, hall, HB⟩ := hrel
    by_cases hlt : k < c.levels.length
    · have HLr := Aside0.mk (Kd.C_below HL.out (below_step HB1.out HB.out))
      have HXr := Aside0.mk (blk_below HX1.out HB.out)
      obtain ⟨ad, e, h0, h1, h2, h3, h4, h5, h6, h7, h8, h9⟩ := level_at HLr.out k hlt
      subst e
      have x4 : wo.cell? ⟨w.heap.size, 4, none⟩ = some (.slice (some ad) c.levels.length n) := (blk_cell HXr.out 4).trans rfl
      have hsz := HC.out.levels _ (List.getElem_mem hlt)
      go_wp2_with (go_at_call 42; refine (level_calls c.levels[k] hsz _).mono ?_; rintro e w2 ⟨rfl, hb1⟩; have HW := Aside0.mk hb1; clear hb1; have HX2 := Aside0.mk (blk_below (blk_alloc HXr.out _) HW.out); have HY2 := Aside0.mk (blk_below (blk_new wo _) HW.out); have x4' : w2.cell? ⟨w.heap.size, 4, none⟩ = some (.slice (some ad) c.levels.length n) := (blk_cell HX2.out 4).trans rfl; have HB2 := Aside0.mk (below_step (below_alloc (Below.refl wo.heap.size wo) _) HW.out))
      · go_ret
        have g : levelB c.levels[k] = false := by
          have := show (!levelB c.levels[k]) = true by assumption
          cases q : levelB c.levels[k] with
          | false => rfl
          | true => rw [q] at this; cases this
        exact ⟨by rw [formed_level hlt g]; rfl, below_step HB1.out (below_step HB.out HB2.out)⟩
      rename (!levelB c.levels[k]) = false => q8
      have HG : Aside0 (levelB c.levels[k] = true) := ⟨by
        cases q : levelB c.levels[k] with
        | true => rfl
        | false => rw [q] at q8; cases q8⟩
      clear q8 x4 x4' h0 h1 h2 h3 h4 h5 h6 h7 h8 h9
      go_loopw [68] (fun v W => ∃ j : Nat, j ≤ k ∧ v = .int .i64 j ∧ Aside0 (∀ i (hi : i < c.levels.length), i < j → c.levels[i].name ≠ c.levels[k].name) ∧ Aside0 (Below w2.heap.size w2 W)) (fun v _ => k - (intOf v).toNat)
      case atStart => exact ⟨0, Nat.zero_le _, rfl, ⟨fun i _ hi => absurd hi (Nat.not_lt_zero _)⟩, ⟨Below.refl _ _⟩⟩
      case round =>
        obtain ⟨j, hj, rfl, hne, HB3⟩ := hrel
        have HB4 := Aside0.mk (below_step HB.out (below_step HB2.out HB3.out))
        have HLr := Aside0.mk (Kd.C_below HL.out (below_step HB1.out HB4.out))
        have HXr := Aside0.mk (blk_below HX2.out HB3.out)
        have HYr := Aside0.mk (blk_below HY2.out HB3.out)
        have y0 : wr.cell? ⟨wo.heap.size, 0, none⟩ = some (.string c.levels[k].name) := (blk_cell HYr.out 0).trans rfl
        have z1 : wo.heap.size < wr.heap.size := blk_lt HYr.out
        by_cases hjl : j < k
        · obtain ⟨ad', e, h0, h1, h2, h3, h4, h5, h6, h7, h8, h9⟩ := level_at HLr.out j (by omega)
          obtain rfl := Option.some.inj e
          clear e
          go_wp2_with fail
          · go_ret
            have g := of_decide_eq_true (bytes_of (show (c.levels[j].name.toList == c.levels[k].name.toList) = true by assumption))
            exact ⟨by rw [formed_levels2 hlt (by omega) hjl g]; rfl, below_step HB1.out (below_alloc HB4.out _)⟩
          · go_roundw
            case rel =>
              have g := of_decide_eq_false (bytes_of (show (c.levels[j].name.toList == c.levels[k].name.toList) = false by assumption))
              exact ⟨j + 1, by omega, by go_num, ⟨fun i hi hij => by
                rcases Nat.lt_or_ge i j with q | q
                · exact hne.out i hi q
                · obtain rfl : i = j := by omega
                  exact g⟩, ⟨below_alloc HB3.out _⟩⟩
            case measure => simp [intOf]; omega
        · go_wp2_with fail
          go_roundw
          case rel => exact ⟨k + 1, by omega, by go_num, ⟨by
            intro i hi hik
            rcases Nat.lt_or_ge i k with q | q
            · exact hall.out i hi q
            · obtain rfl : i = k := by omega
              exact ⟨HG.out, fun j' hj' hlt' => hne.out j' hj' (by omega)⟩⟩, HB4⟩
          case measure => simp [intOf]; omega
    · have HXr := Aside0.mk (blk_below HX1.out HB.out)
      have x5 : wo.cell? ⟨w.heap.size, 5, none⟩ = some (.slice B c.schemas.length m) := (blk_cell HXr.out 5).trans rfl
      have HLall : Aside0 (c.levels.all levelB = true ∧ decide (c.levels.map (·.name)).Nodup = true) := ⟨by
        obtain rfl : k = c.levels.length := by omega
        exact ⟨all_of fun i hi => (hall.out i hi hi).1, nodup_of fun i hi j hj hji => (hall.out i hi hi).2 j hj hji⟩⟩
      go_wp2_with fail
      clear x5
      go_loopw [82] (fun v wr => ∃ k : Nat, k ≤ c.schemas.length ∧ v = .int .i64 k ∧ Aside0 (∀ i (hi : i < c.schemas.length), i < k → schemaB c.schemas[i] = true ∧ ∀ j (hj : j < c.schemas.length), j < i → c.schemas[j].name ≠ c.schemas[i].name) ∧ Aside0 (Below w1.heap.size w1 wr)) (fun v _ => c.schemas.length - (intOf v).toNat)
      case atStart => exact ⟨0, Nat.zero_le _, rfl, ⟨fun i _ hi => absurd hi (Nat.not_lt_zero _)⟩, HB⟩
      case round =>
        obtain ⟨wq, rfl⟩ : ∃ wq : World, wq = wr := ⟨_, rfl⟩
        clear hall HB HXr
        obtain ⟨k, hk, rfl, hall, HB⟩ := hrel
        by_cases hlt : k < c.schemas.length
        · have HSr := Aside0.mk (Kd.C_below HS.out (below_step HB1.out HB.out))
          have HXr := Aside0.mk (blk_below HX1.out HB.out)
          obtain ⟨ad, A4, c4, e, h0, h1, h2, h3, h4, g4⟩ := schema_at HSr.out k hlt
          subst e
          have G4 := Aside0.mk g4
          clear g4
          have x4 : wq.cell? ⟨w.heap.size, 5, none⟩ = some (.slice (some ad) c.schemas.length m) := (blk_cell HXr.out 5).trans rfl
          have hsz := Aside0.mk (HC.out.schemas _ (List.getElem_mem hlt))
          go_wp2_with (go_at_call 43; refine (schema_calls c.schemas[k] _ _ _ (Kd.C_below G4.out.2 (below_alloc (Below.refl _ _) _)) G4.out.1 hsz.out).mono ?_; rintro e w2 ⟨rfl, hb1⟩; have HW := Aside0.mk hb1; clear hb1; have HX2 := Aside0.mk (blk_below (blk_alloc HXr.out _) HW.out); have HY2 := Aside0.mk (blk_below (blk_new wq _) HW.out); have x4' : w2.cell? ⟨w.heap.size, 5, none⟩ = some (.slice (some ad) c.schemas.length m) := (blk_cell HX2.out 5).trans rfl; have HB2 := Aside0.mk (below_step (below_alloc (Below.refl wq.heap.size wq) _) HW.out))
          · go_ret
            have g : schemaB c.schemas[k] = false := by
              have := show (!schemaB c.schemas[k]) = true by assumption
              cases q : schemaB c.schemas[k] with
              | false => rfl
              | true => rw [q] at this; cases this
            exact ⟨by rw [formed_schema hlt g]; rfl, below_step HB1.out (below_step HB.out HB2.out)⟩
          rename (!schemaB c.schemas[k]) = false => q8
          have HG : Aside0 (schemaB c.schemas[k] = true) := ⟨by
            cases q : schemaB c.schemas[k] with
            | true => rfl
            | false => rw [q] at q8; cases q8⟩
          clear q8 x4 x4' h0 h1 h2 h3 h4
          go_loopw [95] (fun v W => ∃ j : Nat, j ≤ k ∧ v = .int .i64 j ∧ Aside0 (∀ i (hi : i < c.schemas.length), i < j → c.schemas[i].name ≠ c.schemas[k].name) ∧ Aside0 (Below w2.heap.size w2 W)) (fun v _ => k - (intOf v).toNat)
          case atStart => exact ⟨0, Nat.zero_le _, rfl, ⟨fun i _ hi => absurd hi (Nat.not_lt_zero _)⟩, ⟨Below.refl _ _⟩⟩
          case round =>
            obtain ⟨j, hj, rfl, hne, HB3⟩ := hrel
            have HB4 := Aside0.mk (below_step HB.out (below_step HB2.out HB3.out))
            have HSr := Aside0.mk (Kd.C_below HS.out (below_step HB1.out HB4.out))
            have HXr := Aside0.mk (blk_below HX2.out HB3.out)
            have HYr := Aside0.mk (blk_below HY2.out HB3.out)
            have y0 : wr.cell? ⟨wq.heap.size, 0, none⟩ = some (.string c.schemas[k].name) := (blk_cell HYr.out 0).trans rfl
            have z1 : wq.heap.size < wr.heap.size := blk_lt HYr.out
            by_cases hjl : j < k
            · obtain ⟨ad', A4', c4', e, h0, h1, h2, h3, h4, g4⟩ := schema_at HSr.out j (by omega)
              obtain rfl := Option.some.inj e
              clear e g4
              go_wp2_with fail
              · go_ret
                have g := of_decide_eq_true (bytes_of (show (c.schemas[j].name.toList == c.schemas[k].name.toList) = true by assumption))
                exact ⟨by rw [formed_schemas2 hlt (by omega) hjl g]; rfl, below_step HB1.out (below_alloc HB4.out _)⟩
              · go_roundw
                case rel =>
                  have g := of_decide_eq_false (bytes_of (show (c.schemas[j].name.toList == c.schemas[k].name.toList) = false by assumption))
                  exact ⟨j + 1, by omega, by go_num, ⟨fun i hi hij => by
                    rcases Nat.lt_or_ge i j with q | q
                    · exact hne.out i hi q
                    · obtain rfl : i = j := by omega
                      exact g⟩, ⟨below_alloc HB3.out _⟩⟩
                case measure => simp [intOf]; omega
            · go_wp2_with fail
              go_roundw
              case rel => exact ⟨k + 1, by omega, by go_num, ⟨by
                intro i hi hik
                rcases Nat.lt_or_ge i k with q | q
                · exact hall.out i hi q
                · obtain rfl : i = k := by omega
                  exact ⟨HG.out, fun j' hj' hlt' => hne.out j' hj' (by omega)⟩⟩, HB4⟩
              case measure => simp [intOf]; omega
        · go_wp2_with fail
          go_ret
          obtain rfl : k = c.schemas.length := by omega
          refine ⟨?_, below_step HB1.out HB.out⟩
          rw [formedB_eq, HQ.out, HLall.out.1, HLall.out.2, all_of fun i hi => (hall.out i hi hi).1, nodup_of (g := fun s : Schema => s.name) fun i hi j hj hji => (hall.out i hi hi).2 j hj hji]; rfl
end Go.Proofs.YtcgadbojojkchaaDoor.U
