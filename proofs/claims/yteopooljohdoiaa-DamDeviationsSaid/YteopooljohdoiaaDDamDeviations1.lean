/- DamDeviations: for every input the call returns true and each argument reads afterwards as it read before; no condition. (its contracts and its pure law) -/
import Derived.Test.YteopooljohdoiaaK1
import Derived.Test.YteopooljohdoiaaK3
import Derived.Test.YteopooljohdoiaaK2
set_option linter.unusedVariables false
set_option linter.unusedSimpArgs false
namespace Go.Proofs.Yteopooljohdoiaa.Px
open Go.RowKit Go.Proofs.YteopooljohdoiaaW.PrintWords Go.Proofs.YteopooljohdoiaaW.PrintLast Go.Proofs.YteopooljohdoiaaW.PrintMore
attribute [local go_sem] max2_int min2_int max_two min_two max_three min_three max_four min_four
def guidevanebase_IsName.f (a0 : ByteArray) : Option Bool := if a0.size ≤ 4611686018427387904 then some (nameOk a0) else none
theorem nameCh_iff (i : Nat) (c : Int) : nameCh i c = true ↔ ((97 ≤ c ∧ c ≤ 122) ∨ (65 ≤ c ∧ c ≤ 90)) ∨ (¬ (i : Int) = 0 ∧ (c = 45 ∨ (48 ≤ c ∧ c ≤ 57))) := by
  unfold nameCh isLetB isDigB
  simp only [Bool.or_eq_true, Bool.and_eq_true, decide_eq_true_eq, bne_iff_ne, beq_iff_eq, ne_eq]
  omega
set_option maxHeartbeats 8000000 in
set_option maxRecDepth 100000 in
theorem guidevanebase_IsName.calls (a0 : ByteArray) (r : Bool) (w : World) (h : guidevanebase_IsName.f a0 = some r) :
    Calls Try.prog 101 #[.string a0] w fun e w' => e = .returned (.bool r) ∧ Below w.heap.size w w' := by
  have hh : a0.size ≤ 4611686018427387904 ∧ r = nameOk a0 := by
    unfold guidevanebase_IsName.f at h
    split at h
    · exact ⟨by assumption, (Option.some.inj h).symm⟩
    · exact absurd h (by simp)
  clear h
  obtain ⟨hbig, hr⟩ := hh
  have HR := Aside0.mk hr
  clear hr
  by_cases h0 : a0.size < 1
  · have hz : (a0.size : Int) < 1 := by omega
    have hn : r = false := by
      rw [HR.out]; unfold nameOk
      rw [show decide (1 ≤ a0.size) = false from decide_eq_false (by omega)]; simp
    subst hn
    clear h0 HR
    go_enter Try.func101, Try.ntmps101
    go_wp2
    go_ret
    exact ⟨rfl, Below.refl _ _⟩
  by_cases h1 : 12 < a0.size
  · have hz : ¬ (a0.size : Int) < 1 := by omega
    have hz2 : (12 : Int) < (a0.size : Int) := by omega
    have hn : r = false := by
      rw [HR.out]; unfold nameOk
      rw [show decide (a0.size ≤ 12) = false from decide_eq_false (by omega)]; simp
    subst hn
    clear h0 h1 HR
    go_enter Try.func101, Try.ntmps101
    go_wp2
    go_ret
    exact ⟨rfl, Below.refl _ _⟩
  have hz : ¬ (a0.size : Int) < 1 := by omega
  have hz2 : ¬ (12 : Int) < (a0.size : Int) := by omega
  have HSZ := Aside0.mk (show 1 ≤ a0.size ∧ a0.size ≤ 12 by omega)
  clear h0 h1
  go_enter Try.func101, Try.ntmps101
  go_wp2
  go_loopg [3] a0.size (fun gg s3 w5 => ∃ (i : Nat), i ≤ a0.size ∧ a0.size - i ≤ gg ∧ s3 = .int .i64 i ∧ Aside0 (∀ j, j < i → nameCh j (bt a0 (j : Int)) = true) ∧ w5 = w)
  case atStart => exact ⟨0, by omega, by omega, rfl, ⟨fun j hj => absurd hj (by omega)⟩, rfl⟩
  case round =>
    obtain ⟨i, hi, hgg, rfl, HJ, rfl⟩ := hrel
    clear hz hz2
    by_cases hin : i < a0.size
    case pos =>
      have hin2 : (i : Int) < (a0.size : Int) := by omega
      have hbt := bt_at a0 (i : Int)
      have hrg := bt_range a0 (i : Int)
      rw [Int.toNat_natCast] at hbt
      have hby := hbt hin
      obtain ⟨c, hc⟩ : ∃ c, c = bt a0 (i : Int) := ⟨_, rfl⟩
      rw [← hc] at hrg hby
      obtain ⟨hc0, hc255⟩ := hrg
      have HCC := Aside0.mk hc
      clear hc hbt
      have hcases : (97 ≤ c ∧ c ≤ 122) ∨ (¬ 97 ≤ c ∧ 65 ≤ c ∧ c ≤ 90) ∨ (97 ≤ c ∧ ¬ c ≤ 122 ∧ 65 ≤ c ∧ ¬ c ≤ 90 ∧ ((i : Int) == 0) = true) ∨ (97 ≤ c ∧ ¬ c ≤ 122 ∧ 65 ≤ c ∧ ¬ c ≤ 90 ∧ ((i : Int) == 0) = false ∧ (c != 45) = true ∧ ¬ c < 48 ∧ 57 < c)
          ∨ (¬ 97 ≤ c ∧ 65 ≤ c ∧ ¬ c ≤ 90 ∧ ((i : Int) == 0) = true) ∨ (¬ 97 ≤ c ∧ 65 ≤ c ∧ ¬ c ≤ 90 ∧ ((i : Int) == 0) = false ∧ (c != 45) = true ∧ ¬ c < 48 ∧ 57 < c)
          ∨ (¬ 97 ≤ c ∧ ¬ 65 ≤ c ∧ ((i : Int) == 0) = true) ∨ (¬ 97 ≤ c ∧ ¬ 65 ≤ c ∧ ((i : Int) == 0) = false ∧ (c != 45) = false) ∨ (¬ 97 ≤ c ∧ ¬ 65 ≤ c ∧ ((i : Int) == 0) = false ∧ (c != 45) = true ∧ c < 48)
          ∨ (¬ 97 ≤ c ∧ ¬ 65 ≤ c ∧ ((i : Int) == 0) = false ∧ (c != 45) = true ∧ ¬ c < 48 ∧ ¬ 57 < c) ∨ (¬ 97 ≤ c ∧ ¬ 65 ≤ c ∧ ((i : Int) == 0) = false ∧ (c != 45) = true ∧ ¬ c < 48 ∧ 57 < c) := by
        simp only [beq_iff_eq, beq_eq_false_iff_ne, bne_iff_ne, bne_eq_false_iff_eq]
        omega
      rcases hcases with ⟨h1, h2⟩ | ⟨h1, h2, h3⟩ | ⟨h1, h2, h3, h4, h5⟩ | ⟨h1, h2, h3, h4, h5, h6, h7, h8⟩ | ⟨h1, h2, h3, h4⟩ | ⟨h1, h2, h3, h4, h5, h6, h7⟩ | ⟨h1, h2, h3⟩ | ⟨h1, h2, h3, h4⟩ | ⟨h1, h2, h3, h4, h5⟩ | ⟨h1, h2, h3, h4, h5, h6⟩ | ⟨h1, h2, h3, h4, h5, h6⟩
      all_goals
        go_wp2
        have hfact : (nameCh i c = true) ∨ (nameCh i c = false) := by cases nameCh i c <;> simp
        have hiff := nameCh_iff i c
        first
          | (go_roundg (a0.size - (i + 1))
             case measure => omega
             case rel =>
               refine ⟨i + 1, by omega, by omega, by go_num, ⟨fun j hj => ?_⟩, rfl⟩
               by_cases hji : j = i
               · subst hji
                 rw [← HCC.out, hiff]
                 (try simp only [beq_iff_eq, beq_eq_false_iff_ne, bne_iff_ne, bne_eq_false_iff_eq, ne_eq] at *)
                 omega
               · exact HJ.out j (by omega))
          | (go_ret
             refine ⟨?_, Below.refl _ _⟩
             have hbad : nameCh i (bt a0 (i : Int)) = false := by
               rw [← HCC.out]
               rcases hfact with hf | hf
               · exfalso
                 rw [hiff] at hf
                 (try simp only [beq_iff_eq, beq_eq_false_iff_ne, bne_iff_ne, bne_eq_false_iff_eq, ne_eq] at *)
                 omega
               · exact hf
             rw [HR.out, nameOk_bad a0 i hin hbad]
             rfl)
    case neg =>
      obtain rfl : i = a0.size := by omega
      have hn : r = true := by
        rw [HR.out, nameOk_good a0 HJ.out, decide_eq_true (by have := HSZ.out; omega), decide_eq_true (by have := HSZ.out; omega)]; rfl
      subst hn
      go_wp2
      go_ret
      exact ⟨rfl, Below.refl _ _⟩
def guidevaneref09_find.l0 : Nat → List (S135) → ByteArray → Int → Option (Int)
  | 0, _, _, _ => none
  | k + 1, x0, x1, x5 => if x5 < (x0.length : Int) then (if 0 ≤ x5 then (if ((rd_T135 x0 x5).f0).toList = x1.toList then (some x5) else (guidevaneref09_find.l0 k x0 x1 (wrap64 (x5 + 1)))) else (none)) else (some (-1))
def guidevaneref09_find.f (k : Nat) (l0 : List (S135)) (a1 : ByteArray) : Option (Int) := guidevaneref09_find.l0 k l0 a1 0
theorem guidevaneref09_find.mono_l : ∀ k, (∀ y0 y1 y2, LeO (guidevaneref09_find.l0 k y0 y1 y2) (guidevaneref09_find.l0 (k + 1) y0 y1 y2))
  | 0 => fun _ _ _ r h => by simp [guidevaneref09_find.l0] at h
  | k + 1 => by
    have ih0 := guidevaneref09_find.mono_l k
    · intro y0 y1 y2
      unfold guidevaneref09_find.l0
      repeat' first
      | (with_reducible exact ih0 _ _ _)
      | (with_reducible exact LeO.refl _)
      | (with_reducible exact LeO.none _)
      | (with_reducible refine LeO.ite ?_ ?_)
      | (with_reducible refine LeO.bind ?_ (fun _ => ?_))
      | exact ih0 _ _ _
      | exact LeO.none _
      | refine LeO.ite ?_ ?_
      | refine LeO.bind ?_ (fun _ => ?_)
theorem guidevaneref09_find.mono : ∀ a0 a1 k, LeO (guidevaneref09_find.f k a0 a1) (guidevaneref09_find.f (k + 1) a0 a1) := by
  intro a0 a1 k
  have ih0 := guidevaneref09_find.mono_l k
  unfold guidevaneref09_find.f
  repeat' first
      | (with_reducible exact ih0 _ _ _)
      | (with_reducible exact LeO.refl _)
      | (with_reducible exact LeO.none _)
      | (with_reducible refine LeO.ite ?_ ?_)
      | (with_reducible refine LeO.bind ?_ (fun _ => ?_))
      | exact ih0 _ _ _
      | exact LeO.none _
      | refine LeO.ite ?_ ?_
      | refine LeO.bind ?_ (fun _ => ?_)
set_option maxHeartbeats 8000000 in
set_option maxRecDepth 100000 in
theorem guidevaneref09_find.calls (k : Nat) (A0 : Option Addr) (c0 : Nat) (l0 : List (S135)) (a1 : ByteArray) (r : Int) (w : World) (hr0 : Kd.C k135 w A0 l0.length l0) (hc0 : l0.length ≤ c0) (h : guidevaneref09_find.f k l0 a1 = some r) :
    Calls Try.prog 102 #[.slice A0 l0.length c0, .string a1] w fun e w' => e = .returned (.int .i64 r) ∧ Drawn0 w w' := by
  have HR0 := Aside0.mk hr0
  have HC0 := Aside0.mk hc0
  clear hr0 hc0
  have H : (guidevaneref09_find.l0 k l0 a1 0) = some r := h
  clear h
  have H' := Aside0.mk H
  clear H
  go_enter Try.func102, Try.ntmps102
  go_wp2
  go_loopg [5] k (fun kq v5 w' => ∃ (x5_1 : Int), v5 = .int .i64 x5_1 ∧ Aside0 (guidevaneref09_find.l0 kq l0 a1 x5_1 = some r) ∧ Aside0 (kq ≤ k) ∧ Drawn0 w w')
  case atStart => exact ⟨(0), (by first | rfl | (simp; done) | (simp [*]; done)), H', ⟨Nat.le_refl _⟩, by repeat (first | exact Drawn0.refl _ | apply Drawn0.step)⟩
  case round =>
    clear H'
    try clear c1
    try clear p2
    obtain ⟨x5_1, rfl, HA, HK1, ⟨m1, rfl⟩⟩ := hrel
    cases gk with
    | zero => exact absurd HA.out (by simp [guidevaneref09_find.l0])
    | succ k1 =>
      have H := HA.out
      clear HA
      simp only [guidevaneref09_find.l0] at H
      by_cases c3 : x5_1 < (l0.length : Int)
      · rw [if_pos c3] at H
        have c3b0 : decide (x5_1 < (l0.length : Int)) = true := decide_eq_true c3
        clear c3
        by_cases c4 : 0 ≤ x5_1
        · rw [if_pos c4] at H
          have c4b0 : decide (0 ≤ x5_1) = true := decide_eq_true c4
          clear c4
          by_cases c5 : ((rd_T135 l0 x5_1).f0).toList = a1.toList
          · rw [if_pos c5] at H
            have c5b0 : (((rd_T135 l0 x5_1).f0).toList == a1.toList) = true := beq_iff_eq.mpr c5
            have c5b1 : (((rd_T135 l0 x5_1).f0).toList != a1.toList) = false := bne_eq_false_iff_eq.mpr c5
            clear c5
            obtain rfl := Option.some.inj H
            have p306001 : 0 ≤ (x5_1 : Int) := of_decide_eq_true (by first | (with_reducible assumption) | assumption)
            have q306001 : x5_1 < (l0.length : Int) := of_decide_eq_true (by first | (with_reducible assumption) | assumption)
            obtain ⟨ad306001, e306001, hx306001_0, hx306001_1⟩ := at_T135 HR0.out x5_1 p306001 q306001
            cases e306001
            replace p306001 := eq_true p306001
            replace q306001 := eq_true q306001
            go_wp2
            go_ret
            exact ⟨by first | rfl | (simp; done) | (simp [*]; done), by repeat (first | exact Drawn0.refl _ | apply Drawn0.step)⟩
          · rw [if_neg c5] at H
            have c5b0 : (((rd_T135 l0 x5_1).f0).toList == a1.toList) = false := beq_eq_false_iff_ne.mpr c5
            have c5b1 : (((rd_T135 l0 x5_1).f0).toList != a1.toList) = true := bne_iff_ne.mpr c5
            have H' := Aside0.mk H
            clear H
            have p306001 : 0 ≤ (x5_1 : Int) := of_decide_eq_true (by first | (with_reducible assumption) | assumption)
            have q306001 : x5_1 < (l0.length : Int) := of_decide_eq_true (by first | (with_reducible assumption) | assumption)
            obtain ⟨ad306001, e306001, hx306001_0, hx306001_1⟩ := at_T135 HR0.out x5_1 p306001 q306001
            cases e306001
            replace p306001 := eq_true p306001
            replace q306001 := eq_true q306001
            go_wp2
            go_roundg k1
            case measure => have := HK1.out; omega
            case rel => exact ⟨(wrap64 (x5_1 + 1)), (by first | rfl | (simp; done) | (simp [*]; done)), H', ⟨by have := HK1.out; omega⟩, by repeat (first | exact Drawn0.refl _ | apply Drawn0.step)⟩
        · rw [if_neg c4] at H
          exact absurd H (by simp)
      · rw [if_neg c3] at H
        have c3b0 : decide (x5_1 < (l0.length : Int)) = false := decide_eq_false c3
        clear c3
        obtain rfl := Option.some.inj H
        go_wp2
        go_ret
        exact ⟨by first | rfl | (simp; done) | (simp [*]; done), by repeat (first | exact Drawn0.refl _ | apply Drawn0.step)⟩
def dam_rules_stateErr.f (k : Nat) (l0_0 : List Int) (l0_1 : List Int) (a0_2 : Int) (l0_3 : List (S135)) (a1_0 : Int) (a1_1 : Int) (a1_2 : Int) : Option (Int) := (dam_within.f a1_0 0 (l0_0.length : Int)).bind fun t351003 => (if t351003 = true then ((dam_within.f a1_1 0 1000000).bind fun t351004 => (if t351004 = true then ((dam_isDeviation.f a1_2).bind fun t351005 => ((dam_unless.f t351005 2).bind fun t351006 => (if a1_0 > 0 then ((dam_unless.f true 13).bind fun t351007 => ((dam_first.f k (([t351006, t351007] : List Int))).bind fun t351011 => (some t351011))) else ((dam_unless.f (a1_1 == 0) 13).bind fun t351012 => ((dam_first.f k (([t351006, t351012] : List Int))).bind fun t351016 => (some t351016)))))) else ((dam_unless.f false 2).bind fun t351017 => (if a1_0 > 0 then ((dam_unless.f true 13).bind fun t351018 => ((dam_first.f k (([t351017, t351018] : List Int))).bind fun t351022 => (some t351022))) else ((dam_unless.f (a1_1 == 0) 13).bind fun t351023 => ((dam_first.f k (([t351017, t351023] : List Int))).bind fun t351027 => (some t351027))))))) else ((dam_unless.f false 2).bind fun t351028 => (if a1_0 > 0 then ((dam_unless.f true 13).bind fun t351029 => ((dam_first.f k (([t351028, t351029] : List Int))).bind fun t351033 => (some t351033))) else ((dam_unless.f (a1_1 == 0) 13).bind fun t351034 => ((dam_first.f k (([t351028, t351034] : List Int))).bind fun t351038 => (some t351038))))))
theorem dam_rules_stateErr.mono : ∀ a0 a1 a2 a3 a4 a5 a6 k, LeO (dam_rules_stateErr.f k a0 a1 a2 a3 a4 a5 a6) (dam_rules_stateErr.f (k + 1) a0 a1 a2 a3 a4 a5 a6) := by
  intro a0 a1 a2 a3 a4 a5 a6 k
  unfold dam_rules_stateErr.f
  repeat' first
      | (with_reducible exact dam_first.mono _ _)
      | (with_reducible exact LeO.refl _)
      | (with_reducible exact LeO.none _)
      | (with_reducible refine LeO.ite ?_ ?_)
      | (with_reducible refine LeO.bind ?_ (fun _ => ?_))
      | exact dam_first.mono _ _
      | exact LeO.none _
      | refine LeO.ite ?_ ?_
      | refine LeO.bind ?_ (fun _ => ?_)
theorem unless_same (b : Bool) (x : Int) (w : World) : Calls Try.prog 64 #[.bool b, .int .i64 x] w fun e w' => e = .returned (.int .i64 (unlessI b x)) ∧ w' = w := by
  cases b <;> (go_enter Try.func64, Try.ntmps64; go_wp2; go_ret; exact ⟨rfl, rfl⟩)
set_option maxHeartbeats 8000000 in
set_option maxRecDepth 100000 in
theorem dam_rules_stateErr.calls (k : Nat) (A0_0 : Option Addr) (c0_0 : Nat) (l0_0 : List Int) (A0_1 : Option Addr) (c0_1 : Nat) (l0_1 : List Int) (a0_2 : Int) (A0_3 : Option Addr) (c0_3 : Nat) (l0_3 : List (S135)) (a1_0 : Int) (a1_1 : Int) (a1_2 : Int) (r : Int) (w : World) (hr0_0 : Kd.C (Kd.int .i64) w A0_0 l0_0.length l0_0) (hc0_0 : l0_0.length ≤ c0_0) (hr0_1 : Kd.C (Kd.int .i64) w A0_1 l0_1.length l0_1) (hc0_1 : l0_1.length ≤ c0_1) (hr0_3 : Kd.C k135 w A0_3 l0_3.length l0_3) (hc0_3 : l0_3.length ≤ c0_3) (h : dam_rules_stateErr.f k l0_0 l0_1 a0_2 l0_3 a1_0 a1_1 a1_2 = some r) :
    Calls Try.prog 117 #[.agg #[.slice A0_0 l0_0.length c0_0, .slice A0_1 l0_1.length c0_1, .int .i64 a0_2, .slice A0_3 l0_3.length c0_3], .agg #[.int .i64 a1_0, .int .i64 a1_1, .int .i64 a1_2]] w fun e w' => e = .returned (.int .i64 r) ∧ Below w.heap.size w w' := by
  have hu := Try.underlying137
  have hu1 := Try.underlying85
  have hu2 := Try.underlying88
  have HR0 := Aside0.mk hr0_0
  clear hr0_0 hr0_1 hr0_3 hc0_0 hc0_1 hc0_3
  obtain ⟨b1, hb1⟩ : ∃ b, dam_within.f a1_0 0 (l0_0.length : Int) = some b := ⟨_, within_f _ _ _⟩
  obtain ⟨b2, hb2⟩ : ∃ b, dam_within.f a1_1 0 1000000 = some b := ⟨_, within_f _ _ _⟩
  obtain ⟨b3, hb3⟩ : ∃ b, dam_isDeviation.f a1_2 = some b := by
    unfold dam_isDeviation.f
    rw [within_f]
    exact ⟨_, rfl⟩
  have key : dam_first.f k [unlessI (b1 && (b2 && b3)) 2, unlessI (decide (a1_0 > 0) || a1_1 == 0) 13] = some r := by
    unfold dam_rules_stateErr.f at h
    rw [hb1, hb2, hb3] at h
    simp only [Option.bind_some, unless_f] at h
    cases b1 <;> cases b2 <;> cases b3 <;> by_cases hp : a1_0 > 0 <;> simp [hp] at h ⊢ <;> exact h
  have hm : l0_0.length ≤ 9223372036854775807 := HR0.out.2.1
  have W1 := Aside0.mk hb1
  have W2 := Aside0.mk hb2
  have W3 := Aside0.mk hb3
  obtain ⟨q, hq⟩ : ∃ q, q = (decide (a1_0 > 0) || a1_1 == 0) := ⟨_, rfl⟩
  rw [← hq] at key
  have H1 := Aside0.mk key
  clear h key hb1 hb2 hb3
  have hcase : (decide (0 < a1_0) = true ∧ q = true) ∨ (decide (0 < a1_0) = false ∧ (a1_1 == 0) = true ∧ q = true) ∨ (decide (0 < a1_0) = false ∧ (a1_1 == 0) = false ∧ q = false) := by
    rw [hq]
    show (decide (0 < a1_0) = true ∧ (decide (0 < a1_0) || a1_1 == 0) = true) ∨ _ ∨ _
    cases decide (0 < a1_0) <;> cases (a1_1 == 0) <;> simp
  clear hq
  go_enter Try.func117, Try.ntmps117
  go_upto_region 1 with fail
  have hX := blk_alloc (blk_new w (.cells #[.slice A0_0 l0_0.length c0_0, .slice A0_1 l0_1.length c0_1, .int .i64 a0_2, .slice A0_3 l0_3.length c0_3] 137)) (.cells #[.int .i64 a1_0, .int .i64 a1_1, .int .i64 a1_2] 88)
  have hS := blk_new (w.alloc (.cells #[.slice A0_0 l0_0.length c0_0, .slice A0_1 l0_1.length c0_1, .int .i64 a0_2, .slice A0_3 l0_3.length c0_3] 137)) (.cells #[.int .i64 a1_0, .int .i64 a1_1, .int .i64 a1_2] 88)
  have hb1 := below_alloc (below_alloc (Below.refl _ w) (.cells #[.slice A0_0 l0_0.length c0_0, .slice A0_1 l0_1.length c0_1, .int .i64 a0_2, .slice A0_3 l0_3.length c0_3] 137)) (.cells #[.int .i64 a1_0, .int .i64 a1_1, .int .i64 a1_2] 88)
  rw [show (w.alloc (.cells #[.slice A0_0 l0_0.length c0_0, .slice A0_1 l0_1.length c0_1, .int .i64 a0_2, .slice A0_3 l0_3.length c0_3] 137)).heap.size = w.heap.size + 1 from Array.size_push _] at hS
  generalize (w.alloc (.cells #[.slice A0_0 l0_0.length c0_0, .slice A0_1 l0_1.length c0_1, .int .i64 a0_2, .slice A0_3 l0_3.length c0_3] 137)).alloc (.cells #[.int .i64 a1_0, .int .i64 a1_1, .int .i64 a1_2] 88) = w1 at *
  have hx0 : w1.cell? ⟨w.heap.size, 0, none⟩ = some (.slice A0_0 l0_0.length c0_0) := (blk_cell hX 0).trans rfl
  have hs0 : w1.cell? ⟨w.heap.size + 1, 0, none⟩ = some (.int .i64 a1_0) := (blk_cell hS 0).trans rfl
  have hs1 : w1.cell? ⟨w.heap.size + 1, 1, none⟩ = some (.int .i64 a1_1) := (blk_cell hS 1).trans rfl
  have hs2 : w1.cell? ⟨w.heap.size + 1, 2, none⟩ = some (.int .i64 a1_2) := (blk_cell hS 2).trans rfl
  have HB := Aside0.mk hb1
  clear hX hS hb1
  cases b1 <;> cases b2 <;> cases b3
  all_goals
    go_upto_region 2 with (first | (go_at_call 65; refine (dam_within.calls _ _ _ _ _ W1.out).mono ?_; rintro e w1 ⟨rfl, hd⟩; have hb := hd.below; have hx0 := (hb.cell (World.block_lt_of_cell? _ _ hx0)).trans hx0; have hs0 := (hb.cell (World.block_lt_of_cell? _ _ hs0)).trans hs0; have hs1 := (hb.cell (World.block_lt_of_cell? _ _ hs1)).trans hs1; have hs2 := (hb.cell (World.block_lt_of_cell? _ _ hs2)).trans hs2; have HB := Aside0.mk (below_step HB.out hb); clear hb hd; clear W1) | (go_at_call 65; refine (dam_within.calls _ _ _ _ _ W2.out).mono ?_; rintro e w1 ⟨rfl, hd⟩; have hb := hd.below; have hx0 := (hb.cell (World.block_lt_of_cell? _ _ hx0)).trans hx0; have hs0 := (hb.cell (World.block_lt_of_cell? _ _ hs0)).trans hs0; have hs1 := (hb.cell (World.block_lt_of_cell? _ _ hs1)).trans hs1; have hs2 := (hb.cell (World.block_lt_of_cell? _ _ hs2)).trans hs2; have HB := Aside0.mk (below_step HB.out hb); clear hb hd) | (go_at_call 93; refine (dam_isDeviation.calls _ _ _ W3.out).mono ?_; rintro e w1 ⟨rfl, hd⟩; have hb := hd.below; have hx0 := (hb.cell (World.block_lt_of_cell? _ _ hx0)).trans hx0; have hs0 := (hb.cell (World.block_lt_of_cell? _ _ hs0)).trans hs0; have hs1 := (hb.cell (World.block_lt_of_cell? _ _ hs1)).trans hs1; have hs2 := (hb.cell (World.block_lt_of_cell? _ _ hs2)).trans hs2; have HB := Aside0.mk (below_step HB.out hb); clear hb hd))
    have H1' := H1.out
    simp only [Bool.false_and, Bool.true_and, Bool.and_false, Bool.and_true] at H1'
    have H2 := Aside0.mk H1'
    clear H1' H1 hs2 hx0
    have HR := Aside0.mk (Below.refl w1.heap.size w1)
    rcases hcase with ⟨hp, rfl⟩ | ⟨hp, hz, rfl⟩ | ⟨hp, hz, rfl⟩
    all_goals
      refine wp_region_still_tail 11 (by kernel_rfl) (by kernel_rfl) ?_
      simp only [List.take_succ_cons, List.take_zero, List.drop_succ_cons, List.drop_zero]
      repeat (first | still_step | still_call (unless_same _ _ _))
      refine wpStill_nil ?_
      clear hs0 hs1
      change wpList _ _ _ _ _ w1.drew
      have HB2 := Aside0.mk (below_drew HB.out)
      generalize w1.drew = w2 at *
      go_wp2_with (go_at_call 63; refine (dam_first.calls k _ _ _ r _ (litC _ 26 _ (by simp)) (Nat.le_refl _) H2.out).mono ?_; rintro e w3 ⟨rfl, hb3⟩; have HB3 := Aside0.mk (below_step (below_alloc HB2.out _) hb3.below); clear hb3)
      go_ret
      exact ⟨rfl, HB3.out⟩
def dam_openState.f (k : Nat) (l0_0 : List Int) (l0_1 : List Int) (a0_2 : Int) (l0_3 : List S135) (a1_0 : Int) (a1_1 : Int) (a1_2 : Int) : Option Int :=
  (dam_CheckRules.f l0_0 l0_1 a0_2 l0_3).bind fun c => if c.2 = 0 then dam_rules_stateErr.f k l0_0 l0_1 a0_2 l0_3 a1_0 a1_1 a1_2 else some c.2
theorem dam_openState.mono : ∀ a0 a1 a2 a3 a4 a5 a6 k, LeO (dam_openState.f k a0 a1 a2 a3 a4 a5 a6) (dam_openState.f (k + 1) a0 a1 a2 a3 a4 a5 a6) := by
  intro a0 a1 a2 a3 a4 a5 a6 k
  unfold dam_openState.f
  exact LeO.bind (LeO.refl _) fun _ => LeO.ite (dam_rules_stateErr.mono _ _ _ _ _ _ _ _) (LeO.refl _)
theorem cells4 {w : World} {g : Nat} {t : TypeId} {a b c d : Value} (h : w.heap[g]? = some (.cells #[a, b, c, d] t (0, 0))) : w.cell? ⟨g, 0, none⟩ = some a ∧ w.cell? ⟨g, 1, none⟩ = some b ∧ w.cell? ⟨g, 2, none⟩ = some c ∧ w.cell? ⟨g, 3, none⟩ = some d :=
  ⟨(blk_cell h 0).trans rfl, (blk_cell h 1).trans rfl, (blk_cell h 2).trans rfl, (blk_cell h 3).trans rfl⟩
theorem cells3 {w : World} {g : Nat} {t : TypeId} {a b c : Value} (h : w.heap[g]? = some (.cells #[a, b, c] t (0, 0))) : w.cell? ⟨g, 0, none⟩ = some a ∧ w.cell? ⟨g, 1, none⟩ = some b ∧ w.cell? ⟨g, 2, none⟩ = some c :=
  ⟨(blk_cell h 0).trans rfl, (blk_cell h 1).trans rfl, (blk_cell h 2).trans rfl⟩
theorem free4 {w : World} {g : Nat} {t : TypeId} {cs : Array Value} (h : w.heap[g]? = some (.cells cs t (0, 0))) : w.frozen? ⟨g, 0, none⟩ = false ∧ w.frozen? ⟨g, 1, none⟩ = false ∧ w.frozen? ⟨g, 2, none⟩ = false ∧ w.frozen? ⟨g, 3, none⟩ = false :=
  ⟨blk_frozen h 0, blk_frozen h 1, blk_frozen h 2, blk_frozen h 3⟩
theorem alloc1 (w : World) (a : Array Value) (ta : TypeId) : ∃ w1, w1 = w.alloc (.cells a ta) ∧ w1.heap[w.heap.size]? = some (.cells a ta (0, 0)) ∧ Below w.heap.size w w1 := ⟨_, rfl, blk_new _ _, below_alloc (Below.refl _ _) _⟩
theorem alloc2 (w : World) (a b : Array Value) (ta tb : TypeId) : ∃ w1, w1 = (w.alloc (.cells a ta)).alloc (.cells b tb) ∧ w1.heap[w.heap.size]? = some (.cells a ta (0, 0)) ∧ w1.heap[w.heap.size + 1]? = some (.cells b tb (0, 0)) ∧ Below w.heap.size w w1 := by
  refine ⟨_, rfl, blk_alloc (blk_new _ _) _, ?_, below_alloc (below_alloc (Below.refl _ _) _) _⟩
  have h := blk_new (w.alloc (.cells a ta)) (.cells b tb)
  rwa [show (w.alloc (.cells a ta)).heap.size = w.heap.size + 1 from Array.size_push _] at h
theorem alloc3 (w : World) (a b c : Array Value) (ta tb tc : TypeId) : ∃ w1, w1 = ((w.alloc (.cells a ta)).alloc (.cells b tb)).alloc (.cells c tc) ∧ w1.heap[w.heap.size]? = some (.cells a ta (0, 0)) ∧ w1.heap[w.heap.size + 1]? = some (.cells b tb (0, 0)) ∧ w1.heap[w.heap.size + 1 + 1]? = some (.cells c tc (0, 0)) ∧ Below w.heap.size w w1 := by
  obtain ⟨w2, rfl, h1, h2, hb⟩ := alloc2 w a b ta tb
  refine ⟨_, rfl, blk_alloc h1 _, blk_alloc h2 _, ?_, below_alloc hb _⟩
  have h := blk_new ((w.alloc (.cells a ta)).alloc (.cells b tb)) (.cells c tc)
  rwa [show ((w.alloc (.cells a ta)).alloc (.cells b tb)).heap.size = w.heap.size + 1 + 1 from (Array.size_push _).trans (congrArg (· + 1) (Array.size_push _))] at h
set_option maxHeartbeats 8000000 in
set_option maxRecDepth 100000 in
theorem dam_openState.calls (k : Nat) (A0_0 : Option Addr) (c0_0 : Nat) (l0_0 : List Int) (A0_1 : Option Addr) (c0_1 : Nat) (l0_1 : List Int) (a0_2 : Int) (A0_3 : Option Addr) (c0_3 : Nat) (l0_3 : List S135) (a1_0 : Int) (a1_1 : Int) (a1_2 : Int) (r : Int) (w : World) (hr0_0 : Kd.C (Kd.int .i64) w A0_0 l0_0.length l0_0) (hc0_0 : l0_0.length ≤ c0_0) (hr0_1 : Kd.C (Kd.int .i64) w A0_1 l0_1.length l0_1) (hc0_1 : l0_1.length ≤ c0_1) (hr0_3 : Kd.C k135 w A0_3 l0_3.length l0_3) (hc0_3 : l0_3.length ≤ c0_3) (h : dam_openState.f k l0_0 l0_1 a0_2 l0_3 a1_0 a1_1 a1_2 = some r) :
    Calls Try.prog 100 #[.agg #[.slice A0_0 l0_0.length c0_0, .slice A0_1 l0_1.length c0_1, .int .i64 a0_2, .slice A0_3 l0_3.length c0_3], .agg #[.int .i64 a1_0, .int .i64 a1_1, .int .i64 a1_2]] w fun e w' => e = .returned (.tuple #[.agg #[.slice A0_0 l0_0.length c0_0, .slice A0_1 l0_1.length c0_1, .int .i64 a0_2, .slice A0_3 l0_3.length c0_3], .int .i64 r]) ∧ Below w.heap.size w w' := by
  have hu := Try.underlying137
  have hu1 := Try.underlying85
  have hu2 := Try.underlying88
  have HR0 := Aside0.mk hr0_0
  have HR1 := Aside0.mk hr0_1
  have HR3 := Aside0.mk hr0_3
  have HC := Aside0.mk (And.intro hc0_0 (And.intro hc0_1 hc0_3))
  clear hr0_0 hr0_1 hr0_3 hc0_0 hc0_1 hc0_3
  unfold dam_openState.f at h
  replace h := Option.bind_eq_some_iff.mp h
  obtain ⟨⟨c1, e1⟩, hck, h⟩ := h
  have HK := Aside0.mk hck
  have HOUT := Aside0.mk h
  clear hck h
  go_enter Try.func100, Try.ntmps100
  go_upto_region 1 with fail
  obtain ⟨w1, hw, hX, hS, hZ, hb1⟩ := alloc3 w #[.slice A0_0 l0_0.length c0_0, .slice A0_1 l0_1.length c0_1, .int .i64 a0_2, .slice A0_3 l0_3.length c0_3] #[.int .i64 a1_0, .int .i64 a1_1, .int .i64 a1_2] #[.slice none 0 0, .slice none 0 0, .int .i64 0, .slice none 0 0] 85 88 137
  rw [← hw]
  obtain ⟨hx0, hx1, hx2, hx3⟩ := cells4 hX
  have HS := Aside0.mk hS
  have HZ := Aside0.mk hZ
  have HB1 := Aside0.mk hb1
  clear hX hS hZ hb1 hw
  go_upto_region 2 with (go_at_call 90; refine (open_c A0_0 c0_0 l0_0 A0_1 c0_1 l0_1 a0_2 A0_3 c0_3 l0_3 c1 e1 _ (Kd.C_below HR0.out HB1.out) HC.out.1 (Kd.C_below HR1.out HB1.out) HC.out.2.1 (Kd.C_below HR3.out HB1.out) HC.out.2.2 HK.out).mono ?_; rintro e w2 ⟨rfl, hb2⟩; have HB2 := Aside0.mk hb2; clear hb2)
  clear hx0 hx1 hx2 hx3
  obtain ⟨w3, hw, hX, hb3⟩ := alloc1 w2 #[.slice A0_0 l0_0.length c0_0, .slice A0_1 l0_1.length c0_1, .int .i64 a0_2, .slice A0_3 l0_3.length c0_3] 137
  rw [← hw]
  have HB3 := Aside0.mk (below_step (below_step HB1.out HB2.out) hb3)
  have hS3 := blk_below (blk_below HS.out HB2.out) hb3
  have HZ3 := Aside0.mk (blk_below (blk_below HZ.out HB2.out) hb3)
  generalize w2.heap.size = G at *
  have HX := Aside0.mk hX
  obtain ⟨hx0, hx1, hx2, hx3⟩ := cells4 hX
  obtain ⟨hs0, hs1, hs2⟩ := cells3 hS3
  clear hX hS3 hb3 hw
  have ho := HOUT.out
  by_cases hz : e1 = 0
  case neg =>
    rw [if_neg hz] at ho
    obtain rfl := Option.some.inj ho
    have hzb : (e1 == 0) = false := beq_eq_false_iff_ne.2 hz
    obtain ⟨hz0, hz1, hz2, hz3⟩ := cells4 HZ3.out
    obtain ⟨hf0, hf1, hf2, hf3⟩ := free4 HZ3.out
    clear hz ho HOUT hs0 hs1 hs2
    go_wp2
    refine bodyPost_ret (results_ct rfl _ _ (w.heap.size + 1 + 1) 137 #[.slice A0_0 l0_0.length c0_0, .slice A0_1 l0_1.length c0_1, .int .i64 a0_2, .slice A0_3 l0_3.length c0_3] (0, 0) _ rfl (blk_put (blk_put (blk_put (blk_put HZ3.out 0 _ rfl) 1 _ rfl) 2 _ rfl) 3 _ rfl) Try.underlying137 (by rfl) (by rfl)) rfl ⟨rfl, ?_⟩
    exact below_set (below_set (below_set (below_set HB3.out (by omega)) (by omega)) (by omega)) (by omega)
  case pos =>
    subst hz
    rw [if_pos rfl] at ho
    have HO2 := Aside0.mk ho
    clear ho HOUT
    go_upto_region 4 with (go_at_call 117; refine (dam_rules_stateErr.calls k A0_0 c0_0 l0_0 A0_1 c0_1 l0_1 a0_2 A0_3 c0_3 l0_3 a1_0 a1_1 a1_2 r _ (Kd.C_below HR0.out HB3.out) HC.out.1 (Kd.C_below HR1.out HB3.out) HC.out.2.1 (Kd.C_below HR3.out HB3.out) HC.out.2.2 HO2.out).mono ?_; rintro e w4 ⟨rfl, hb4⟩; have HB4 := Aside0.mk hb4; clear hb4)
    clear hx0 hx1 hx2 hx3 hs0 hs1 hs2
    obtain ⟨hx0, hx1, hx2, hx3⟩ := cells4 (blk_below HX.out HB4.out)
    have HZ4 := Aside0.mk (blk_below HZ3.out HB4.out)
    obtain ⟨hz0, hz1, hz2, hz3⟩ := cells4 HZ4.out
    obtain ⟨hf0, hf1, hf2, hf3⟩ := free4 HZ4.out
    go_wp2
    refine bodyPost_ret (results_ct rfl _ _ (w.heap.size + 1 + 1) 137 #[.slice A0_0 l0_0.length c0_0, .slice A0_1 l0_1.length c0_1, .int .i64 a0_2, .slice A0_3 l0_3.length c0_3] (0, 0) _ rfl (blk_put (blk_put (blk_put (blk_put HZ4.out 0 _ rfl) 1 _ rfl) 2 _ rfl) 3 _ rfl) Try.underlying137 (by rfl) (by rfl)) rfl ⟨rfl, ?_⟩
    exact below_set (below_set (below_set (below_set (below_step HB3.out HB4.out) (by omega)) (by omega)) (by omega)) (by omega)
def guidevaneref09_CheckRules.f (l0_0 : List Int) (l0_1 : List Int) (a0_2 : Int) (l0_3 : List S135) : Option (Int × Int) :=
  if l0_0.length ≤ 1000 ∧ l0_3.length ≤ 1000 ∧ ∀ p ∈ l0_3, p.f0.size ≤ 1000 then some (rulesOut l0_0 l0_1 a0_2 l0_3) else none
theorem bw_f (a b c : Int) : guidevanebase_Within.f a b c = some (decide (b ≤ a) && decide (a ≤ c)) := by
  unfold guidevanebase_Within.f
  by_cases h : b ≤ a <;> simp [h]
theorem rdPe (l : List S135) (i : Nat) : rd_T135 l (i : Int) = l.getD i z135 := by show l.getD (i : Int).toNat _ = _; rw [Int.toNat_natCast]
theorem rfind_go (l : List S135) (nm : ByteArray) (hl : l.length ≤ 1000) : ∀ (d i k : Nat), i + d = l.length → d < k → (∀ j, j < i → ((l.getD j z135).f0.toList == nm.toList) = false) → guidevaneref09_find.l0 k l nm (i : Int) = some (idxF (fun o : S135 => o.f0.toList == nm.toList) l) := by
  intro d
  induction d with
  | zero =>
    intro i k hi hk h0
    obtain ⟨k, rfl⟩ : ∃ m, k = m + 1 := ⟨k - 1, by omega⟩
    obtain rfl : i = l.length := by omega
    simp only [guidevaneref09_find.l0]
    rw [if_neg (by omega), idxF_miss (p := fun o : S135 => o.f0.toList == nm.toList) h0]
  | succ d ih =>
    intro i k hi hk h0
    obtain ⟨k, rfl⟩ : ∃ m, k = m + 1 := ⟨k - 1, by omega⟩
    simp only [guidevaneref09_find.l0]
    rw [if_pos (by omega), if_pos (by omega), rdPe]
    by_cases h : (l.getD i z135).f0.toList = nm.toList
    · rw [if_pos h, idxF_hit (p := fun o : S135 => o.f0.toList == nm.toList) (by omega) h0 (by simpa using h)]
    · rw [if_neg h, w64 (by omega) (by omega), show ((i : Int) + 1) = ((i + 1 : Nat) : Int) from rfl]
      refine ih (i + 1) k (by omega) (by omega) fun j hj => ?_
      by_cases e : j = i
      · subst e; simpa using h
      · exact h0 j (by omega)
theorem rfind_f (l : List S135) (nm : ByteArray) (hl : l.length ≤ 1000) : guidevaneref09_find.f 1001 l nm = some (idxF (fun o : S135 => o.f0.toList == nm.toList) l) := by
  unfold guidevaneref09_find.f
  exact rfind_go l nm hl l.length 0 1001 (by omega) (by omega) (fun j hj => absurd hj (by omega))
theorem keep4 {wr W : World} {a b c d : Addr} {u v x y : Value} (ha : wr.cell? a = some u) (hb : wr.cell? b = some v) (hc : wr.cell? c = some x) (hd : wr.cell? d = some y) (h : Below wr.heap.size wr W) : W.cell? a = some u ∧ W.cell? b = some v ∧ W.cell? c = some x ∧ W.cell? d = some y ∧ Below wr.heap.size wr W :=
  ⟨(h.cell (World.block_lt_of_cell? wr _ ha)).trans ha, (h.cell (World.block_lt_of_cell? wr _ hb)).trans hb, (h.cell (World.block_lt_of_cell? wr _ hc)).trans hc, (h.cell (World.block_lt_of_cell? wr _ hd)).trans hd, h⟩
def rulesTail (ups : List Int) (hold : Int) (ps : List S135) : Int × Int :=
  let e1 := firstI [unlessI (decide (0 ≤ hold) && decide (hold ≤ 1000000)) 2, unlessI (decide ((ps.length : Int) ≤ 10)) 8]
  if e1 = 0 then personsOut ps ups.length else (0, e1)
def rulesSteps (ups downs : List Int) (hold : Int) (ps : List S135) : Int × Int :=
  match firstBad ups.length (stepErr ups downs) with
  | some i => ((i : Int), stepErr ups downs i)
  | none => rulesTail ups hold ps
theorem rulesOut_eq (ups downs : List Int) (hold : Int) (ps : List S135) : rulesOut ups downs hold ps = if ups.length = 0 ∨ downs.length ≠ ups.length then (0, 10) else if 5 < ups.length then (0, 8) else rulesSteps ups downs hold ps := by
  unfold rulesOut
  by_cases h0 : ups.length = 0 ∨ downs.length ≠ ups.length
  · rw [if_pos h0]
    have hb : (decide (0 < (ups.length : Int)) && ((downs.length : Int) == (ups.length : Int))) = false := by
      rw [Bool.and_eq_false_iff]
      rcases h0 with h0 | h0
      · left; exact decide_eq_false (by omega)
      · right; exact beq_eq_false_iff_ne.2 (by omega)
    rw [hb]; simp [firstI, unlessI]
  · rw [if_neg h0]
    have hb : (decide (0 < (ups.length : Int)) && ((downs.length : Int) == (ups.length : Int))) = true := by
      rw [Bool.and_eq_true]
      exact ⟨decide_eq_true (by omega), beq_iff_eq.2 (by omega)⟩
    rw [hb]
    by_cases h5 : 5 < ups.length
    · rw [if_pos h5, show decide ((ups.length : Int) ≤ 5) = false from decide_eq_false (by omega)]; simp [firstI, unlessI]
    · rw [if_neg h5, show decide ((ups.length : Int) ≤ 5) = true from decide_eq_true (by omega)]
      show (if (0 : Int) = 0 then _ else _) = _
      rw [if_pos rfl]; rfl
set_option maxHeartbeats 8000000 in
set_option maxRecDepth 100000 in
theorem guidevaneref09_CheckRules.calls (A0_0 : Option Addr) (c0_0 : Nat) (l0_0 : List Int) (A0_1 : Option Addr) (c0_1 : Nat) (l0_1 : List Int) (a0_2 : Int) (A0_3 : Option Addr) (c0_3 : Nat) (l0_3 : List S135) (r1 : Int) (r2 : Int) (w : World) (hr0_0 : Kd.C (Kd.int .i64) w A0_0 l0_0.length l0_0) (hc0_0 : l0_0.length ≤ c0_0) (hr0_1 : Kd.C (Kd.int .i64) w A0_1 l0_1.length l0_1) (hc0_1 : l0_1.length ≤ c0_1) (hr0_3 : Kd.C k135 w A0_3 l0_3.length l0_3) (hc0_3 : l0_3.length ≤ c0_3) (h : guidevaneref09_CheckRules.f l0_0 l0_1 a0_2 l0_3 = some (r1, r2)) :
    Calls Try.prog 56 #[.agg #[.slice A0_0 l0_0.length c0_0, .slice A0_1 l0_1.length c0_1, .int .i64 a0_2, .slice A0_3 l0_3.length c0_3]] w fun e w' => e = .returned (.tuple #[.int .i64 r1, .int .i64 r2]) ∧ Below w.heap.size w w' := by
  have hu1 := Try.underlying85
  have hu2 := Try.underlying135
  have hh : (l0_0.length ≤ 1000 ∧ l0_3.length ≤ 1000 ∧ ∀ p ∈ l0_3, p.f0.size ≤ 1000) ∧ rulesOut l0_0 l0_1 a0_2 l0_3 = (r1, r2) := by
    unfold guidevaneref09_CheckRules.f at h
    split at h
    · exact ⟨by assumption, Option.some.inj h⟩
    · exact absurd h (by simp)
  obtain ⟨⟨hn0, hn3, hnm⟩, hout⟩ := hh
  rw [rulesOut_eq] at hout
  have hm1 : l0_1.length ≤ 9223372036854775807 := hr0_1.2.1
  have HR0 := Aside0.mk hr0_0
  have HR1 := Aside0.mk hr0_1
  have HR3 := Aside0.mk hr0_3
  have HC := Aside0.mk (And.intro hc0_0 (And.intro hc0_1 hc0_3))
  have HNM := Aside0.mk hnm
  have HOUT := Aside0.mk hout
  clear h hnm hout hr0_0 hr0_1 hr0_3 hc0_0 hc0_1 hc0_3
  have hcs : (((l0_0.length : Int) == 0) = true ∧ (r1, r2) = ((0, 10) : Int × Int)) ∨ (((l0_0.length : Int) == 0) = false ∧ ((l0_1.length : Int) != (l0_0.length : Int)) = true ∧ (r1, r2) = ((0, 10) : Int × Int))
      ∨ (((l0_0.length : Int) == 0) = false ∧ ((l0_1.length : Int) != (l0_0.length : Int)) = false ∧ 5 < (l0_0.length : Int) ∧ (r1, r2) = ((0, 8) : Int × Int))
      ∨ (((l0_0.length : Int) == 0) = false ∧ ((l0_1.length : Int) != (l0_0.length : Int)) = false ∧ ¬ 5 < (l0_0.length : Int) ∧ (rulesSteps l0_0 l0_1 a0_2 l0_3 = (r1, r2) ∧ l0_1.length = l0_0.length)) := by
    have ho := HOUT.out
    by_cases h0 : l0_0.length = 0
    · rw [if_pos (.inl h0)] at ho
      exact .inl ⟨beq_iff_eq.2 (by omega), ho.symm⟩
    · by_cases h1 : l0_1.length = l0_0.length
      · rw [if_neg (by omega)] at ho
        by_cases h5 : 5 < l0_0.length
        · rw [if_pos h5] at ho
          exact .inr (.inr (.inl ⟨beq_eq_false_iff_ne.2 (by omega), by rw [bne_eq_false_iff_eq]; omega, by omega, ho.symm⟩))
        · rw [if_neg h5] at ho
          exact .inr (.inr (.inr ⟨beq_eq_false_iff_ne.2 (by omega), by rw [bne_eq_false_iff_eq]; omega, by omega, ho, h1⟩))
      · rw [if_pos (.inr h1)] at ho
        exact .inr (.inl ⟨beq_eq_false_iff_ne.2 (by omega), by rw [bne_iff_ne]; omega, ho.symm⟩)
  clear HOUT
  obtain ⟨w1, hw, hX, hb1⟩ := alloc1 w #[.slice A0_0 l0_0.length c0_0, .slice A0_1 l0_1.length c0_1, .int .i64 a0_2, .slice A0_3 l0_3.length c0_3] 85
  obtain ⟨hx0, hx1, hx2, hx3⟩ := cells4 hX
  have HX := Aside0.mk hX
  have HB1 := Aside0.mk hb1
  have HW := Aside0.mk hw
  clear hX hb1 hw
  rcases hcs with ⟨h1, h2⟩ | ⟨h1, h2, h3⟩ | ⟨h1, h2, h3, h4⟩ | ⟨h1, h2, h3, h4⟩
  · simp only [Prod.mk.injEq] at h2
    obtain ⟨rfl, rfl⟩ := h2
    go_enter Try.func56, Try.ntmps56
    go_upto_region 1 with fail
    rw [← HW.out]
    go_wp2
    go_ret2
    exact ⟨rfl, HB1.out⟩
  · simp only [Prod.mk.injEq] at h3
    obtain ⟨rfl, rfl⟩ := h3
    go_enter Try.func56, Try.ntmps56
    go_upto_region 1 with fail
    rw [← HW.out]
    go_wp2
    go_ret2
    exact ⟨rfl, HB1.out⟩
  · simp only [Prod.mk.injEq] at h4
    obtain ⟨rfl, rfl⟩ := h4
    go_enter Try.func56, Try.ntmps56
    go_upto_region 1 with fail
    rw [← HW.out]
    go_wp2
    go_ret2
    exact ⟨rfl, HB1.out⟩
  · obtain ⟨hst, hdl⟩ := h4
    have HST := Aside0.mk hst
    have HDL := Aside0.mk hdl
    have h5 : l0_0.length ≤ 5 := by omega
    clear hst hdl
    go_enter Try.func56, Try.ntmps56
    go_upto_region 1 with fail
    rw [← HW.out]
    clear HW
    go_wp2
    go_loopg [4] l0_0.length (fun gg s4 wr => ∃ i : Nat, i ≤ l0_0.length ∧ l0_0.length - i ≤ gg ∧ s4 = .int .i64 i ∧ Aside0 (∀ j, j < i → stepErr l0_0 l0_1 j = 0) ∧ Aside0 (Below w1.heap.size w1 wr))
    case atStart => exact ⟨0, by omega, by omega, rfl, ⟨fun j hj => absurd hj (by omega)⟩, ⟨Below.refl _ _⟩⟩
    case round =>
      obtain ⟨i, hi, hgg, rfl, HJ, HB⟩ := hrel
      clear hx0 hx1 hx2 hx3 h1 h2 h3
      have HBw := Aside0.mk (below_weaken HB1.out HB1.out.size HB.out)
      obtain ⟨hx0, hx1, hx2, hx3⟩ := cells4 (blk_below HX.out HB.out)
      by_cases hin : i < l0_0.length
      case pos =>
        have hlt : (i : Int) < (l0_0.length : Int) := by omega
        have hlt1 : (i : Int) < (l0_1.length : Int) := by have := HDL.out; omega
        have hi0 : (0 : Int) ≤ (i : Int) := by omega
        obtain ⟨ad0, e1, hy0⟩ := Kd.at_int (Kd.C_below HR0.out HBw.out) (i : Int) hi0 hlt
        cases e1
        obtain ⟨ad1, e1, hy1⟩ := Kd.at_int (Kd.C_below HR1.out HBw.out) (i : Int) hi0 hlt1
        cases e1
        obtain ⟨_, e1, hz0⟩ := Kd.at_int (Kd.C_below HR0.out HBw.out) ((i - 1 : Nat) : Int) (by omega) (by omega)
        cases e1
        obtain ⟨_, e1, hz1⟩ := Kd.at_int (Kd.C_below HR1.out HBw.out) ((i - 1 : Nat) : Int) (by omega) (by omega)
        cases e1
        rw [show rd l0_0 (i : Int) = l0_0.getD i 0 from rfl, Int.toNat_natCast] at hy0
        rw [show rd l0_1 (i : Int) = l0_1.getD i 0 from rfl, Int.toNat_natCast] at hy1
        rw [show rd l0_0 ((i - 1 : Nat) : Int) = l0_0.getD (i - 1) 0 from rfl, Int.toNat_natCast] at hz0
        rw [show rd l0_1 ((i - 1 : Nat) : Int) = l0_1.getD (i - 1) 0 from rfl, Int.toNat_natCast] at hz1
        have HBAD := Aside0.mk (show ∀ e, stepErr l0_0 l0_1 i = e → ¬ e = 0 → r1 = (i : Int) ∧ r2 = e from by
          intro e he hne
          have hs := HST.out
          unfold rulesSteps at hs
          rw [firstBad_some hin HJ.out (by rw [he]; exact hne)] at hs
          simp only [Prod.mk.injEq] at hs
          exact ⟨hs.1.symm, by rw [← hs.2, he]⟩)
        obtain ⟨se, hse⟩ : ∃ se, se = stepErr l0_0 l0_1 i := ⟨_, rfl⟩
        rw [← hse] at HBAD
        have HSE := Aside0.mk hse
        unfold stepErr at hse
        have HW1 := Aside0.mk (bw_f (l0_0.getD i 0) 1 1000000)
        have HW2 := Aside0.mk (bw_f (l0_1.getD i 0) 1 1000000)
        rw [show (decide (1 ≤ l0_0.getD i 0) && decide (l0_0.getD i 0 ≤ 1000000)) = isThr (l0_0.getD i 0) from rfl] at HW1
        rw [show (decide (1 ≤ l0_1.getD i 0) && decide (l0_1.getD i 0 ≤ 1000000)) = isThr (l0_1.getD i 0) from rfl] at HW2
        generalize isThr (l0_0.getD i 0) = b1 at *
        generalize isThr (l0_1.getD i 0) = b2 at *
        generalize l0_0.getD i 0 = u at *
        generalize l0_1.getD i 0 = d at *
        generalize l0_0.getD (i - 1) 0 = u' at *
        generalize l0_1.getD (i - 1) 0 = d' at *
        have HQ := Aside0.mk hse
        have HBB := Aside0.mk (Below.refl wr.heap.size wr)
        clear hse hx2 hx3
        cases b1
        · have hq := (HBAD.out 2 (by rw [HQ.out]; simp [firstI, unlessI]) (by decide))
          obtain ⟨rfl, rfl⟩ := hq
          clear HQ HBAD HSE
          go_wp2_with (go_at_call 15; refine (guidevanebase_Within.calls _ _ _ _ _ HW1.out).mono ?_; rintro e w3 ⟨rfl, hd⟩; have hb := hd.below; have hx0 := (hb.cell (World.block_lt_of_cell? _ _ hx0)).trans hx0; have hx1 := (hb.cell (World.block_lt_of_cell? _ _ hx1)).trans hx1; have hy0 := (hb.cell (World.block_lt_of_cell? _ _ hy0)).trans hy0; have hy1 := (hb.cell (World.block_lt_of_cell? _ _ hy1)).trans hy1; have hz0 := (hb.cell (World.block_lt_of_cell? _ _ hz0)).trans hz0; have hz1 := (hb.cell (World.block_lt_of_cell? _ _ hz1)).trans hz1; have HBB := Aside0.mk (below_step HBB.out hb); clear hb hd)
          go_ret2
          exact ⟨rfl, below_step HBw.out HBB.out⟩
        · cases b2
          · have hq := (HBAD.out 2 (by rw [HQ.out]; simp [firstI, unlessI]) (by decide))
            obtain ⟨rfl, rfl⟩ := hq
            clear HQ HBAD HSE
            go_wp2_with (first | (go_at_call 15; refine (guidevanebase_Within.calls _ _ _ _ _ HW1.out).mono ?_; rintro e w3 ⟨rfl, hd⟩; have hb := hd.below; have hx0 := (hb.cell (World.block_lt_of_cell? _ _ hx0)).trans hx0; have hx1 := (hb.cell (World.block_lt_of_cell? _ _ hx1)).trans hx1; have hy0 := (hb.cell (World.block_lt_of_cell? _ _ hy0)).trans hy0; have hy1 := (hb.cell (World.block_lt_of_cell? _ _ hy1)).trans hy1; have hz0 := (hb.cell (World.block_lt_of_cell? _ _ hz0)).trans hz0; have hz1 := (hb.cell (World.block_lt_of_cell? _ _ hz1)).trans hz1; have HBB := Aside0.mk (below_step HBB.out hb); clear hb hd; clear HW1) | (go_at_call 15; refine (guidevanebase_Within.calls _ _ _ _ _ HW2.out).mono ?_; rintro e w3 ⟨rfl, hd⟩; have hb := hd.below; have hx0 := (hb.cell (World.block_lt_of_cell? _ _ hx0)).trans hx0; have hx1 := (hb.cell (World.block_lt_of_cell? _ _ hx1)).trans hx1; have hy0 := (hb.cell (World.block_lt_of_cell? _ _ hy0)).trans hy0; have hy1 := (hb.cell (World.block_lt_of_cell? _ _ hy1)).trans hy1; have hz0 := (hb.cell (World.block_lt_of_cell? _ _ hz0)).trans hz0; have hz1 := (hb.cell (World.block_lt_of_cell? _ _ hz1)).trans hz1; have HBB := Aside0.mk (below_step HBB.out hb); clear hb hd))
            go_ret2
            exact ⟨rfl, below_step HBw.out HBB.out⟩
          · go_upto_region 10 with (first | (go_at_call 15; refine (guidevanebase_Within.calls _ _ _ _ _ HW1.out).mono ?_; rintro e w3 ⟨rfl, hd⟩; have hb := hd.below; have hx0 := (hb.cell (World.block_lt_of_cell? _ _ hx0)).trans hx0; have hx1 := (hb.cell (World.block_lt_of_cell? _ _ hx1)).trans hx1; have hy0 := (hb.cell (World.block_lt_of_cell? _ _ hy0)).trans hy0; have hy1 := (hb.cell (World.block_lt_of_cell? _ _ hy1)).trans hy1; have hz0 := (hb.cell (World.block_lt_of_cell? _ _ hz0)).trans hz0; have hz1 := (hb.cell (World.block_lt_of_cell? _ _ hz1)).trans hz1; have HBB := Aside0.mk (below_step HBB.out hb); clear hb hd; clear HW1) | (go_at_call 15; refine (guidevanebase_Within.calls _ _ _ _ _ HW2.out).mono ?_; rintro e w3 ⟨rfl, hd⟩; have hb := hd.below; have hx0 := (hb.cell (World.block_lt_of_cell? _ _ hx0)).trans hx0; have hx1 := (hb.cell (World.block_lt_of_cell? _ _ hx1)).trans hx1; have hy0 := (hb.cell (World.block_lt_of_cell? _ _ hy0)).trans hy0; have hy1 := (hb.cell (World.block_lt_of_cell? _ _ hy1)).trans hy1; have hz0 := (hb.cell (World.block_lt_of_cell? _ _ hz0)).trans hz0; have hz1 := (hb.cell (World.block_lt_of_cell? _ _ hz1)).trans hz1; have HBB := Aside0.mk (below_step HBB.out hb); clear hb hd))
            clear HW2
            by_cases hdu : u < d
            · have hq := (HBAD.out 3 (by rw [HQ.out, show decide (d ≤ u) = false from decide_eq_false (by omega)]; simp [firstI, unlessI]) (by decide))
              obtain ⟨rfl, rfl⟩ := hq
              clear HQ HBAD HSE hz0 hz1
              go_quiet (fail)
              go_wp2
              go_ret2
              exact ⟨rfl, below_step HBw.out (by repeat (first | exact HBB.out | apply pw_below_drewN | apply below_drew))⟩
            · have hq := HQ.out
              rw [show decide (d ≤ u) = true from decide_eq_true (by omega)] at hq
              have HQ := Aside0.mk hq
              clear hq
              go_quiet (fail)
              go_upto_region 12 with fail
              have HBB2 := Aside0.mk (show Below wr.heap.size wr _ from pw_below_drewN HBB.out nq)
              have hx0 : (w3.drewN nq).cell? ⟨w.heap.size, 0, none⟩ = _ := hx0
              have hx1 : (w3.drewN nq).cell? ⟨w.heap.size, 1, none⟩ = _ := hx1
              have hy0 : (w3.drewN nq).cell? (ad0.add i) = _ := hy0
              have hy1 : (w3.drewN nq).cell? (ad1.add i) = _ := hy1
              have hz0 : (w3.drewN nq).cell? (ad0.add (i - 1)) = _ := hz0
              have hz1 : (w3.drewN nq).cell? (ad1.add (i - 1)) = _ := hz1
              generalize w3.drewN nq = w4 at *
              rcases Nat.eq_zero_or_pos i with hi1 | hi1
              · have hi2 : decide ((0 : Int) < (i : Int)) = false := decide_eq_false (by omega)
                have hi3 : decide (0 < i) = false := decide_eq_false (by omega)
                have hi4 : ¬ 0 < i := by omega
                have HZ := Aside0.mk (show stepErr l0_0 l0_1 i = 0 by rw [← HSE.out, HQ.out, hi1]; simp [firstI, unlessI])
                clear hi1 hz0 hz1 HQ HBAD HSE
                go_quiet (fail)
                go_wp2
                go_roundg (l0_0.length - (i + 1))
                case measure => omega
                case rel =>
                  refine ⟨i + 1, by omega, by omega, by go_num, ⟨fun j hj => ?_⟩, ⟨below_step HB.out (by repeat (first | exact HBB2.out | apply pw_below_drewN | apply below_drew))⟩⟩
                  by_cases e : j = i
                  · subst e; exact HZ.out
                  · exact HJ.out j (by omega)
              · obtain ⟨m, rfl⟩ : ∃ m, i = m + 1 := ⟨i - 1, by omega⟩
                rw [show m + 1 - 1 = m by omega] at hz0 hz1
                have hy0 : w4.cell? ⟨ad0.block, ad0.off + (m + 1), none⟩ = some (.int .i64 u) := by have := hy0; simpa [Addr.add] using this
                have hy1 : w4.cell? ⟨ad1.block, ad1.off + (m + 1), none⟩ = some (.int .i64 d) := by have := hy1; simpa [Addr.add] using this
                have hi2 : (0 : Int) < (m : Int) + 1 := by omega
                have hi3 : decide ((0 : Int) < (m : Int) + 1) = true := decide_eq_true hi2
                have hp0 : (0 : Int) ≤ (m : Int) + 1 := by omega
                have hp1 : (m : Int) + 1 < (l0_0.length : Int) := by omega
                have hp2 : (m : Int) + 1 < (l0_1.length : Int) := by omega
                have hp3 : ((m : Int) + 1).toNat = m + 1 := by omega
                have hs1 : IntKind.i64.wrap ((m : Int) + 1 - 1) = (m : Int) := by simp [IntKind.wrap, IntKind.signed, IntKind.bits]; omega
                have hs2 : IntKind.i64.wrap (m : Int) = (m : Int) := by simp [IntKind.wrap, IntKind.signed, IntKind.bits]; omega
                have hm0 : (0 : Int) ≤ (m : Int) := by omega
                have hml : (m : Int) < (l0_0.length : Int) := by omega
                have hml1 : (m : Int) < (l0_1.length : Int) := by omega
                have hq0 := HQ.out
                rw [show (m + 1 == 0) = false from rfl, Bool.false_or] at hq0
                have HQ := Aside0.mk hq0
                clear hq0 hi1
                by_cases hc1 : u ≤ u'
                · have hq := (HBAD.out 9 (by rw [HQ.out, show decide (u > u') = false from decide_eq_false (by omega)]; simp [firstI, unlessI]) (by decide))
                  obtain ⟨rfl, rfl⟩ := hq
                  clear HQ HBAD HSE
                  go_quiet (fail)
                  go_wp2
                  go_ret2
                  exact ⟨rfl, below_step HBw.out (by repeat (first | exact HBB2.out | apply pw_below_drewN | apply below_drew))⟩
                · have hc3 : decide (u ≤ u') = false := decide_eq_false hc1
                  by_cases hc2 : d < d'
                  · have hq := (HBAD.out 9 (by rw [HQ.out, show decide (d ≥ d') = false from decide_eq_false (by omega)]; simp [firstI, unlessI]) (by decide))
                    obtain ⟨rfl, rfl⟩ := hq
                    clear HQ HBAD HSE
                    go_quiet (fail)
                    go_wp2
                    go_ret2
                    exact ⟨rfl, below_step HBw.out (by repeat (first | exact HBB2.out | apply pw_below_drewN | apply below_drew))⟩
                  · have HZ := Aside0.mk (show stepErr l0_0 l0_1 (m + 1) = 0 by rw [← HSE.out, HQ.out, show decide (u > u') = true from decide_eq_true (by omega), show decide (d ≥ d') = true from decide_eq_true (by omega)]; simp [firstI, unlessI])
                    clear HQ HBAD HSE
                    go_quiet (fail)
                    go_wp2
                    go_roundg (l0_0.length - (m + 1 + 1))
                    case measure => omega
                    case rel =>
                      refine ⟨m + 1 + 1, by omega, by omega, by go_num, ⟨fun j hj => ?_⟩, ⟨below_step HB.out (by repeat (first | exact HBB2.out | apply pw_below_drewN | apply below_drew))⟩⟩
                      by_cases e : j = m + 1
                      · subst e; exact HZ.out
                      · exact HJ.out j (by omega)
      case neg =>
        obtain rfl : i = l0_0.length := by omega
        have hs := HST.out
        unfold rulesSteps at hs
        rw [firstBad_none HJ.out] at hs
        simp only at hs
        unfold rulesTail at hs
        have HW1 := Aside0.mk (bw_f a0_2 0 1000000)
        generalize (decide (0 ≤ a0_2) && decide (a0_2 ≤ 1000000)) = b1 at *
        have HS := Aside0.mk hs
        have HBB := Aside0.mk (Below.refl wr.heap.size wr)
        clear hs HST
        cases b1
        · have hs := HS.out
          simp only [firstI, unlessI] at hs
          simp at hs
          obtain ⟨rfl, rfl⟩ := hs
          clear HS
          go_wp2_with (go_at_call 15; refine (guidevanebase_Within.calls _ _ _ _ _ HW1.out).mono ?_; rintro e w3 ⟨rfl, hd⟩; have HBB := Aside0.mk hd.below; clear hd)
          go_ret2
          exact ⟨rfl, below_step HBw.out HBB.out⟩
        · go_upto_region 16 with (go_at_call 15; refine (guidevanebase_Within.calls _ _ _ _ _ HW1.out).mono ?_; rintro e w3 ⟨rfl, hd⟩; have HBB := Aside0.mk hd.below; clear hd)
          have hbb := below_step HBw.out HBB.out
          have hXX := blk_below (blk_below HX.out HB.out) HBB.out
          clear hx0 hx1 hx2 hx3
          generalize w3 = w5 at *
          have HB5 := Aside0.mk hbb
          have HX5 := Aside0.mk hXX
          obtain ⟨hx0, hx1, hx2, hx3⟩ := cells4 hXX
          clear hbb HBB HBw HB
          by_cases hp : 10 < (l0_3.length : Int)
          · have hs := HS.out
            rw [show decide ((l0_3.length : Int) ≤ 10) = false from decide_eq_false (by omega)] at hs
            simp only [firstI, unlessI] at hs
            simp at hs
            obtain ⟨rfl, rfl⟩ := hs
            clear HS
            go_wp2
            go_ret2
            exact ⟨rfl, HB5.out⟩
          · have hs := HS.out
            rw [show decide ((l0_3.length : Int) ≤ 10) = true from decide_eq_true (by omega)] at hs
            simp only [firstI, unlessI] at hs
            simp only [if_true] at hs
            have HS := Aside0.mk hs
            clear hs
            go_wp2
            go_loopg [5] l0_3.length (fun gg s5 wr => ∃ i : Nat, i ≤ l0_3.length ∧ l0_3.length - i ≤ gg ∧ s5 = .int .i64 i ∧ Aside0 (∀ j, j < i → personErr l0_3 l0_0.length z135 j = 0) ∧ Aside0 (Below w5.heap.size w5 wr))
            case atStart => exact ⟨0, by omega, by omega, rfl, ⟨fun j hj => absurd hj (by omega)⟩, ⟨Below.refl _ _⟩⟩
            case round =>
              obtain ⟨i, hi, hgg, rfl, HJ, HB⟩ := hrel
              clear hx0 hx1 hx2 hx3 hp
              have HBw := Aside0.mk (below_weaken HB5.out HB5.out.size HB.out)
              obtain ⟨hx0, hx1, hx2, hx3⟩ := cells4 (blk_below HX5.out HB.out)
              by_cases hin : i < l0_3.length
              case neg =>
                obtain rfl : i = l0_3.length := by omega
                have hs := HS.out
                unfold personsOut at hs
                rw [firstBad_none HJ.out] at hs
                simp only [Prod.mk.injEq] at hs
                obtain ⟨rfl, rfl⟩ := hs
                go_wp2
                go_ret2
                exact ⟨rfl, HBw.out⟩
              case pos =>
                have hlt : (i : Int) < (l0_3.length : Int) := by omega
                have hi0 : (0 : Int) ≤ (i : Int) := by omega
                obtain ⟨ad, e1, hv0, hv1⟩ := at_T135 (Kd.C_below HR3.out HBw.out) (i : Int) hi0 hlt
                cases e1
                rw [rdPe, Int.toNat_natCast] at hv0 hv1
                have hti : (l0_3.take i).length = i := by simp; omega
                have hcc := HC.out.2.2
                have hic : (i : Int) ≤ (c0_3 : Int) := by omega
                obtain ⟨x, hx⟩ : ∃ x, x = l0_3.getD i z135 := ⟨_, rfl⟩
                rw [← hx] at hv0 hv1
                have hxm : x ∈ l0_3 := by rw [hx, List.getD_eq_getElem?_getD, List.getElem?_eq_getElem hin]; exact List.getElem_mem hin
                obtain ⟨q, hq⟩ : ∃ q, q = idxF (fun o : S135 => o.f0.toList == x.f0.toList) (l0_3.take i) := ⟨_, rfl⟩
                have HF := Aside0.mk (show ∀ W, Below wr.heap.size wr W → Calls Try.prog 102 #[.slice (some ad) i c0_3, .string x.f0] W fun e w' => e = .returned (.int .i64 q) ∧ Drawn0 W w' from by
                  intro W hb
                  have h1 := guidevaneref09_find.calls 1001 (some ad) c0_3 (l0_3.take i) x.f0 q W (Kd.C_take (Kd.C_below HR3.out (below_weaken HBw.out HBw.out.size hb)) hi) (by rw [hti]; omega) ((rfind_f _ _ (by rw [hti]; omega)).trans (by rw [hq]))
                  rw [hti] at h1
                  exact h1)
                have HNf := Aside0.mk (show guidevanebase_IsName.f x.f0 = some (nameOk x.f0) from by unfold guidevanebase_IsName.f; rw [if_pos (by have := HNM.out x hxm; omega)])
                have HWf := Aside0.mk (bw_f x.f1 1 (l0_0.length : Int))
                have hany := idxF_any (fun o : S135 => o.f0.toList == x.f0.toList) (l0_3.take i)
                rw [← hq] at hany
                obtain ⟨es, hes⟩ : ∃ es, es = personErr l0_3 l0_0.length z135 i := ⟨_, rfl⟩
                have HES := Aside0.mk hes
                unfold personErr at hes
                rw [← hx, ← hany] at hes
                obtain ⟨bn, hbn⟩ : ∃ bn, bn = nameOk x.f0 := ⟨_, rfl⟩
                obtain ⟨bw, hbw⟩ : ∃ bw, bw = (decide (1 ≤ x.f1) && decide (x.f1 ≤ (l0_0.length : Int))) := ⟨_, rfl⟩
                rw [← hbn] at HNf hes
                rw [← hbw] at HWf hes
                have HQ := Aside0.mk hes
                have HBAD := Aside0.mk (show ¬ es = 0 → r1 = (i : Int) ∧ r2 = es from by
                  intro hne
                  have hs := HS.out
                  unfold personsOut at hs
                  rw [firstBad_some hin HJ.out (by rw [← HES.out]; exact hne)] at hs
                  simp only [Prod.mk.injEq] at hs
                  exact ⟨hs.1.symm, by rw [← hs.2, ← HES.out]⟩)
                obtain ⟨nm, hnm⟩ : ∃ nm, nm = x.f0 := ⟨_, rfl⟩
                obtain ⟨rk, hrk⟩ : ∃ rk, rk = x.f1 := ⟨_, rfl⟩
                rw [← hnm] at HNf HF hv0
                rw [← hrk] at HWf hv1
                clear hes hany hbn hbw hq hx hxm hnm hrk hti hx1 hx2 HS
                have HIN := Aside0.mk hin
                cases bn
                · have he4 : es = 4 := by rw [HQ.out]; simp [firstI, unlessI]
                  obtain ⟨rfl, rfl⟩ := HBAD.out (by omega)
                  subst he4
                  clear HQ HBAD HES HF
                  go_wp2_with (go_at_call 101; refine (guidevanebase_IsName.calls _ _ _ HNf.out).mono ?_; rintro e w3 ⟨rfl, hd⟩; have HD := Aside0.mk hd; clear hd)
                  go_ret2
                  exact ⟨rfl, below_step HBw.out HD.out⟩
                · have HBB := Aside0.mk (Below.refl wr.heap.size wr)
                  go_upto_region 23 with (go_at_call 101; refine (guidevanebase_IsName.calls _ _ _ HNf.out).mono ?_; rintro e w3 ⟨rfl, hb⟩; have hx0 := (hb.cell (World.block_lt_of_cell? _ _ hx0)).trans hx0; have hx3 := (hb.cell (World.block_lt_of_cell? _ _ hx3)).trans hx3; have hv0 := (hb.cell (World.block_lt_of_cell? _ _ hv0)).trans hv0; have hv1 := (hb.cell (World.block_lt_of_cell? _ _ hv1)).trans hv1; have HBB := Aside0.mk (below_step HBB.out hb); clear hb)
                  go_region_held3 (fun w' => w'.cell? ⟨w.heap.size, 0, none⟩ = some (.slice A0_0 l0_0.length c0_0) ∧ w'.cell? ⟨w.heap.size, 3, none⟩ = some (.slice (some ad) l0_3.length c0_3) ∧ w'.cell? (ad.add (i * 2)) = some (.string nm) ∧ w'.cell? ⟨(ad.add (i * 2)).block, (ad.add (i * 2)).off + 1, none⟩ = some (.int .i64 rk) ∧ Below w3.heap.size w3 w')
                    ((refine keep4 hx0 hx3 hv0 hv1 ?_; repeat (first | assumption | exact Below.refl _ _ | apply pw_below_drewN | apply below_drew | apply below_alloc | (iterate 4 apply And.right; assumption) | refine below_step ?_ (by assumption))))
                    (first | (go_at_call 102; refine (HF.out _ (below_step HBB.out (by (repeat (first | assumption | exact Below.refl _ _ | apply pw_below_drewN | apply below_drew | (iterate 4 apply And.right; assumption)))))).mono ?_; rintro e w4 ⟨rfl, hb3⟩; have hb4 := hb3.below; clear hb3))
                  have hb5 : Below w3.heap.size w3 w4 := below_step (below_drew (Below.refl _ _)) hb4
                  have hx0 := (hb5.cell (World.block_lt_of_cell? _ _ hx0)).trans hx0
                  have hx3 := (hb5.cell (World.block_lt_of_cell? _ _ hx3)).trans hx3
                  have hv1 := (hb5.cell (World.block_lt_of_cell? _ _ hv1)).trans hv1
                  have HB4 := Aside0.mk (below_step HBB.out hb5)
                  clear hb4 hb5 HF HBB hv0
                  by_cases hq0 : 0 ≤ q
                  · have he5 : es = 5 := by rw [HQ.out, show decide (0 ≤ q) = true from decide_eq_true hq0]; simp [firstI, unlessI]
                    obtain ⟨rfl, rfl⟩ := HBAD.out (by omega)
                    subst he5
                    clear HQ HBAD HES hx0 hx3 hv1
                    go_wp2
                    go_ret2
                    exact ⟨rfl, below_step HBw.out HB4.out⟩
                  · have hqe := HQ.out
                    rw [show decide (0 ≤ q) = false from decide_eq_false hq0] at hqe
                    have HQ := Aside0.mk hqe
                    clear hqe
                    go_upto_region 25 with fail
                    go_region_held3 (fun w' => w'.cell? ⟨w.heap.size, 0, none⟩ = some (.slice A0_0 l0_0.length c0_0) ∧ w'.cell? ⟨w.heap.size, 3, none⟩ = some (.slice (some ad) l0_3.length c0_3) ∧ w'.cell? ⟨(ad.add (i * 2)).block, (ad.add (i * 2)).off + 1, none⟩ = some (.int .i64 rk) ∧ w'.cell? ⟨(ad.add (i * 2)).block, (ad.add (i * 2)).off + 1, none⟩ = some (.int .i64 rk) ∧ Below w4.heap.size w4 w')
                      ((refine keep4 hx0 hx3 hv1 hv1 ?_; repeat (first | assumption | exact Below.refl _ _ | apply pw_below_drewN | apply below_drew | apply below_alloc | (iterate 4 apply And.right; assumption) | refine below_step ?_ (by assumption))))
                      (first | (go_at_call 15; refine (guidevanebase_Within.calls _ _ _ _ _ HWf.out).mono ?_; rintro e w6 ⟨rfl, hb3⟩; have hb4 := hb3.below; clear hb3))
                    have hb5 : Below w4.heap.size w4 w6 := below_step (below_drew (Below.refl _ _)) hb4
                    have HB6 := Aside0.mk (below_step HB4.out hb5)
                    clear hb4 hb5 hx0 hx3 hv1
                    cases bw
                    · have he2 : es = 2 := by rw [HQ.out]; simp [firstI, unlessI]
                      obtain ⟨rfl, rfl⟩ := HBAD.out (by omega)
                      subst he2
                      clear HQ HBAD HES
                      go_wp2
                      go_ret2
                      exact ⟨rfl, below_step HBw.out HB6.out⟩
                    · have HZ := Aside0.mk (show personErr l0_3 l0_0.length z135 i = 0 by rw [← HES.out, HQ.out]; simp [firstI, unlessI])
                      clear HQ HBAD HES
                      go_wp2
                      go_roundg (l0_3.length - (i + 1))
                      case measure => omega
                      case rel =>
                        refine ⟨i + 1, by omega, by omega, by go_num, ⟨fun j hj => ?_⟩, ⟨below_step HB.out HB6.out⟩⟩
                        by_cases e : j = i
                        · subst e; exact HZ.out
                        · exact HJ.out j (by omega)
end Go.Proofs.Yteopooljohdoiaa.Px
namespace Go.Proofs.Yteopooljohdoiaa.Px
open Go.RowKit Go.Proofs.YteopooljohdoiaaW.PrintWords Go.Proofs.YteopooljohdoiaaW.PrintLast Go.Proofs.YteopooljohdoiaaW.PrintMore
attribute [local go_sem] max2_int min2_int max_two min_two max_three min_three max_four min_four
mutual
def guidevanelaw09_fewRules.j0 : Nat → Bool → List Int → List Int → Int → List (S135) → Option (Bool)
  | 0, _, _, _, _, _ => none
  | k + 1, x19, x138002000, x138002001, x138002002, x138002003 => if x19 = true then (some false) else (guidevanelaw09_fewRules.l0 k 0 x138002000 x138002001 x138002002 x138002003)
def guidevanelaw09_fewRules.l0 : Nat → Int → List Int → List Int → Int → List (S135) → Option (Bool)
  | 0, _, _, _, _, _ => none
  | k + 1, x3, x138002000, x138002001, x138002002, x138002003 => if x3 < (x138002003.length : Int) then (if 0 ≤ x3 then (if (((rd_T135 x138002003 x3).f0).size : Int) > 30 then (some false) else (guidevanelaw09_fewRules.l0 k (wrap64 (x3 + 1)) x138002000 x138002001 x138002002 x138002003)) else (none)) else (some true)
end
def guidevanelaw09_fewRules.f (k : Nat) (l0_0 : List Int) (l0_1 : List Int) (a0_2 : Int) (l0_3 : List (S135)) : Option (Bool) := if (l0_0.length : Int) > 7 then (guidevanelaw09_fewRules.j0 k true l0_0 l0_1 a0_2 l0_3) else (if (l0_1.length : Int) > 7 then (guidevanelaw09_fewRules.j0 k true l0_0 l0_1 a0_2 l0_3) else (guidevanelaw09_fewRules.j0 k (decide ((l0_3.length : Int) > 12)) l0_0 l0_1 a0_2 l0_3))
theorem guidevanelaw09_fewRules.mono_l : ∀ k, (∀ y0 y1 y2 y3 y4, LeO (guidevanelaw09_fewRules.j0 k y0 y1 y2 y3 y4) (guidevanelaw09_fewRules.j0 (k + 1) y0 y1 y2 y3 y4)) ∧ (∀ y0 y1 y2 y3 y4, LeO (guidevanelaw09_fewRules.l0 k y0 y1 y2 y3 y4) (guidevanelaw09_fewRules.l0 (k + 1) y0 y1 y2 y3 y4))
  | 0 => ⟨fun _ _ _ _ _ r h => by simp [guidevanelaw09_fewRules.j0] at h, fun _ _ _ _ _ r h => by simp [guidevanelaw09_fewRules.l0] at h⟩
  | k + 1 => by
    obtain ⟨ih0, ih1⟩ := guidevanelaw09_fewRules.mono_l k
    refine ⟨?_, ?_⟩
    · intro y0 y1 y2 y3 y4
      unfold guidevanelaw09_fewRules.j0
      repeat' first
      | (with_reducible exact ih0 _ _ _ _ _)
      | (with_reducible exact ih1 _ _ _ _ _)
      | (with_reducible exact LeO.refl _)
      | (with_reducible exact LeO.none _)
      | (with_reducible refine LeO.ite ?_ ?_)
      | (with_reducible refine LeO.bind ?_ (fun _ => ?_))
      | exact ih0 _ _ _ _ _
      | exact ih1 _ _ _ _ _
      | exact LeO.none _
      | refine LeO.ite ?_ ?_
      | refine LeO.bind ?_ (fun _ => ?_)
    · intro y0 y1 y2 y3 y4
      unfold guidevanelaw09_fewRules.l0
      repeat' first
      | (with_reducible exact ih0 _ _ _ _ _)
      | (with_reducible exact ih1 _ _ _ _ _)
      | (with_reducible exact LeO.refl _)
      | (with_reducible exact LeO.none _)
      | (with_reducible refine LeO.ite ?_ ?_)
      | (with_reducible refine LeO.bind ?_ (fun _ => ?_))
      | exact ih0 _ _ _ _ _
      | exact ih1 _ _ _ _ _
      | exact LeO.none _
      | refine LeO.ite ?_ ?_
      | refine LeO.bind ?_ (fun _ => ?_)
theorem guidevanelaw09_fewRules.mono : ∀ a0 a1 a2 a3 k, LeO (guidevanelaw09_fewRules.f k a0 a1 a2 a3) (guidevanelaw09_fewRules.f (k + 1) a0 a1 a2 a3) := by
  intro a0 a1 a2 a3 k
  obtain ⟨ih0, ih1⟩ := guidevanelaw09_fewRules.mono_l k
  unfold guidevanelaw09_fewRules.f
  repeat' first
      | (with_reducible exact ih0 _ _ _ _ _)
      | (with_reducible exact ih1 _ _ _ _ _)
      | (with_reducible exact LeO.refl _)
      | (with_reducible exact LeO.none _)
      | (with_reducible refine LeO.ite ?_ ?_)
      | (with_reducible refine LeO.bind ?_ (fun _ => ?_))
      | exact ih0 _ _ _ _ _
      | exact ih1 _ _ _ _ _
      | exact LeO.none _
      | refine LeO.ite ?_ ?_
      | refine LeO.bind ?_ (fun _ => ?_)
set_option maxHeartbeats 8000000 in
set_option maxRecDepth 100000 in
theorem guidevanelaw09_fewRules.calls (k : Nat) (A0_0 : Option Addr) (c0_0 : Nat) (l0_0 : List Int) (A0_1 : Option Addr) (c0_1 : Nat) (l0_1 : List Int) (a0_2 : Int) (A0_3 : Option Addr) (c0_3 : Nat) (l0_3 : List (S135)) (r : Bool) (w : World) (hr0_0 : Kd.C (Kd.int .i64) w A0_0 l0_0.length l0_0) (hc0_0 : l0_0.length ≤ c0_0) (hr0_1 : Kd.C (Kd.int .i64) w A0_1 l0_1.length l0_1) (hc0_1 : l0_1.length ≤ c0_1) (hr0_3 : Kd.C k135 w A0_3 l0_3.length l0_3) (hc0_3 : l0_3.length ≤ c0_3) (h : guidevanelaw09_fewRules.f k l0_0 l0_1 a0_2 l0_3 = some r) :
    Calls Try.prog 46 #[.agg #[.slice A0_0 l0_0.length c0_0, .slice A0_1 l0_1.length c0_1, .int .i64 a0_2, .slice A0_3 l0_3.length c0_3]] w fun e w' => e = .returned (.bool r) ∧ Below w.heap.size w w' := by
  have hu85 := Try.underlying85
  have HR0_0 := Aside0.mk hr0_0
  have HC0_0 := Aside0.mk hc0_0
  clear hr0_0 hc0_0
  have HR0_1 := Aside0.mk hr0_1
  have HC0_1 := Aside0.mk hc0_1
  clear hr0_1 hc0_1
  have HR0_3 := Aside0.mk hr0_3
  have HC0_3 := Aside0.mk hc0_3
  clear hr0_3 hc0_3
  have HB := Aside0.mk (Below.refl w.heap.size w)
  have H : (if (l0_0.length : Int) > 7 then (guidevanelaw09_fewRules.j0 k true l0_0 l0_1 a0_2 l0_3) else (if (l0_1.length : Int) > 7 then (guidevanelaw09_fewRules.j0 k true l0_0 l0_1 a0_2 l0_3) else (guidevanelaw09_fewRules.j0 k (decide ((l0_3.length : Int) > 12)) l0_0 l0_1 a0_2 l0_3))) = some r := h
  clear h
  have HC2 := Aside0.mk H
  clear H
  go_enter Try.func46, Try.ntmps46
  go_upto_region 1 with (first | ((with_reducible refine gate_dst (N := 1) rfl ?_); (try (refine gate_guard (by rfl) ?_; dsimp only)); refine box_event ?hg (N := 1) ?hd (cs := #[.slice A0_0 l0_0.length c0_0, .slice A0_1 l0_1.length c0_1, .int .i64 a0_2, .slice A0_3 l0_3.length c0_3]) (t := 85) ?hr ?_; (case hd => rfl); (case hg => rfl); (case hr => first | (go_simp; done) | (go_simp; rfl)); intro gb138001 hg w3 hbox hb; have n0_ := Aside0.mk (below_step (by repeat (first | (with_reducible first | exact HB.out | apply below_alloc | apply pw_below_drewN | apply below_drew1) | exact HB.out)) hb); have n1_ := Aside0.mk (hbox); have n2_ := Aside0.mk ((by rw [hg]; exact (below_size (by repeat (first | (with_reducible first | exact HB.out | apply below_alloc | apply pw_below_drewN | apply below_drew1) | exact HB.out))) : w.heap.size ≤ gb138001)); have n3_ := Aside0.mk ((by rw [hg]; exact (below_size (by repeat (first | (with_reducible first | exact HB.out | apply below_alloc | apply pw_below_drewN | apply below_drew1) | exact HB.out))) : w.heap.size ≤ gb138001)); clear HB; have HB := n0_; have BK138001 := n1_; have GW138001 := n2_; have GE138001 := n3_; clear n0_ n1_ n2_ n3_; clear hb hbox hg))
  (try simp only [Act.put, List.setIfInBounds_toArray, List.set_cons_zero, List.set_cons_succ])
  go_cut [19] (fun v19 wc => ∃ (kq : Nat) (x19_1 : Bool), v19 = .bool x19_1 ∧ Aside0 (guidevanelaw09_fewRules.j0 kq x19_1 l0_0 l0_1 a0_2 l0_3 = some r) ∧ Aside0 (kq ≤ k) ∧ Aside0 (wc.heap[gb138001]? = some (.cells #[(.slice A0_0 l0_0.length c0_0), (.slice A0_1 l0_1.length c0_1), .int .i64 a0_2, (.slice A0_3 l0_3.length c0_3)] 85 (0, 0))) ∧ Aside0 (Below w.heap.size w wc))
  case first =>
    have H := HC2.out
    clear HC2
    by_cases c4 : (l0_0.length : Int) > 7
    · rw [if_pos c4] at H
      have c4b0 : decide (7 < (l0_0.length : Int)) = true := decide_eq_true c4
      have c4b1 : decide (7 < l0_0.length) = true := decide_eq_true (by omega)
      clear c4
      (first | rw [c4b0] | (simp only [i64_w, i32_w]; rw [c4b0]) | skip)
      have H' := Aside0.mk H
      clear H
      have hcz5_0 : w3.cell? ⟨gb138001, 0, none⟩ = some (.slice A0_0 l0_0.length c0_0) := (blk_cell BK138001.out 0).trans rfl
      have hcz5_1 : w3.cell? ⟨gb138001, 1, none⟩ = some (.slice A0_1 l0_1.length c0_1) := (blk_cell BK138001.out 1).trans rfl
      have hcz5_2 : w3.cell? ⟨gb138001, 2, none⟩ = some (.int .i64 a0_2) := (blk_cell BK138001.out 2).trans rfl
      have hcz5_3 : w3.cell? ⟨gb138001, 3, none⟩ = some (.slice A0_3 l0_3.length c0_3) := (blk_cell BK138001.out 3).trans rfl
      have hfz5_0 := blk_frozen BK138001.out 0
      have hfz5_1 := blk_frozen BK138001.out 1
      have hfz5_2 := blk_frozen BK138001.out 2
      have hfz5_3 := blk_frozen BK138001.out 3
      go_wp2
      go_meet
      case rel => exact ⟨_, (true), (by first | rfl | (simp; done) | (simp [*]; done)), H', ⟨by first | omega | exact Nat.le_refl _⟩, ⟨by (with_reducible repeat (first | refine blk_drewN ?_ _ | refine blk_drew ?_ | refine blk_alloc ?_ _)); exact BK138001.out⟩, ⟨by repeat (first | (with_reducible first | exact HB.out | apply below_alloc | apply pw_below_drewN | apply below_drew1 | refine below_set ?_ GE138001.out) | exact HB.out)⟩⟩
    · rw [if_neg c4] at H
      have c4b0 : decide (7 < (l0_0.length : Int)) = false := decide_eq_false c4
      have c4b1 : decide (7 < l0_0.length) = false := decide_eq_false (by omega)
      clear c4
      (first | rw [c4b0] | (simp only [i64_w, i32_w]; rw [c4b0]) | skip)
      by_cases c6 : (l0_1.length : Int) > 7
      · rw [if_pos c6] at H
        have c6b0 : decide (7 < (l0_1.length : Int)) = true := decide_eq_true c6
        have c6b1 : decide (7 < l0_1.length) = true := decide_eq_true (by omega)
        clear c6
        have H' := Aside0.mk H
        clear H
        have hcz7_0 : w3.cell? ⟨gb138001, 0, none⟩ = some (.slice A0_0 l0_0.length c0_0) := (blk_cell BK138001.out 0).trans rfl
        have hcz7_1 : w3.cell? ⟨gb138001, 1, none⟩ = some (.slice A0_1 l0_1.length c0_1) := (blk_cell BK138001.out 1).trans rfl
        have hcz7_2 : w3.cell? ⟨gb138001, 2, none⟩ = some (.int .i64 a0_2) := (blk_cell BK138001.out 2).trans rfl
        have hcz7_3 : w3.cell? ⟨gb138001, 3, none⟩ = some (.slice A0_3 l0_3.length c0_3) := (blk_cell BK138001.out 3).trans rfl
        have hfz7_0 := blk_frozen BK138001.out 0
        have hfz7_1 := blk_frozen BK138001.out 1
        have hfz7_2 := blk_frozen BK138001.out 2
        have hfz7_3 := blk_frozen BK138001.out 3
        go_wp2
        go_meet
        case rel => exact ⟨_, (true), (by first | rfl | (simp; done) | (simp [*]; done)), H', ⟨by first | omega | exact Nat.le_refl _⟩, ⟨by (with_reducible repeat (first | refine blk_drewN ?_ _ | refine blk_drew ?_ | refine blk_alloc ?_ _)); exact BK138001.out⟩, ⟨by repeat (first | (with_reducible first | exact HB.out | apply below_alloc | apply pw_below_drewN | apply below_drew1 | refine below_set ?_ GE138001.out) | exact HB.out)⟩⟩
      · rw [if_neg c6] at H
        have c6b0 : decide (7 < (l0_1.length : Int)) = false := decide_eq_false c6
        have c6b1 : decide (7 < l0_1.length) = false := decide_eq_false (by omega)
        clear c6
        have H' := Aside0.mk H
        clear H
        have hcz8_0 : w3.cell? ⟨gb138001, 0, none⟩ = some (.slice A0_0 l0_0.length c0_0) := (blk_cell BK138001.out 0).trans rfl
        have hcz8_1 : w3.cell? ⟨gb138001, 1, none⟩ = some (.slice A0_1 l0_1.length c0_1) := (blk_cell BK138001.out 1).trans rfl
        have hcz8_2 : w3.cell? ⟨gb138001, 2, none⟩ = some (.int .i64 a0_2) := (blk_cell BK138001.out 2).trans rfl
        have hcz8_3 : w3.cell? ⟨gb138001, 3, none⟩ = some (.slice A0_3 l0_3.length c0_3) := (blk_cell BK138001.out 3).trans rfl
        have hfz8_0 := blk_frozen BK138001.out 0
        have hfz8_1 := blk_frozen BK138001.out 1
        have hfz8_2 := blk_frozen BK138001.out 2
        have hfz8_3 := blk_frozen BK138001.out 3
        go_wp2
        go_meet
        case rel => exact ⟨_, (decide ((l0_3.length : Int) > 12)), (by first | rfl | (simp; done) | (simp [*]; done)), H', ⟨by first | omega | exact Nat.le_refl _⟩, ⟨by (with_reducible repeat (first | refine blk_drewN ?_ _ | refine blk_drew ?_ | refine blk_alloc ?_ _)); exact BK138001.out⟩, ⟨by repeat (first | (with_reducible first | exact HB.out | apply below_alloc | apply pw_below_drewN | apply below_drew1 | refine below_set ?_ GE138001.out) | exact HB.out)⟩⟩
  case rest =>
    clear HC2
    try clear p2
    try clear c4
    try clear c4b0
    try clear c4b1
    try clear c6
    try clear c6b0
    try clear c6b1
    try clear hcz5_0
    try clear hcz5_1
    try clear hcz5_2
    try clear hcz5_3
    try clear hcz7_0
    try clear hcz7_1
    try clear hcz7_2
    try clear hcz7_3
    try clear hcz8_0
    try clear hcz8_1
    try clear hcz8_2
    try clear hcz8_3
    try clear hfz5_0
    try clear hfz5_1
    try clear hfz5_2
    try clear hfz5_3
    try clear hfz7_0
    try clear hfz7_1
    try clear hfz7_2
    try clear hfz7_3
    try clear hfz8_0
    try clear hfz8_1
    try clear hfz8_2
    try clear hfz8_3
    obtain ⟨kq, x19_1, rfl, HA, HJ1, BK138001, HB⟩ := hcut
    cases kq with
    | zero => exact absurd HA.out (by simp [guidevanelaw09_fewRules.j0])
    | succ kj1 =>
      have H := HA.out
      clear HA
      simp only [guidevanelaw09_fewRules.j0] at H
      by_cases c9 : x19_1 = true
      · subst c9
        have H1 : (some false) = some r := by rw [if_pos rfl] at H; exact H
        clear H
        have H := H1
        clear H1
        obtain rfl := Option.some.inj H
        go_wp2
        go_ret
        exact ⟨by first | rfl | (simp [errW_none, errW_some] <;> rfl) | (simp [*, errW_none, errW_some] <;> rfl), by repeat (first | (with_reducible first | exact HB.out | apply below_alloc | apply pw_below_drewN | apply below_drew1 | refine below_set ?_ GE138001.out) | exact HB.out)⟩
      · replace c9 := Bool.eq_false_iff.mpr c9
        subst c9
        have H1 : (guidevanelaw09_fewRules.l0 kj1 0 l0_0 l0_1 a0_2 l0_3) = some r := by rw [if_neg (show ¬ (false = true) by decide)] at H; exact H
        clear H
        have H := H1
        clear H1
        have H' := Aside0.mk H
        clear H
        go_wp2
        go_loopg [3] kj1 (fun kq v3 w' => ∃ (x3_2 : Int), v3 = .int .i64 x3_2 ∧ Aside0 (guidevanelaw09_fewRules.l0 kq x3_2 l0_0 l0_1 a0_2 l0_3 = some r) ∧ Aside0 (kq ≤ kj1) ∧ Aside0 (w'.heap[gb138001]? = some (.cells #[(.slice A0_0 l0_0.length c0_0), (.slice A0_1 l0_1.length c0_1), .int .i64 a0_2, (.slice A0_3 l0_3.length c0_3)] 85 (0, 0))) ∧ Aside0 (Below w.heap.size w w'))
        case atStart => exact ⟨(0), (by first | rfl | (simp; done) | (simp [*]; done)), H', ⟨Nat.le_refl _⟩, ⟨by (with_reducible repeat (first | refine blk_drewN ?_ _ | refine blk_drew ?_ | refine blk_alloc ?_ _)); exact BK138001.out⟩, ⟨by repeat (first | (with_reducible first | exact HB.out | apply below_alloc | apply pw_below_drewN | apply below_drew1 | refine below_set ?_ GE138001.out) | exact HB.out)⟩⟩
        case round =>
          clear H'
          try clear p2
          try clear c4
          try clear c4b0
          try clear c4b1
          try clear c6
          try clear c6b0
          try clear c6b1
          try clear c9
          try clear hcz5_0
          try clear hcz5_1
          try clear hcz5_2
          try clear hcz5_3
          try clear hcz7_0
          try clear hcz7_1
          try clear hcz7_2
          try clear hcz7_3
          try clear hcz8_0
          try clear hcz8_1
          try clear hcz8_2
          try clear hcz8_3
          try clear hfz5_0
          try clear hfz5_1
          try clear hfz5_2
          try clear hfz5_3
          try clear hfz7_0
          try clear hfz7_1
          try clear hfz7_2
          try clear hfz7_3
          try clear hfz8_0
          try clear hfz8_1
          try clear hfz8_2
          try clear hfz8_3
          try clear p2
          obtain ⟨x3_2, rfl, HA, HK2, BK138001, HB⟩ := hrel
          cases gk with
          | zero => exact absurd HA.out (by simp [guidevanelaw09_fewRules.l0])
          | succ k2 =>
            have H := HA.out
            clear HA
            simp only [guidevanelaw09_fewRules.l0] at H
            by_cases c10 : x3_2 < (l0_3.length : Int)
            · rw [if_pos c10] at H
              have c10b0 : decide (x3_2 < (l0_3.length : Int)) = true := decide_eq_true c10
              clear c10
              by_cases c11 : 0 ≤ x3_2
              · rw [if_pos c11] at H
                have c11b0 : decide (0 ≤ x3_2) = true := decide_eq_true c11
                clear c11
                by_cases c12 : (((rd_T135 l0_3 x3_2).f0).size : Int) > 30
                · rw [if_pos c12] at H
                  have c12b0 : decide (30 < (((rd_T135 l0_3 x3_2).f0).size : Int)) = true := decide_eq_true c12
                  have c12b1 : decide (30 < ((rd_T135 l0_3 x3_2).f0).size) = true := decide_eq_true (by omega)
                  clear c12
                  obtain rfl := Option.some.inj H
                  have hcz13_0 : wr.cell? ⟨gb138001, 0, none⟩ = some (.slice A0_0 l0_0.length c0_0) := (blk_cell BK138001.out 0).trans rfl
                  have hcz13_1 : wr.cell? ⟨gb138001, 1, none⟩ = some (.slice A0_1 l0_1.length c0_1) := (blk_cell BK138001.out 1).trans rfl
                  have hcz13_2 : wr.cell? ⟨gb138001, 2, none⟩ = some (.int .i64 a0_2) := (blk_cell BK138001.out 2).trans rfl
                  have hcz13_3 : wr.cell? ⟨gb138001, 3, none⟩ = some (.slice A0_3 l0_3.length c0_3) := (blk_cell BK138001.out 3).trans rfl
                  have hfz13_0 := blk_frozen BK138001.out 0
                  have hfz13_1 := blk_frozen BK138001.out 1
                  have hfz13_2 := blk_frozen BK138001.out 2
                  have hfz13_3 := blk_frozen BK138001.out 3
                  have p138002 : 0 ≤ (x3_2 : Int) := of_decide_eq_true (by first | (with_reducible assumption) | assumption)
                  have q138002 : x3_2 < (l0_3.length : Int) := of_decide_eq_true (by first | (with_reducible assumption) | assumption)
                  obtain ⟨ad138002, e138002, hx138002_0, hx138002_1⟩ := at_T135 HR0_3.out x3_2 p138002 q138002
                  cases e138002
                  replace hx138002_0 := (HB.out.cell (World.block_lt_of_cell? w _ hx138002_0)).trans hx138002_0
                  replace hx138002_1 := (HB.out.cell (World.block_lt_of_cell? w _ hx138002_1)).trans hx138002_1
                  replace p138002 := eq_true p138002
                  replace q138002 := eq_true q138002
                  go_wp2
                  go_ret
                  exact ⟨by first | rfl | (simp [errW_none, errW_some] <;> rfl) | (simp [*, errW_none, errW_some] <;> rfl), by repeat (first | (with_reducible first | exact HB.out | apply below_alloc | apply pw_below_drewN | apply below_drew1 | refine below_set ?_ GE138001.out) | exact HB.out)⟩
                · rw [if_neg c12] at H
                  have c12b0 : decide (30 < (((rd_T135 l0_3 x3_2).f0).size : Int)) = false := decide_eq_false c12
                  have c12b1 : decide (30 < ((rd_T135 l0_3 x3_2).f0).size) = false := decide_eq_false (by omega)
                  clear c12
                  have H' := Aside0.mk H
                  clear H
                  have hcz14_0 : wr.cell? ⟨gb138001, 0, none⟩ = some (.slice A0_0 l0_0.length c0_0) := (blk_cell BK138001.out 0).trans rfl
                  have hcz14_1 : wr.cell? ⟨gb138001, 1, none⟩ = some (.slice A0_1 l0_1.length c0_1) := (blk_cell BK138001.out 1).trans rfl
                  have hcz14_2 : wr.cell? ⟨gb138001, 2, none⟩ = some (.int .i64 a0_2) := (blk_cell BK138001.out 2).trans rfl
                  have hcz14_3 : wr.cell? ⟨gb138001, 3, none⟩ = some (.slice A0_3 l0_3.length c0_3) := (blk_cell BK138001.out 3).trans rfl
                  have hfz14_0 := blk_frozen BK138001.out 0
                  have hfz14_1 := blk_frozen BK138001.out 1
                  have hfz14_2 := blk_frozen BK138001.out 2
                  have hfz14_3 := blk_frozen BK138001.out 3
                  have p138002 : 0 ≤ (x3_2 : Int) := of_decide_eq_true (by first | (with_reducible assumption) | assumption)
                  have q138002 : x3_2 < (l0_3.length : Int) := of_decide_eq_true (by first | (with_reducible assumption) | assumption)
                  obtain ⟨ad138002, e138002, hx138002_0, hx138002_1⟩ := at_T135 HR0_3.out x3_2 p138002 q138002
                  cases e138002
                  replace hx138002_0 := (HB.out.cell (World.block_lt_of_cell? w _ hx138002_0)).trans hx138002_0
                  replace hx138002_1 := (HB.out.cell (World.block_lt_of_cell? w _ hx138002_1)).trans hx138002_1
                  replace p138002 := eq_true p138002
                  replace q138002 := eq_true q138002
                  go_wp2
                  go_roundg k2
                  case measure => have := HJ1.out; have := HK2.out; omega
                  case rel => exact ⟨(wrap64 (x3_2 + 1)), (by first | rfl | (simp; done) | (simp [*]; done)), H', ⟨by have := HJ1.out; have := HK2.out; omega⟩, ⟨by (with_reducible repeat (first | refine blk_drewN ?_ _ | refine blk_drew ?_ | refine blk_alloc ?_ _)); exact BK138001.out⟩, ⟨by repeat (first | (with_reducible first | exact HB.out | apply below_alloc | apply pw_below_drewN | apply below_drew1 | refine below_set ?_ GE138001.out) | exact HB.out)⟩⟩
              · rw [if_neg c11] at H
                exact absurd H (by simp)
            · rw [if_neg c10] at H
              have c10b0 : decide (x3_2 < (l0_3.length : Int)) = false := decide_eq_false c10
              clear c10
              obtain rfl := Option.some.inj H
              have hcz15_0 : wr.cell? ⟨gb138001, 0, none⟩ = some (.slice A0_0 l0_0.length c0_0) := (blk_cell BK138001.out 0).trans rfl
              have hcz15_1 : wr.cell? ⟨gb138001, 1, none⟩ = some (.slice A0_1 l0_1.length c0_1) := (blk_cell BK138001.out 1).trans rfl
              have hcz15_2 : wr.cell? ⟨gb138001, 2, none⟩ = some (.int .i64 a0_2) := (blk_cell BK138001.out 2).trans rfl
              have hcz15_3 : wr.cell? ⟨gb138001, 3, none⟩ = some (.slice A0_3 l0_3.length c0_3) := (blk_cell BK138001.out 3).trans rfl
              have hfz15_0 := blk_frozen BK138001.out 0
              have hfz15_1 := blk_frozen BK138001.out 1
              have hfz15_2 := blk_frozen BK138001.out 2
              have hfz15_3 := blk_frozen BK138001.out 3
              go_wp2
              go_ret
              exact ⟨by first | rfl | (simp [errW_none, errW_some] <;> rfl) | (simp [*, errW_none, errW_some] <;> rfl), by repeat (first | (with_reducible first | exact HB.out | apply below_alloc | apply pw_below_drewN | apply below_drew1 | refine below_set ?_ GE138001.out) | exact HB.out)⟩
end Go.Proofs.Yteopooljohdoiaa.Px
namespace Go.Proofs.Yteopooljohdoiaa.Px
open Go.RowKit Go.Proofs.YteopooljohdoiaaW.PrintWords Go.Proofs.YteopooljohdoiaaW.PrintLast Go.Proofs.YteopooljohdoiaaW.PrintMore
attribute [local go_sem] max2_int min2_int max_two min_two max_three min_three max_four min_four
def guidevaneref09_CopyRules.f (l0_0 : List Int) (l0_1 : List Int) (a0_2 : Int) (l0_3 : List (S135)) : Option (List Int × List Int × Int × (List (S135))) := (guidevanebase_CopyInts.f l0_0).bind fun t144003 => ((guidevanebase_CopyInts.f l0_1).bind fun t144006 => ((some (([] : List (S135)) : List (S135))).bind fun y144009 => (if y144009.length + l0_3.length < 5864062014805 then (some (t144003, t144006, a0_2, (y144009 ++ l0_3))) else (none))))
def guidevaneref09_CopyRules.T1 : Bool × List (List Nat × List Nat) := (true, [([], []), ([0], [0]), ([1], [1]), ([], []), ([3], [3]), ([4, 2], [4]), ([], []), ([6], [6]), ([], []), ([], []), ([9], [9]), ([8, 10, 5], [8, 10]), ([2, 5, 7, 11], [2, 5, 7, 11]), ([12, 11, 0, 1, 2, 3, 4, 5, 6, 7, 8, 9, 10, 11, 12], [12])])
def guidevaneref09_CopyRules.B1 : List Nat := [0, 1, 3, 0, 8, 31, 0, 64, 0, 0, 512, 1855, 4095, 8191]
theorem guidevaneref09_CopyRules.tab1 : rtab .any (opsOf Try.f48 1) = guidevaneref09_CopyRules.T1 := by kernel_rfl
theorem guidevaneref09_CopyRules.bits1 : waitsOk guidevaneref09_CopyRules.T1.2 guidevaneref09_CopyRules.B1 = true := by kernel_rfl
set_option maxHeartbeats 8000000 in
set_option maxRecDepth 100000 in
theorem guidevaneref09_CopyRules.calls (A0_0 : Option Addr) (c0_0 : Nat) (l0_0 : List Int) (A0_1 : Option Addr) (c0_1 : Nat) (l0_1 : List Int) (a0_2 : Int) (A0_3 : Option Addr) (c0_3 : Nat) (l0_3 : List (S135)) (r1 : List Int) (r2 : List Int) (r3 : Int) (r4 : List (S135)) (w : World) (hr0_0 : Kd.C (Kd.int .i64) w A0_0 l0_0.length l0_0) (hc0_0 : l0_0.length ≤ c0_0) (hr0_1 : Kd.C (Kd.int .i64) w A0_1 l0_1.length l0_1) (hc0_1 : l0_1.length ≤ c0_1) (hr0_3 : Kd.C k135 w A0_3 l0_3.length l0_3) (hc0_3 : l0_3.length ≤ c0_3) (h : guidevaneref09_CopyRules.f l0_0 l0_1 a0_2 l0_3 = some (r1, r2, r3, r4)) :
    Calls Try.prog 48 #[.agg #[.slice A0_0 l0_0.length c0_0, .slice A0_1 l0_1.length c0_1, .int .i64 a0_2, .slice A0_3 l0_3.length c0_3]] w fun e w' => ∃ v0_ v1_ v3_ : Value, e = .returned (.agg #[v0_, v1_, .int .i64 r3, v3_]) ∧ Kd.R (Kd.int .i64) 3 w' w.heap.size (fun k_ => some k_ ≠ (v1_ : Value).ownBlock) v0_ r1 ∧ Kd.R (Kd.int .i64) 3 w' w.heap.size (fun k_ => some k_ ≠ (v0_ : Value).ownBlock) v1_ r2 ∧ Kd.R k135 135 w' w.heap.size (fun _ => True) v3_ r4 ∧ Below w.heap.size w w' := by
  have hu85 := Try.underlying85
  have HR0_0 := Aside0.mk hr0_0
  have HC0_0 := Aside0.mk hc0_0
  clear hr0_0 hc0_0
  have HR0_1 := Aside0.mk hr0_1
  have HC0_1 := Aside0.mk hc0_1
  clear hr0_1 hc0_1
  have HR0_3 := Aside0.mk hr0_3
  have HC0_3 := Aside0.mk hc0_3
  clear hr0_3 hc0_3
  have HB := Aside0.mk (Below.refl w.heap.size w)
  have H : ((guidevanebase_CopyInts.f l0_0).bind fun t144003 => ((guidevanebase_CopyInts.f l0_1).bind fun t144006 => ((some (([] : List (S135)) : List (S135))).bind fun y144009 => (if y144009.length + l0_3.length < 5864062014805 then (some (t144003, t144006, a0_2, (y144009 ++ l0_3))) else (none))))) = some (r1, r2, r3, r4) := h
  clear h
  replace H := Option.bind_eq_some_iff.mp H
  obtain ⟨t144003, A20, H⟩ := H
  replace H : ((guidevanebase_CopyInts.f l0_1).bind fun t144006 => ((some (([] : List (S135)) : List (S135))).bind fun y144009 => (if y144009.length + l0_3.length < 5864062014805 then (some (t144003, t144006, a0_2, (y144009 ++ l0_3))) else (none)))) = some (r1, r2, r3, r4) := H
  have A2 := Aside0.mk A20
  clear A20
  replace H := Option.bind_eq_some_iff.mp H
  obtain ⟨t144006, A30, H⟩ := H
  replace H : ((some (([] : List (S135)) : List (S135))).bind fun y144009 => (if y144009.length + l0_3.length < 5864062014805 then (some (t144003, t144006, a0_2, (y144009 ++ l0_3))) else (none))) = some (r1, r2, r3, r4) := H
  have A3 := Aside0.mk A30
  clear A30
  obtain ⟨y144009, hy144009⟩ : ∃ y_ : List (S135), y_ = (([] : List (S135))) := ⟨_, rfl⟩
  replace H : (if y144009.length + l0_3.length < 5864062014805 then (some (t144003, t144006, a0_2, (y144009 ++ l0_3))) else (none)) = some (r1, r2, r3, r4) := by first | (rw [hy144009]; with_reducible exact H) | (have H2_ := (Option.bind_some _ _).symm.trans H; rw [hy144009]; with_reducible exact H2_) | (have H2_ := (Option.bind_some _ _).symm.trans H; with_reducible exact H2_) | with_reducible exact H | (rw [hy144009]; exact H) | exact H
  have Ny144009 := Aside0.mk hy144009
  clear hy144009
  by_cases c4 : y144009.length + l0_3.length < 5864062014805
  · rw [if_pos c4] at H
    have LMc4 := Aside0.mk c4
    clear c4
    obtain ⟨y144012, hy144012⟩ : ∃ y_ : List (S135), y_ = (y144009 ++ l0_3) := ⟨_, rfl⟩
    replace H : (some (t144003, t144006, a0_2, y144012)) = some (r1, r2, r3, r4) := by first | (rw [hy144012]; with_reducible exact H) | (have H2_ := (Option.bind_some _ _).symm.trans H; rw [hy144012]; with_reducible exact H2_) | (have H2_ := (Option.bind_some _ _).symm.trans H; with_reducible exact H2_) | with_reducible exact H | (rw [hy144012]; exact H) | exact H
    have Ny144012 := Aside0.mk hy144012
    clear hy144012
    simp only [Option.some.injEq, Prod.mk.injEq] at H
    obtain ⟨rfl, rfl, rfl, rfl⟩ := H
    go_enter Try.func48, Try.ntmps48
    try go_wp2_with (first | ((with_reducible refine gate_dst (N := 1) rfl ?_); refine box_event ?hg (N := 1) ?hd (cs := #[.slice A0_0 l0_0.length c0_0, .slice A0_1 l0_1.length c0_1, .int .i64 a0_2, .slice A0_3 l0_3.length c0_3]) (t := 85) ?hr ?_; (case hd => rfl); (case hg => rfl); (case hr => first | (go_simp; done) | (go_simp; rfl)); intro gb144001 hg w5 hbox hb; have n0_ := Aside0.mk (below_step (by repeat (first | (with_reducible first | exact HB.out | apply below_alloc | apply pw_below_drewN | apply below_drew1) | exact HB.out)) hb); have n1_ := Aside0.mk (hbox); have n2_ := Aside0.mk ((by rw [hg]; exact (below_size (by repeat (first | (with_reducible first | exact HB.out | apply below_alloc | apply pw_below_drewN | apply below_drew1) | exact HB.out))) : w.heap.size ≤ gb144001)); have n3_ := Aside0.mk ((by rw [hg]; exact (below_size (by repeat (first | (with_reducible first | exact HB.out | apply below_alloc | apply pw_below_drewN | apply below_drew1) | exact HB.out))) : w.heap.size ≤ gb144001)); clear HB; have HB := n0_; have BK144001 := n1_; have GW144001 := n2_; have GE144001 := n3_; clear n0_ n1_ n2_ n3_; clear hb hbox hg) | ((with_reducible refine gate_dst (N := 2) rfl ?_); refine box_event ?hg (N := 2) ?hd (cs := #[.slice none 0 0, .slice none 0 0, .int .i64 0, .slice none 0 0]) (t := 85) ?hr ?_; (case hd => rfl); (case hg => rfl); (case hr => first | (go_simp; done) | (go_simp; rfl)); intro gb144002 hg w6 hbox hb; have n0_ := Aside0.mk (blk_below (g := gb144001) (o := .cells #[.slice A0_0 l0_0.length c0_0, .slice A0_1 l0_1.length c0_1, .int .i64 a0_2, .slice A0_3 l0_3.length c0_3] 85 (0, 0)) (by (with_reducible repeat (first | refine blk_drewN ?_ _ | refine blk_drew ?_ | refine blk_alloc ?_ _)); exact BK144001.out) hb); have n1_ := Aside0.mk (below_step (by repeat (first | (with_reducible first | exact HB.out | apply below_alloc | apply pw_below_drewN | apply below_drew1 | refine below_set ?_ GE144001.out) | exact HB.out)) hb); have n2_ := Aside0.mk (hbox); have n3_ := Aside0.mk ((by rw [hg]; exact (below_size (by repeat (first | (with_reducible first | exact HB.out | apply below_alloc | apply pw_below_drewN | apply below_drew1 | refine below_set ?_ GE144001.out) | exact HB.out))) : w.heap.size ≤ gb144002)); have n4_ := Aside0.mk ((by rw [hg]; exact (below_size (by repeat (first | (with_reducible first | exact HB.out | apply below_alloc | apply pw_below_drewN | apply below_drew1 | refine below_set ?_ GE144001.out) | exact HB.out))) : w.heap.size ≤ gb144002)); have n5_ := Aside0.mk ((by rw [hg]; exact Nat.ne_of_lt (blk_lt (g := gb144001) (o := .cells #[.slice A0_0 l0_0.length c0_0, .slice A0_1 l0_1.length c0_1, .int .i64 a0_2, .slice A0_3 l0_3.length c0_3] 85 (0, 0)) (by (with_reducible repeat (first | refine blk_drewN ?_ _ | refine blk_drew ?_ | refine blk_alloc ?_ _)); exact BK144001.out)) : gb144001 ≠ gb144002)); have n6_ := Aside0.mk ((by rw [hg]; exact Nat.ne_of_gt (blk_lt (g := gb144001) (o := .cells #[.slice A0_0 l0_0.length c0_0, .slice A0_1 l0_1.length c0_1, .int .i64 a0_2, .slice A0_3 l0_3.length c0_3] 85 (0, 0)) (by (with_reducible repeat (first | refine blk_drewN ?_ _ | refine blk_drew ?_ | refine blk_alloc ?_ _)); exact BK144001.out)) : gb144002 ≠ gb144001)); clear BK144001; clear HB; have BK144001 := n0_; have HB := n1_; have BK144002 := n2_; have GW144002 := n3_; have GE144002 := n4_; have NB144001_144002 := n5_; have NB144002_144001 := n6_; clear n0_ n1_ n2_ n3_ n4_ n5_ n6_; clear hb hbox hg))
    have n0_ := Aside0.mk (blk_drew BK144001.out)
    have n1_ := Aside0.mk (blk_drew BK144002.out)
    have n2_ := Aside0.mk (below_drew1 HB.out)
    clear BK144001
    clear BK144002
    clear HB
    have BK144001 := n0_
    have BK144002 := n1_
    have HB := n2_
    clear n0_ n1_ n2_
    refine start_ (n := 14) (S := fun w' => w'.cell? ⟨gb144001, 0, none⟩ = some (.slice A0_0 l0_0.length c0_0) ∧ w'.cell? ⟨gb144001, 1, none⟩ = some (.slice A0_1 l0_1.length c0_1) ∧ w'.cell? ⟨gb144001, 2, none⟩ = some (.int .i64 a0_2) ∧ w'.cell? ⟨gb144001, 3, none⟩ = some (.slice A0_3 l0_3.length c0_3)) (ds := []) #[false, false, false, false, false, false, false, false, false, false, false, false, false, false] (by kernel_rfl) rfl rfl ⟨(blk_cell BK144001.out 0).trans rfl, (blk_cell BK144001.out 1).trans rfl, (blk_cell BK144001.out 2).trans rfl, (blk_cell BK144001.out 3).trans rfl⟩ (fun hHeld => ?_); refine with_tabW guidevaneref09_CopyRules.tab1 guidevaneref09_CopyRules.bits1 (fun HT_ HW_ => ?_)
    generalize w6.drew = w7 at BK144001 BK144002 HB hHeld ⊢
    refine pure_ (i := 0) (N := some 3) (v := ?_) (a' := ?_) #[true, false, false, false, false, false, false, false, false, false, false, false, false, false] rfl rfl (any_of HT_.out (by kernel_rfl)) (fun _ _ _ h => h) (Or.inl ⟨by rfl, ?_⟩) ?_ ?_
    rotate_left
    · intro w'
      go_simp
      with_reducible rfl
    rotate_left
    · simp only [Act.put, List.setIfInBounds_toArray, List.set_cons_zero, List.set_cons_succ, i64_w, i32_w]
      rfl
    refine pure_ (i := 3) (N := some 6) (v := ?_) (a' := ?_) #[true, false, false, true, false, false, false, false, false, false, false, false, false, false] rfl rfl (any_of HT_.out (by kernel_rfl)) (fun _ _ _ h => h) (Or.inl ⟨by rfl, ?_⟩) ?_ ?_
    rotate_left
    · intro w'
      go_simp
      with_reducible rfl
    rotate_left
    · simp only [Act.put, List.setIfInBounds_toArray, List.set_cons_zero, List.set_cons_succ, i64_w, i32_w]
      rfl
    refine pure_ (i := 6) (N := some 9) (v := ?_) (a' := ?_) #[true, false, false, true, false, false, true, false, false, false, false, false, false, false] rfl rfl (any_of HT_.out (by kernel_rfl)) (fun _ _ _ h => h) (Or.inl ⟨by rfl, ?_⟩) ?_ ?_
    rotate_left
    · intro w'
      go_simp
      with_reducible rfl
    rotate_left
    · simp only [Act.put, List.setIfInBounds_toArray, List.set_cons_zero, List.set_cons_succ, i64_w, i32_w]
      rfl
    refine pure_ (i := 9) (N := some 12) (v := ?_) (a' := ?_) #[true, false, false, true, false, false, true, false, false, true, false, false, false, false] rfl rfl (any_of HT_.out (by kernel_rfl)) (fun _ _ _ h => h) (Or.inl ⟨by rfl, ?_⟩) ?_ ?_
    rotate_left
    · intro w'
      go_simp
      with_reducible rfl
    rotate_left
    · simp only [Act.put, List.setIfInBounds_toArray, List.set_cons_zero, List.set_cons_succ, i64_w, i32_w]
      rfl
    refine take_ (i := 1) (N := some 4) (v := ?_) (a' := ?_) #[true, true, false, true, false, false, true, false, false, true, false, false, false, false] rfl rfl (take_ofW HT_.out HW_.out (by kernel_rfl)) (fun _ _ _ h => h) (Or.inl ⟨by rfl, ?_⟩) hHeld ?_ ?_
    rotate_left
    · rintro w' ⟨s0, s1, s2, s3⟩
      go_simp
      with_reducible rfl
    rotate_left
    · simp only [Act.put, List.setIfInBounds_toArray, List.set_cons_zero, List.set_cons_succ, i64_w, i32_w]
      rfl
    refine take_ (i := 4) (N := some 7) (v := ?_) (a' := ?_) #[true, true, false, true, true, false, true, false, false, true, false, false, false, false] rfl rfl (take_ofW HT_.out HW_.out (by kernel_rfl)) (fun _ _ _ h => h) (Or.inl ⟨by rfl, ?_⟩) hHeld ?_ ?_
    rotate_left
    · rintro w' ⟨s0, s1, s2, s3⟩
      go_simp
      with_reducible rfl
    rotate_left
    · simp only [Act.put, List.setIfInBounds_toArray, List.set_cons_zero, List.set_cons_succ, i64_w, i32_w]
      rfl
    refine take_ (i := 7) (N := some 10) (v := ?_) (a' := ?_) #[true, true, false, true, true, false, true, true, false, true, false, false, false, false] rfl rfl (take_ofW HT_.out HW_.out (by kernel_rfl)) (fun _ _ _ h => h) (Or.inl ⟨by rfl, ?_⟩) hHeld ?_ ?_
    rotate_left
    · rintro w' ⟨s0, s1, s2, s3⟩
      go_simp
      with_reducible rfl
    rotate_left
    · simp only [Act.put, List.setIfInBounds_toArray, List.set_cons_zero, List.set_cons_succ, i64_w, i32_w]
      rfl
    refine take_ (i := 10) (N := some 13) (v := ?_) (a' := ?_) #[true, true, false, true, true, false, true, true, false, true, true, false, false, false] rfl rfl (take_ofW HT_.out HW_.out (by kernel_rfl)) (fun _ _ _ h => h) (Or.inl ⟨by rfl, ?_⟩) hHeld ?_ ?_
    rotate_left
    · rintro w' ⟨s0, s1, s2, s3⟩
      go_simp
      with_reducible rfl
    rotate_left
    · simp only [Act.put, List.setIfInBounds_toArray, List.set_cons_zero, List.set_cons_succ, i64_w, i32_w]
      rfl
    refine join_ (σ := Value × Value × Value) 3 #[true, true, true, true, true, true, true, true, true, true, true, false, false, false] (fun s_ => [(5, s_.1), (8, s_.2.1), (11, s_.2.2)]) (fun s_ w' => (w'.cell? ⟨gb144001, 0, none⟩ = some (.slice A0_0 l0_0.length c0_0) ∧ w'.cell? ⟨gb144001, 1, none⟩ = some (.slice A0_1 l0_1.length c0_1) ∧ w'.cell? ⟨gb144001, 2, none⟩ = some (.int .i64 a0_2) ∧ w'.cell? ⟨gb144001, 3, none⟩ = some (.slice A0_3 l0_3.length c0_3)) ∧ (Kd.R (Kd.int .i64) 3 w' w.heap.size (fun k_ => some k_ ≠ (s_.2.1 : Value).ownBlock) s_.1 t144003) ∧ (Kd.R (Kd.int .i64) 3 w' w.heap.size (fun k_ => some k_ ≠ (s_.1 : Value).ownBlock) s_.2.1 t144006) ∧ (Kd.R k135 135 w' w.heap.size (fun _ => True) s_.2.2 y144009) ∧ (w'.heap[gb144001]? = some (.cells #[.slice A0_0 l0_0.length c0_0, .slice A0_1 l0_1.length c0_1, .int .i64 a0_2, .slice A0_3 l0_3.length c0_3] 85 (0, 0))) ∧ (w'.heap[gb144002]? = some (.cells #[.slice none 0 0, .slice none 0 0, .int .i64 0, .slice none 0 0] 85 (0, 0))) ∧ (Below w.heap.size w w')) ?_ ?_
    rotate_left
    · intro hCont
      refine two_ (i := 2) (j := 8) (Ni := some 5) (Nj := some 11) #[true, true, true, true, true, false, true, true, false, true, true, false, false, false] #[true, true, false, true, true, false, true, true, true, true, true, false, false, false] rfl rfl rfl rfl (two_of HT_.out (by kernel_rfl)) (by decide) (by decide) (fun K hK => ?_) (fun K hK => ?_)
      · skip
        refine goes_ Try.func49 (by kernel_rfl) rfl #[.slice A0_0 l0_0.length c0_0] (by rfl) rfl rfl (by (try simp only [List.map_toArray, List.map_cons, List.map_nil]); first | done | rfl | (simp only [List.length_drop, List.length_take]; rfl)) ?_
        with_reducible refine (guidevanebase_CopyInts.calls _ _ l0_0 t144003 _ ?side1 ?side2 A2.out).mono ?_
        (case side1 => repeat (first | exact (Kd.C_below HR0_0.out HB.out) | (with_reducible refine Kd.C_alloc ?_ _) | (with_reducible refine Kd.C_drewN ?_ _) | (with_reducible refine Kd.C_drew ?_)))
        (case side2 => exact HC0_0.out)
        rintro e w8 ⟨v144004, rfl, ho0, hb⟩
        refine ⟨_, rfl, ?_⟩
        have n0_ := Aside0.mk (Kd.R_lower ho0 (below_size (by repeat (first | (with_reducible first | exact HB.out | apply below_alloc | apply pw_below_drewN | apply below_drew1 | refine below_set ?_ GE144001.out | refine below_set ?_ GE144002.out) | exact HB.out))))
        have n1_ := Aside0.mk (blk_below (g := gb144001) (o := .cells #[.slice A0_0 l0_0.length c0_0, .slice A0_1 l0_1.length c0_1, .int .i64 a0_2, .slice A0_3 l0_3.length c0_3] 85 (0, 0)) (by (with_reducible repeat (first | refine blk_drewN ?_ _ | refine blk_drew ?_ | refine blk_alloc ?_ _)); exact BK144001.out) hb)
        have n2_ := Aside0.mk (blk_below (g := gb144002) (o := .cells #[.slice none 0 0, .slice none 0 0, .int .i64 0, .slice none 0 0] 85 (0, 0)) (by (with_reducible repeat (first | refine blk_drewN ?_ _ | refine blk_drew ?_ | refine blk_alloc ?_ _)); exact BK144002.out) hb)
        have n3_ := Aside0.mk (below_step (by repeat (first | (with_reducible first | exact HB.out | apply below_alloc | apply pw_below_drewN | apply below_drew1 | refine below_set ?_ GE144001.out | refine below_set ?_ GE144002.out) | exact HB.out)) hb)
        clear BK144001
        clear BK144002
        clear HB
        have HO144005 := n0_
        have BK144001 := n1_
        have BK144002 := n2_
        have HB := n3_
        clear n0_ n1_ n2_ n3_
        (try clear hb)
        (try clear hb2)
        (try clear hk)
        (try clear hi)
        (try clear ho0)
        refine hK.out _ _ ⟨(blk_cell BK144001.out 0).trans rfl, (blk_cell BK144001.out 1).trans rfl, (blk_cell BK144001.out 2).trans rfl, (blk_cell BK144001.out 3).trans rfl⟩ (fun hHeld => ?_)
        clear hK K
        refine norm_ (a' := ?_) ?_ ?_
        rotate_left
        · show Act.put _ (some 5) _ = _
          simp only [Act.put, List.setIfInBounds_toArray, List.set_cons_zero, List.set_cons_succ, i64_w, i32_w]
          rfl
        refine two_ (i := 5) (j := 8) (Ni := some 8) (Nj := some 11) #[true, true, true, true, true, true, true, true, false, true, true, false, false, false] #[true, true, true, true, true, false, true, true, true, true, true, false, false, false] rfl rfl rfl rfl (two_of HT_.out (by kernel_rfl)) (by decide) (by decide) (fun K hK => ?_) (fun K hK => ?_)
        · skip
          refine goes_ Try.func49 (by kernel_rfl) rfl #[.slice A0_1 l0_1.length c0_1] (by rfl) rfl rfl (by (try simp only [List.map_toArray, List.map_cons, List.map_nil]); first | done | rfl | (simp only [List.length_drop, List.length_take]; rfl)) ?_
          with_reducible refine (guidevanebase_CopyInts.calls _ _ l0_1 t144006 _ ?side1 ?side2 A3.out).mono ?_
          (case side1 => repeat (first | exact (Kd.C_below HR0_1.out HB.out) | (with_reducible refine Kd.C_alloc ?_ _) | (with_reducible refine Kd.C_drewN ?_ _) | (with_reducible refine Kd.C_drew ?_)))
          (case side2 => exact HC0_1.out)
          rintro e w9 ⟨v144007, rfl, ho0, hb⟩
          refine ⟨_, rfl, ?_⟩
          have n0_ := Aside0.mk (Kd.R_elder' (by (with_reducible repeat (first | apply Kd.R_alloc | apply Kd.R_drewN | apply Kd.R_drew)); exact HO144005.out) (Kd.R_base ho0) hb)
          have n1_ := Aside0.mk (Kd.R_lower (Kd.R_new' ho0 (Kd.R_lt (by (with_reducible repeat (first | apply Kd.R_alloc | apply Kd.R_drewN | apply Kd.R_drew)); exact HO144005.out))) (below_size (by repeat (first | (with_reducible first | exact HB.out | apply below_alloc | apply pw_below_drewN | apply below_drew1 | refine below_set ?_ GE144001.out | refine below_set ?_ GE144002.out) | exact HB.out))))
          have n2_ := Aside0.mk (blk_below (g := gb144001) (o := .cells #[.slice A0_0 l0_0.length c0_0, .slice A0_1 l0_1.length c0_1, .int .i64 a0_2, .slice A0_3 l0_3.length c0_3] 85 (0, 0)) (by (with_reducible repeat (first | refine blk_drewN ?_ _ | refine blk_drew ?_ | refine blk_alloc ?_ _)); exact BK144001.out) hb)
          have n3_ := Aside0.mk (blk_below (g := gb144002) (o := .cells #[.slice none 0 0, .slice none 0 0, .int .i64 0, .slice none 0 0] 85 (0, 0)) (by (with_reducible repeat (first | refine blk_drewN ?_ _ | refine blk_drew ?_ | refine blk_alloc ?_ _)); exact BK144002.out) hb)
          have n4_ := Aside0.mk (below_step (by repeat (first | (with_reducible first | exact HB.out | apply below_alloc | apply pw_below_drewN | apply below_drew1 | refine below_set ?_ GE144001.out | refine below_set ?_ GE144002.out) | exact HB.out)) hb)
          clear HO144005
          clear BK144001
          clear BK144002
          clear HB
          have HO144005 := n0_
          have HO144008 := n1_
          have BK144001 := n2_
          have BK144002 := n3_
          have HB := n4_
          clear n0_ n1_ n2_ n3_ n4_
          (try clear hb)
          (try clear hb2)
          (try clear hk)
          (try clear hi)
          (try clear ho0)
          refine hK.out _ _ ⟨(blk_cell BK144001.out 0).trans rfl, (blk_cell BK144001.out 1).trans rfl, (blk_cell BK144001.out 2).trans rfl, (blk_cell BK144001.out 3).trans rfl⟩ (fun hHeld => ?_)
          clear hK K
          refine norm_ (a' := ?_) ?_ ?_
          rotate_left
          · show Act.put _ (some 8) _ = _
            simp only [Act.put, List.setIfInBounds_toArray, List.set_cons_zero, List.set_cons_succ, i64_w, i32_w]
            rfl
          refine one_ (i := 8) (N := some 11) #[true, true, true, true, true, true, true, true, true, true, true, false, false, false] rfl rfl (one_of HT_.out (by kernel_rfl)) (by decide) (fun K hK => ?_)
          refine Kd.R_lit_step k135 _ 135 ?hg (N := 11) ?hd (xs := ([] : List (S135))) (inner := []) (ok := fun _ => True) (okp := fun _ => True) ?hr ?hp (fun _ hk => hk) trivial (Below.refl _ _) (Nat.le_refl _) (by simp) ?_; (case hd => rfl); (case hg => rfl); (case hr => first | (go_simp; done) | (go_simp; rfl)); (case hp => exact (Reps.none _ _))
          intro v144010 w10 ho11 hb hg_ hnew_
          clear hg_ hnew_
          (first | rw [← Ny144009.out] at ho11 | (simp only [Int.reduceToNat] at ho11; rw [← Ny144009.out] at ho11))
          have n0_ := Aside0.mk (Kd.R_below (by (with_reducible repeat (first | apply Kd.R_alloc | apply Kd.R_drewN | apply Kd.R_drew)); exact HO144005.out) hb)
          have n1_ := Aside0.mk (Kd.R_below (by (with_reducible repeat (first | apply Kd.R_alloc | apply Kd.R_drewN | apply Kd.R_drew)); exact HO144008.out) hb)
          have n2_ := Aside0.mk (Kd.R_lower ho11 (below_size (by repeat (first | (with_reducible first | exact HB.out | apply below_alloc | apply pw_below_drewN | apply below_drew1 | refine below_set ?_ GE144001.out | refine below_set ?_ GE144002.out) | exact HB.out))))
          have n3_ := Aside0.mk (blk_below (g := gb144001) (o := .cells #[.slice A0_0 l0_0.length c0_0, .slice A0_1 l0_1.length c0_1, .int .i64 a0_2, .slice A0_3 l0_3.length c0_3] 85 (0, 0)) (by (with_reducible repeat (first | refine blk_drewN ?_ _ | refine blk_drew ?_ | refine blk_alloc ?_ _)); exact BK144001.out) hb)
          have n4_ := Aside0.mk (blk_below (g := gb144002) (o := .cells #[.slice none 0 0, .slice none 0 0, .int .i64 0, .slice none 0 0] 85 (0, 0)) (by (with_reducible repeat (first | refine blk_drewN ?_ _ | refine blk_drew ?_ | refine blk_alloc ?_ _)); exact BK144002.out) hb)
          have n5_ := Aside0.mk (below_step (by repeat (first | (with_reducible first | exact HB.out | apply below_alloc | apply pw_below_drewN | apply below_drew1 | refine below_set ?_ GE144001.out | refine below_set ?_ GE144002.out) | exact HB.out)) hb)
          clear HO144005
          clear HO144008
          clear BK144001
          clear BK144002
          clear HB
          have HO144005 := n0_
          have HO144008 := n1_
          have HO144011 := n2_
          have BK144001 := n3_
          have BK144002 := n4_
          have HB := n5_
          clear n0_ n1_ n2_ n3_ n4_ n5_
          clear hb ho11
          refine hK.out _ _ ⟨(blk_cell BK144001.out 0).trans rfl, (blk_cell BK144001.out 1).trans rfl, (blk_cell BK144001.out 2).trans rfl, (blk_cell BK144001.out 3).trans rfl⟩ (fun hHeld => ?_)
          clear hK K
          refine norm_ (a' := ?_) ?_ ?_
          rotate_left
          · show Act.put _ (some 11) _ = _
            simp only [Act.put, List.setIfInBounds_toArray, List.set_cons_zero, List.set_cons_succ, i64_w, i32_w]
            rfl
          exact norm_ (by simp only [putAll, Act.put, List.setIfInBounds_toArray, List.set_cons_zero, List.set_cons_succ]) (hCont (v144004, v144007, v144010) _ ⟨hHeld, (by (with_reducible repeat (first | apply Kd.R_alloc | apply Kd.R_drewN | apply Kd.R_drew)); exact Kd.R_mono HO144005.out (fun _ hk => hk.2)), (by (with_reducible repeat (first | apply Kd.R_alloc | apply Kd.R_drewN | apply Kd.R_drew)); exact Kd.R_mono HO144008.out (fun _ hk => hk.2)), (by (with_reducible repeat (first | apply Kd.R_alloc | apply Kd.R_drewN | apply Kd.R_drew)); exact HO144011.out), (by (with_reducible repeat (first | refine blk_drewN ?_ _ | refine blk_drew ?_ | refine blk_alloc ?_ _)); exact BK144001.out), (by (with_reducible repeat (first | refine blk_drewN ?_ _ | refine blk_drew ?_ | refine blk_alloc ?_ _)); exact BK144002.out), (by repeat (first | (with_reducible first | exact HB.out | apply below_alloc | apply pw_below_drewN | apply below_drew1 | refine below_set ?_ GE144001.out | refine below_set ?_ GE144002.out) | exact HB.out))⟩)
        · skip
          refine Kd.R_lit_step k135 _ 135 ?hg (N := 11) ?hd (xs := ([] : List (S135))) (inner := []) (ok := fun _ => True) (okp := fun _ => True) ?hr ?hp (fun _ hk => hk) trivial (Below.refl _ _) (Nat.le_refl _) (by simp) ?_; (case hd => rfl); (case hg => rfl); (case hr => first | (go_simp; done) | (go_simp; rfl)); (case hp => exact (Reps.none _ _))
          intro v144010 w9 ho10 hb hg_ hnew_
          clear hg_ hnew_
          (first | rw [← Ny144009.out] at ho10 | (simp only [Int.reduceToNat] at ho10; rw [← Ny144009.out] at ho10))
          have n0_ := Aside0.mk (Kd.R_below (by (with_reducible repeat (first | apply Kd.R_alloc | apply Kd.R_drewN | apply Kd.R_drew)); exact HO144005.out) hb)
          have n1_ := Aside0.mk (Kd.R_lower ho10 (below_size (by repeat (first | (with_reducible first | exact HB.out | apply below_alloc | apply pw_below_drewN | apply below_drew1 | refine below_set ?_ GE144001.out | refine below_set ?_ GE144002.out) | exact HB.out))))
          have n2_ := Aside0.mk (blk_below (g := gb144001) (o := .cells #[.slice A0_0 l0_0.length c0_0, .slice A0_1 l0_1.length c0_1, .int .i64 a0_2, .slice A0_3 l0_3.length c0_3] 85 (0, 0)) (by (with_reducible repeat (first | refine blk_drewN ?_ _ | refine blk_drew ?_ | refine blk_alloc ?_ _)); exact BK144001.out) hb)
          have n3_ := Aside0.mk (blk_below (g := gb144002) (o := .cells #[.slice none 0 0, .slice none 0 0, .int .i64 0, .slice none 0 0] 85 (0, 0)) (by (with_reducible repeat (first | refine blk_drewN ?_ _ | refine blk_drew ?_ | refine blk_alloc ?_ _)); exact BK144002.out) hb)
          have n4_ := Aside0.mk (below_step (by repeat (first | (with_reducible first | exact HB.out | apply below_alloc | apply pw_below_drewN | apply below_drew1 | refine below_set ?_ GE144001.out | refine below_set ?_ GE144002.out) | exact HB.out)) hb)
          clear HO144005
          clear BK144001
          clear BK144002
          clear HB
          have HO144005 := n0_
          have HO144011 := n1_
          have BK144001 := n2_
          have BK144002 := n3_
          have HB := n4_
          clear n0_ n1_ n2_ n3_ n4_
          clear hb ho10
          refine hK.out _ _ ⟨(blk_cell BK144001.out 0).trans rfl, (blk_cell BK144001.out 1).trans rfl, (blk_cell BK144001.out 2).trans rfl, (blk_cell BK144001.out 3).trans rfl⟩ (fun hHeld => ?_)
          clear hK K
          refine norm_ (a' := ?_) ?_ ?_
          rotate_left
          · show Act.put _ (some 11) _ = _
            simp only [Act.put, List.setIfInBounds_toArray, List.set_cons_zero, List.set_cons_succ, i64_w, i32_w]
            rfl
          refine one_ (i := 5) (N := some 8) #[true, true, true, true, true, true, true, true, true, true, true, false, false, false] rfl rfl (one_of HT_.out (by kernel_rfl)) (by decide) (fun K hK => ?_)
          refine goes_ Try.func49 (by kernel_rfl) rfl #[.slice A0_1 l0_1.length c0_1] (by rfl) rfl rfl (by (try simp only [List.map_toArray, List.map_cons, List.map_nil]); first | done | rfl | (simp only [List.length_drop, List.length_take]; rfl)) ?_
          with_reducible refine (guidevanebase_CopyInts.calls _ _ l0_1 t144006 _ ?side1 ?side2 A3.out).mono ?_
          (case side1 => repeat (first | exact (Kd.C_below HR0_1.out HB.out) | (with_reducible refine Kd.C_alloc ?_ _) | (with_reducible refine Kd.C_drewN ?_ _) | (with_reducible refine Kd.C_drew ?_)))
          (case side2 => exact HC0_1.out)
          rintro e w11 ⟨v144007, rfl, ho0, hb⟩
          refine ⟨_, rfl, ?_⟩
          have n0_ := Aside0.mk (Kd.R_elder' (by (with_reducible repeat (first | apply Kd.R_alloc | apply Kd.R_drewN | apply Kd.R_drew)); exact HO144005.out) (Kd.R_base ho0) hb)
          have n1_ := Aside0.mk (Kd.R_below (by (with_reducible repeat (first | apply Kd.R_alloc | apply Kd.R_drewN | apply Kd.R_drew)); exact HO144011.out) hb)
          have n2_ := Aside0.mk (Kd.R_lower (Kd.R_new' ho0 (Kd.R_lt (by (with_reducible repeat (first | apply Kd.R_alloc | apply Kd.R_drewN | apply Kd.R_drew)); exact HO144005.out))) (below_size (by repeat (first | (with_reducible first | exact HB.out | apply below_alloc | apply pw_below_drewN | apply below_drew1 | refine below_set ?_ GE144001.out | refine below_set ?_ GE144002.out) | exact HB.out))))
          have n3_ := Aside0.mk (blk_below (g := gb144001) (o := .cells #[.slice A0_0 l0_0.length c0_0, .slice A0_1 l0_1.length c0_1, .int .i64 a0_2, .slice A0_3 l0_3.length c0_3] 85 (0, 0)) (by (with_reducible repeat (first | refine blk_drewN ?_ _ | refine blk_drew ?_ | refine blk_alloc ?_ _)); exact BK144001.out) hb)
          have n4_ := Aside0.mk (blk_below (g := gb144002) (o := .cells #[.slice none 0 0, .slice none 0 0, .int .i64 0, .slice none 0 0] 85 (0, 0)) (by (with_reducible repeat (first | refine blk_drewN ?_ _ | refine blk_drew ?_ | refine blk_alloc ?_ _)); exact BK144002.out) hb)
          have n5_ := Aside0.mk (below_step (by repeat (first | (with_reducible first | exact HB.out | apply below_alloc | apply pw_below_drewN | apply below_drew1 | refine below_set ?_ GE144001.out | refine below_set ?_ GE144002.out) | exact HB.out)) hb)
          clear HO144005
          clear HO144011
          clear BK144001
          clear BK144002
          clear HB
          have HO144005 := n0_
          have HO144011 := n1_
          have HO144008 := n2_
          have BK144001 := n3_
          have BK144002 := n4_
          have HB := n5_
          clear n0_ n1_ n2_ n3_ n4_ n5_
          (try clear hb)
          (try clear hb2)
          (try clear hk)
          (try clear hi)
          (try clear ho0)
          refine hK.out _ _ ⟨(blk_cell BK144001.out 0).trans rfl, (blk_cell BK144001.out 1).trans rfl, (blk_cell BK144001.out 2).trans rfl, (blk_cell BK144001.out 3).trans rfl⟩ (fun hHeld => ?_)
          clear hK K
          refine norm_ (a' := ?_) ?_ ?_
          rotate_left
          · show Act.put _ (some 8) _ = _
            simp only [Act.put, List.setIfInBounds_toArray, List.set_cons_zero, List.set_cons_succ, i64_w, i32_w]
            rfl
          exact norm_ (by simp only [putAll, Act.put, List.setIfInBounds_toArray, List.set_cons_zero, List.set_cons_succ]) (hCont (v144004, v144007, v144010) _ ⟨hHeld, (by (with_reducible repeat (first | apply Kd.R_alloc | apply Kd.R_drewN | apply Kd.R_drew)); exact Kd.R_mono HO144005.out (fun _ hk => hk.2)), (by (with_reducible repeat (first | apply Kd.R_alloc | apply Kd.R_drewN | apply Kd.R_drew)); exact Kd.R_mono HO144008.out (fun _ hk => hk.2)), (by (with_reducible repeat (first | apply Kd.R_alloc | apply Kd.R_drewN | apply Kd.R_drew)); exact HO144011.out), (by (with_reducible repeat (first | refine blk_drewN ?_ _ | refine blk_drew ?_ | refine blk_alloc ?_ _)); exact BK144001.out), (by (with_reducible repeat (first | refine blk_drewN ?_ _ | refine blk_drew ?_ | refine blk_alloc ?_ _)); exact BK144002.out), (by repeat (first | (with_reducible first | exact HB.out | apply below_alloc | apply pw_below_drewN | apply below_drew1 | refine below_set ?_ GE144001.out | refine below_set ?_ GE144002.out) | exact HB.out))⟩)
      · skip
        refine Kd.R_lit_step k135 _ 135 ?hg (N := 11) ?hd (xs := ([] : List (S135))) (inner := []) (ok := fun _ => True) (okp := fun _ => True) ?hr ?hp (fun _ hk => hk) trivial (Below.refl _ _) (Nat.le_refl _) (by simp) ?_; (case hd => rfl); (case hg => rfl); (case hr => first | (go_simp; done) | (go_simp; rfl)); (case hp => exact (Reps.none _ _))
        intro v144010 w8 ho9 hb hg_ hnew_
        clear hg_ hnew_
        (first | rw [← Ny144009.out] at ho9 | (simp only [Int.reduceToNat] at ho9; rw [← Ny144009.out] at ho9))
        have n0_ := Aside0.mk (Kd.R_lower ho9 (below_size (by repeat (first | (with_reducible first | exact HB.out | apply below_alloc | apply pw_below_drewN | apply below_drew1 | refine below_set ?_ GE144001.out | refine below_set ?_ GE144002.out) | exact HB.out))))
        have n1_ := Aside0.mk (blk_below (g := gb144001) (o := .cells #[.slice A0_0 l0_0.length c0_0, .slice A0_1 l0_1.length c0_1, .int .i64 a0_2, .slice A0_3 l0_3.length c0_3] 85 (0, 0)) (by (with_reducible repeat (first | refine blk_drewN ?_ _ | refine blk_drew ?_ | refine blk_alloc ?_ _)); exact BK144001.out) hb)
        have n2_ := Aside0.mk (blk_below (g := gb144002) (o := .cells #[.slice none 0 0, .slice none 0 0, .int .i64 0, .slice none 0 0] 85 (0, 0)) (by (with_reducible repeat (first | refine blk_drewN ?_ _ | refine blk_drew ?_ | refine blk_alloc ?_ _)); exact BK144002.out) hb)
        have n3_ := Aside0.mk (below_step (by repeat (first | (with_reducible first | exact HB.out | apply below_alloc | apply pw_below_drewN | apply below_drew1 | refine below_set ?_ GE144001.out | refine below_set ?_ GE144002.out) | exact HB.out)) hb)
        clear BK144001
        clear BK144002
        clear HB
        have HO144011 := n0_
        have BK144001 := n1_
        have BK144002 := n2_
        have HB := n3_
        clear n0_ n1_ n2_ n3_
        clear hb ho9
        refine hK.out _ _ ⟨(blk_cell BK144001.out 0).trans rfl, (blk_cell BK144001.out 1).trans rfl, (blk_cell BK144001.out 2).trans rfl, (blk_cell BK144001.out 3).trans rfl⟩ (fun hHeld => ?_)
        clear hK K
        refine norm_ (a' := ?_) ?_ ?_
        rotate_left
        · show Act.put _ (some 11) _ = _
          simp only [Act.put, List.setIfInBounds_toArray, List.set_cons_zero, List.set_cons_succ, i64_w, i32_w]
          rfl
        refine one_ (i := 2) (N := some 5) #[true, true, true, true, true, false, true, true, true, true, true, false, false, false] rfl rfl (one_of HT_.out (by kernel_rfl)) (by decide) (fun K hK => ?_)
        refine goes_ Try.func49 (by kernel_rfl) rfl #[.slice A0_0 l0_0.length c0_0] (by rfl) rfl rfl (by (try simp only [List.map_toArray, List.map_cons, List.map_nil]); first | done | rfl | (simp only [List.length_drop, List.length_take]; rfl)) ?_
        with_reducible refine (guidevanebase_CopyInts.calls _ _ l0_0 t144003 _ ?side1 ?side2 A2.out).mono ?_
        (case side1 => repeat (first | exact (Kd.C_below HR0_0.out HB.out) | (with_reducible refine Kd.C_alloc ?_ _) | (with_reducible refine Kd.C_drewN ?_ _) | (with_reducible refine Kd.C_drew ?_)))
        (case side2 => exact HC0_0.out)
        rintro e w10 ⟨v144004, rfl, ho0, hb⟩
        refine ⟨_, rfl, ?_⟩
        have n0_ := Aside0.mk (Kd.R_below (by (with_reducible repeat (first | apply Kd.R_alloc | apply Kd.R_drewN | apply Kd.R_drew)); exact HO144011.out) hb)
        have n1_ := Aside0.mk (Kd.R_lower ho0 (below_size (by repeat (first | (with_reducible first | exact HB.out | apply below_alloc | apply pw_below_drewN | apply below_drew1 | refine below_set ?_ GE144001.out | refine below_set ?_ GE144002.out) | exact HB.out))))
        have n2_ := Aside0.mk (blk_below (g := gb144001) (o := .cells #[.slice A0_0 l0_0.length c0_0, .slice A0_1 l0_1.length c0_1, .int .i64 a0_2, .slice A0_3 l0_3.length c0_3] 85 (0, 0)) (by (with_reducible repeat (first | refine blk_drewN ?_ _ | refine blk_drew ?_ | refine blk_alloc ?_ _)); exact BK144001.out) hb)
        have n3_ := Aside0.mk (blk_below (g := gb144002) (o := .cells #[.slice none 0 0, .slice none 0 0, .int .i64 0, .slice none 0 0] 85 (0, 0)) (by (with_reducible repeat (first | refine blk_drewN ?_ _ | refine blk_drew ?_ | refine blk_alloc ?_ _)); exact BK144002.out) hb)
        have n4_ := Aside0.mk (below_step (by repeat (first | (with_reducible first | exact HB.out | apply below_alloc | apply pw_below_drewN | apply below_drew1 | refine below_set ?_ GE144001.out | refine below_set ?_ GE144002.out) | exact HB.out)) hb)
        clear HO144011
        clear BK144001
        clear BK144002
        clear HB
        have HO144011 := n0_
        have HO144005 := n1_
        have BK144001 := n2_
        have BK144002 := n3_
        have HB := n4_
        clear n0_ n1_ n2_ n3_ n4_
        (try clear hb)
        (try clear hb2)
        (try clear hk)
        (try clear hi)
        (try clear ho0)
        refine hK.out _ _ ⟨(blk_cell BK144001.out 0).trans rfl, (blk_cell BK144001.out 1).trans rfl, (blk_cell BK144001.out 2).trans rfl, (blk_cell BK144001.out 3).trans rfl⟩ (fun hHeld => ?_)
        clear hK K
        refine norm_ (a' := ?_) ?_ ?_
        rotate_left
        · show Act.put _ (some 5) _ = _
          simp only [Act.put, List.setIfInBounds_toArray, List.set_cons_zero, List.set_cons_succ, i64_w, i32_w]
          rfl
        refine one_ (i := 5) (N := some 8) #[true, true, true, true, true, true, true, true, true, true, true, false, false, false] rfl rfl (one_of HT_.out (by kernel_rfl)) (by decide) (fun K hK => ?_)
        refine goes_ Try.func49 (by kernel_rfl) rfl #[.slice A0_1 l0_1.length c0_1] (by rfl) rfl rfl (by (try simp only [List.map_toArray, List.map_cons, List.map_nil]); first | done | rfl | (simp only [List.length_drop, List.length_take]; rfl)) ?_
        with_reducible refine (guidevanebase_CopyInts.calls _ _ l0_1 t144006 _ ?side1 ?side2 A3.out).mono ?_
        (case side1 => repeat (first | exact (Kd.C_below HR0_1.out HB.out) | (with_reducible refine Kd.C_alloc ?_ _) | (with_reducible refine Kd.C_drewN ?_ _) | (with_reducible refine Kd.C_drew ?_)))
        (case side2 => exact HC0_1.out)
        rintro e w11 ⟨v144007, rfl, ho0, hb⟩
        refine ⟨_, rfl, ?_⟩
        have n0_ := Aside0.mk (Kd.R_below (by (with_reducible repeat (first | apply Kd.R_alloc | apply Kd.R_drewN | apply Kd.R_drew)); exact HO144011.out) hb)
        have n1_ := Aside0.mk (Kd.R_elder' (by (with_reducible repeat (first | apply Kd.R_alloc | apply Kd.R_drewN | apply Kd.R_drew)); exact HO144005.out) (Kd.R_base ho0) hb)
        have n2_ := Aside0.mk (Kd.R_lower (Kd.R_new' ho0 (Kd.R_lt (by (with_reducible repeat (first | apply Kd.R_alloc | apply Kd.R_drewN | apply Kd.R_drew)); exact HO144005.out))) (below_size (by repeat (first | (with_reducible first | exact HB.out | apply below_alloc | apply pw_below_drewN | apply below_drew1 | refine below_set ?_ GE144001.out | refine below_set ?_ GE144002.out) | exact HB.out))))
        have n3_ := Aside0.mk (blk_below (g := gb144001) (o := .cells #[.slice A0_0 l0_0.length c0_0, .slice A0_1 l0_1.length c0_1, .int .i64 a0_2, .slice A0_3 l0_3.length c0_3] 85 (0, 0)) (by (with_reducible repeat (first | refine blk_drewN ?_ _ | refine blk_drew ?_ | refine blk_alloc ?_ _)); exact BK144001.out) hb)
        have n4_ := Aside0.mk (blk_below (g := gb144002) (o := .cells #[.slice none 0 0, .slice none 0 0, .int .i64 0, .slice none 0 0] 85 (0, 0)) (by (with_reducible repeat (first | refine blk_drewN ?_ _ | refine blk_drew ?_ | refine blk_alloc ?_ _)); exact BK144002.out) hb)
        have n5_ := Aside0.mk (below_step (by repeat (first | (with_reducible first | exact HB.out | apply below_alloc | apply pw_below_drewN | apply below_drew1 | refine below_set ?_ GE144001.out | refine below_set ?_ GE144002.out) | exact HB.out)) hb)
        clear HO144011
        clear HO144005
        clear BK144001
        clear BK144002
        clear HB
        have HO144011 := n0_
        have HO144005 := n1_
        have HO144008 := n2_
        have BK144001 := n3_
        have BK144002 := n4_
        have HB := n5_
        clear n0_ n1_ n2_ n3_ n4_ n5_
        (try clear hb)
        (try clear hb2)
        (try clear hk)
        (try clear hi)
        (try clear ho0)
        refine hK.out _ _ ⟨(blk_cell BK144001.out 0).trans rfl, (blk_cell BK144001.out 1).trans rfl, (blk_cell BK144001.out 2).trans rfl, (blk_cell BK144001.out 3).trans rfl⟩ (fun hHeld => ?_)
        clear hK K
        refine norm_ (a' := ?_) ?_ ?_
        rotate_left
        · show Act.put _ (some 8) _ = _
          simp only [Act.put, List.setIfInBounds_toArray, List.set_cons_zero, List.set_cons_succ, i64_w, i32_w]
          rfl
        exact norm_ (by simp only [putAll, Act.put, List.setIfInBounds_toArray, List.set_cons_zero, List.set_cons_succ]) (hCont (v144004, v144007, v144010) _ ⟨hHeld, (by (with_reducible repeat (first | apply Kd.R_alloc | apply Kd.R_drewN | apply Kd.R_drew)); exact Kd.R_mono HO144005.out (fun _ hk => hk.2)), (by (with_reducible repeat (first | apply Kd.R_alloc | apply Kd.R_drewN | apply Kd.R_drew)); exact Kd.R_mono HO144008.out (fun _ hk => hk.2)), (by (with_reducible repeat (first | apply Kd.R_alloc | apply Kd.R_drewN | apply Kd.R_drew)); exact HO144011.out), (by (with_reducible repeat (first | refine blk_drewN ?_ _ | refine blk_drew ?_ | refine blk_alloc ?_ _)); exact BK144001.out), (by (with_reducible repeat (first | refine blk_drewN ?_ _ | refine blk_drew ?_ | refine blk_alloc ?_ _)); exact BK144002.out), (by repeat (first | (with_reducible first | exact HB.out | apply below_alloc | apply pw_below_drewN | apply below_drew1 | refine below_set ?_ GE144001.out | refine below_set ?_ GE144002.out) | exact HB.out))⟩)
    rintro ⟨v144004, v144007, v144010⟩ w12 ⟨hS_, h0_, h1_, h2_, h3_, h4_, h5_⟩
    have n0_ : Aside0 (Kd.R (Kd.int .i64) 3 w12 w.heap.size (fun k_ => some k_ ≠ (v144007 : Value).ownBlock) v144004 t144003) := ⟨h0_⟩
    have n1_ : Aside0 (Kd.R (Kd.int .i64) 3 w12 w.heap.size (fun k_ => some k_ ≠ (v144004 : Value).ownBlock) v144007 t144006) := ⟨h1_⟩
    have n2_ : Aside0 (Kd.R k135 135 w12 w.heap.size (fun _ => True) v144010 y144009) := ⟨h2_⟩
    have n3_ : Aside0 (w12.heap[gb144001]? = some (.cells #[.slice A0_0 l0_0.length c0_0, .slice A0_1 l0_1.length c0_1, .int .i64 a0_2, .slice A0_3 l0_3.length c0_3] 85 (0, 0))) := ⟨h3_⟩
    have n4_ : Aside0 (w12.heap[gb144002]? = some (.cells #[.slice none 0 0, .slice none 0 0, .int .i64 0, .slice none 0 0] 85 (0, 0))) := ⟨h4_⟩
    have n5_ : Aside0 (Below w.heap.size w w12) := ⟨h5_⟩
    clear BK144001
    clear BK144002
    clear HB
    clear h0_ h1_ h2_ h3_ h4_ h5_
    have HO144005 := n0_
    have HO144008 := n1_
    have HO144011 := n2_
    have BK144001 := n3_
    have BK144002 := n4_
    have HB := n5_
    clear n0_ n1_ n2_ n3_ n4_ n5_
    have hHeld : w12.cell? ⟨gb144001, 0, none⟩ = some (.slice A0_0 l0_0.length c0_0) ∧ w12.cell? ⟨gb144001, 1, none⟩ = some (.slice A0_1 l0_1.length c0_1) ∧ w12.cell? ⟨gb144001, 2, none⟩ = some (.int .i64 a0_2) ∧ w12.cell? ⟨gb144001, 3, none⟩ = some (.slice A0_3 l0_3.length c0_3) := hS_
    refine norm_ (a' := ?_) ?_ ?_
    rotate_left
    · simp only [putAll, Act.put, List.setIfInBounds_toArray, List.set_cons_zero, List.set_cons_succ]
      rfl
    refine one_ (i := 11) (N := some 14) #[true, true, true, true, true, true, true, true, true, true, true, true, false, false] rfl rfl (one_of HT_.out (by kernel_rfl)) (by decide) (fun K hK => ?_)
    refine Kd.R_append_rows_step k135 (w0 := w) w.heap.size (by rfl) (.tmp 11) (.tmp 13) 83 135 (.agg #[(.string ⟨#[]⟩), (.int .i64 0)]) 24 rfl Try.underlying83 info135 rfl (by decide) (by omega) v144010 y144009 l0_3 _ _ _ (fun _ => True) (fun _ => False) rfl rfl ?aO ?aR (fun _ _ h => h) (fun _ h => h.elim) ?aF ?aB ?aS ?aL ?_
    (case aR => repeat (first | exact (Kd.C_below HR0_3.out HB.out) | (with_reducible refine Kd.C_alloc ?_ _) | (with_reducible refine Kd.C_drewN ?_ _) | (with_reducible refine Kd.C_drew ?_)))
    (case aB => exact (by repeat (first | (with_reducible first | exact HB.out | apply below_alloc | apply pw_below_drewN | apply below_drew1 | refine below_set ?_ GE144001.out | refine below_set ?_ GE144002.out) | exact HB.out)))
    (case aF => exact (fun _ _ => trivial))
    (case aO => exact (by (with_reducible repeat (first | apply Kd.R_alloc | apply Kd.R_drewN | apply Kd.R_drew)); exact HO144011.out))
    (case aS => exact (below_size (by repeat (first | (with_reducible first | exact HB.out | apply below_alloc | apply pw_below_drewN | apply below_drew1 | refine below_set ?_ GE144001.out | refine below_set ?_ GE144002.out) | exact HB.out))))
    (case aL => have := LMc4.out; omega)
    intro v144013 w13 ho hb hg hat
    rw [← Ny144012.out] at ho
    have n0_ := Aside0.mk (blk_grown (g := gb144001) (o := .cells #[.slice A0_0 l0_0.length c0_0, .slice A0_1 l0_1.length c0_1, .int .i64 a0_2, .slice A0_3 l0_3.length c0_3] 85 (0, 0)) (by (with_reducible repeat (first | refine blk_drewN ?_ _ | refine blk_drew ?_ | refine blk_alloc ?_ _)); exact BK144001.out) hg (Kd.R_ne HO144011.out BK144001.out (by decide)))
    have n1_ := Aside0.mk (blk_grown (g := gb144002) (o := .cells #[.slice none 0 0, .slice none 0 0, .int .i64 0, .slice none 0 0] 85 (0, 0)) (by (with_reducible repeat (first | refine blk_drewN ?_ _ | refine blk_drew ?_ | refine blk_alloc ?_ _)); exact BK144002.out) hg (Kd.R_ne HO144011.out BK144002.out (by decide)))
    have n2_ := Aside0.mk (Kd.R_over' (by (with_reducible repeat (first | apply Kd.R_alloc | apply Kd.R_drewN | apply Kd.R_drew)); exact HO144005.out) (Kd.R_typed (by (with_reducible repeat (first | apply Kd.R_alloc | apply Kd.R_drewN | apply Kd.R_drew)); exact HO144011.out)) (by decide) hg)
    have n3_ := Aside0.mk (Kd.R_over' (by (with_reducible repeat (first | apply Kd.R_alloc | apply Kd.R_drewN | apply Kd.R_drew)); exact HO144008.out) (Kd.R_typed (by (with_reducible repeat (first | apply Kd.R_alloc | apply Kd.R_drewN | apply Kd.R_drew)); exact HO144011.out)) (by decide) hg)
    have n4_ := Aside0.mk (hb)
    have n5_ := Aside0.mk (ho)
    clear BK144001
    clear BK144002
    clear HO144005
    clear HO144008
    clear HB
    clear HO144011
    have BK144001 := n0_
    have BK144002 := n1_
    have HO144005 := n2_
    have HO144008 := n3_
    have HB := n4_
    have HO144014 := n5_
    clear n0_ n1_ n2_ n3_ n4_ n5_
    clear ho hb hg hat
    obtain ⟨Ao14, co14, eo14⟩ := Kd.R_slice HO144014.out
    (first | subst eo14 | (injection eo14 with f1_ f2_ f3_; have f4_ := f1_.symm; have f5_ := f3_.symm; clear f1_ f2_ f3_; subst f4_; subst f5_))
    obtain ⟨Ao15, co15, eo15⟩ := Kd.R_slice HO144008.out
    (first | subst eo15 | (injection eo15 with f1_ f2_ f3_; have f4_ := f1_.symm; have f5_ := f3_.symm; clear f1_ f2_ f3_; subst f4_; subst f5_))
    obtain ⟨Ao16, co16, eo16⟩ := Kd.R_slice HO144005.out
    (first | subst eo16 | (injection eo16 with f1_ f2_ f3_; have f4_ := f1_.symm; have f5_ := f3_.symm; clear f1_ f2_ f3_; subst f4_; subst f5_))
    refine hK.out _ _ ⟨(blk_cell BK144001.out 0).trans rfl, (blk_cell BK144001.out 1).trans rfl, (blk_cell BK144001.out 2).trans rfl, (blk_cell BK144001.out 3).trans rfl⟩ (fun hHeld => ?_)
    clear hK K
    refine norm_ (a' := ?_) ?_ ?_
    rotate_left
    · show Act.put _ (some 14) _ = _
      simp only [Act.put, List.setIfInBounds_toArray, List.set_cons_zero, List.set_cons_succ, i64_w, i32_w]
      rfl
    refine pure_ (i := 12) (N := some 15) (v := ?_) (a' := ?_) #[true, true, true, true, true, true, true, true, true, true, true, true, true, false] rfl rfl (any_of HT_.out (by kernel_rfl)) (fun _ _ _ h => h) (Or.inl ⟨by rfl, ?_⟩) ?_ ?_
    rotate_left
    · intro w'
      go_simp
      with_reducible rfl
    rotate_left
    · simp only [Act.put, List.setIfInBounds_toArray, List.set_cons_zero, List.set_cons_succ, i64_w, i32_w]
      rfl
    refine one_ (i := 13) (N := none) #[true, true, true, true, true, true, true, true, true, true, true, true, true, true] rfl rfl (one_of HT_.out (by kernel_rfl)) (by decide) (fun K hK => ?_)
    have hs17 : w13.cell? ⟨gb144002, 0, none⟩ = some (.slice none 0 0) := (blk_cell BK144002.out 0).trans rfl
    have hfs17 := blk_frozen BK144002.out 0
    have hns17_0 := NB144001_144002.out
    have hms17_0 := NB144002_144001.out
    have hs18 : w13.cell? ⟨gb144002, 1, none⟩ = some (.slice none 0 0) := (blk_cell BK144002.out 1).trans rfl
    have hfs18 := blk_frozen BK144002.out 1
    have hns18_0 := NB144001_144002.out
    have hms18_0 := NB144002_144001.out
    have hs19 : w13.cell? ⟨gb144002, 2, none⟩ = some (.int .i64 0) := (blk_cell BK144002.out 2).trans rfl
    have hfs19 := blk_frozen BK144002.out 2
    have hns19_0 := NB144001_144002.out
    have hms19_0 := NB144002_144001.out
    have hs20 : w13.cell? ⟨gb144002, 3, none⟩ = some (.slice none 0 0) := (blk_cell BK144002.out 3).trans rfl
    have hfs20 := blk_frozen BK144002.out 3
    have hns20_0 := NB144001_144002.out
    have hms20_0 := NB144002_144001.out
    refine skip_ (w1 := ?_) (by rfl) rfl ?_ ?_
    rotate_left
    · go_simp
      rfl
    refine hK.out _ _ ⟨((cell_far (p := ⟨gb144002, _, none⟩) NB144001_144002.out _).trans (((cell_far (p := ⟨gb144002, _, none⟩) NB144001_144002.out _).trans (((cell_far (p := ⟨gb144002, _, none⟩) NB144001_144002.out _).trans (((cell_far (p := ⟨gb144002, _, none⟩) NB144001_144002.out _).trans (hHeld.1)))))))), ((cell_far (p := ⟨gb144002, _, none⟩) NB144001_144002.out _).trans (((cell_far (p := ⟨gb144002, _, none⟩) NB144001_144002.out _).trans (((cell_far (p := ⟨gb144002, _, none⟩) NB144001_144002.out _).trans (((cell_far (p := ⟨gb144002, _, none⟩) NB144001_144002.out _).trans (hHeld.2.1)))))))), ((cell_far (p := ⟨gb144002, _, none⟩) NB144001_144002.out _).trans (((cell_far (p := ⟨gb144002, _, none⟩) NB144001_144002.out _).trans (((cell_far (p := ⟨gb144002, _, none⟩) NB144001_144002.out _).trans (((cell_far (p := ⟨gb144002, _, none⟩) NB144001_144002.out _).trans (hHeld.2.2.1)))))))), ((cell_far (p := ⟨gb144002, _, none⟩) NB144001_144002.out _).trans (((cell_far (p := ⟨gb144002, _, none⟩) NB144001_144002.out _).trans (((cell_far (p := ⟨gb144002, _, none⟩) NB144001_144002.out _).trans (((cell_far (p := ⟨gb144002, _, none⟩) NB144001_144002.out _).trans (hHeld.2.2.2))))))))⟩ (fun hHeld => ?_)
    clear hK K
    refine done_ (done_of HT_.out (by kernel_rfl)) ?_
    try go_wp2
    refine bodyPost_ret (results_cell_row rfl _ _ gb144002 85 #[.slice Ao16 t144003.length co16, .slice Ao15 t144006.length co15, .int .i64 a0_2, .slice Ao14 y144012.length co14] (0, 0) _ rfl (by (with_reducible repeat (first | refine blk_drewN ?_ _ | refine blk_drew ?_ | refine blk_alloc ?_ _)); refine blk_put (cs := #[.slice Ao16 t144003.length co16, .slice Ao15 t144006.length co15, .int .i64 a0_2, .slice none 0 0]) ?_ 3 _ rfl; (with_reducible repeat (first | refine blk_drewN ?_ _ | refine blk_drew ?_ | refine blk_alloc ?_ _)); refine blk_put (cs := #[.slice Ao16 t144003.length co16, .slice Ao15 t144006.length co15, .int .i64 0, .slice none 0 0]) ?_ 2 _ rfl; (with_reducible repeat (first | refine blk_drewN ?_ _ | refine blk_drew ?_ | refine blk_alloc ?_ _)); refine blk_put (cs := #[.slice Ao16 t144003.length co16, .slice none 0 0, .int .i64 0, .slice none 0 0]) ?_ 1 _ rfl; (with_reducible repeat (first | refine blk_drewN ?_ _ | refine blk_drew ?_ | refine blk_alloc ?_ _)); refine blk_put (cs := #[.slice none 0 0, .slice none 0 0, .int .i64 0, .slice none 0 0]) ?_ 0 _ rfl; (with_reducible repeat (first | refine blk_drewN ?_ _ | refine blk_drew ?_ | refine blk_alloc ?_ _)); exact BK144002.out) Try.underlying85 rfl (by kernel_rfl)) rfl ?_
    exact ⟨_, _, _, by first | rfl | (simp [errW_none, errW_some] <;> rfl) | (simp [*, errW_none, errW_some] <;> rfl), by (with_reducible repeat (first | apply Kd.R_alloc | apply Kd.R_drewN | apply Kd.R_drew)); exact Kd.R_mono (Kd.R_far (p := ⟨gb144002, 3, none⟩) (Kd.R_far (p := ⟨gb144002, 2, none⟩) (Kd.R_far (p := ⟨gb144002, 1, none⟩) (Kd.R_far (p := ⟨gb144002, 0, none⟩) (Kd.R_types HO144005.out BK144002.out (by decide)) (fun _ hk => hk.2) (.slice Ao16 t144003.length co16)) (fun _ hk => hk.2) (.slice Ao15 t144006.length co15)) (fun _ hk => hk.2) (.int .i64 a0_2)) (fun _ hk => hk.2) (.slice Ao14 y144012.length co14)) (fun _ hk => hk.1), by (with_reducible repeat (first | apply Kd.R_alloc | apply Kd.R_drewN | apply Kd.R_drew)); exact Kd.R_mono (Kd.R_far (p := ⟨gb144002, 3, none⟩) (Kd.R_far (p := ⟨gb144002, 2, none⟩) (Kd.R_far (p := ⟨gb144002, 1, none⟩) (Kd.R_far (p := ⟨gb144002, 0, none⟩) (Kd.R_types HO144008.out BK144002.out (by decide)) (fun _ hk => hk.2) (.slice Ao16 t144003.length co16)) (fun _ hk => hk.2) (.slice Ao15 t144006.length co15)) (fun _ hk => hk.2) (.int .i64 a0_2)) (fun _ hk => hk.2) (.slice Ao14 y144012.length co14)) (fun _ hk => hk.1), by (with_reducible repeat (first | apply Kd.R_alloc | apply Kd.R_drewN | apply Kd.R_drew)); exact Kd.R_mono (Kd.R_far (p := ⟨gb144002, 3, none⟩) (Kd.R_far (p := ⟨gb144002, 2, none⟩) (Kd.R_far (p := ⟨gb144002, 1, none⟩) (Kd.R_far (p := ⟨gb144002, 0, none⟩) (Kd.R_types HO144014.out BK144002.out (by decide)) (fun _ hk => hk.2) (.slice Ao16 t144003.length co16)) (fun _ hk => hk.2) (.slice Ao15 t144006.length co15)) (fun _ hk => hk.2) (.int .i64 a0_2)) (fun _ hk => hk.2) (.slice Ao14 y144012.length co14)) (fun _ hk => trivial), by repeat (first | (with_reducible first | exact HB.out | apply below_alloc | apply pw_below_drewN | apply below_drew1 | refine below_set ?_ GE144001.out | refine below_set ?_ GE144002.out) | exact HB.out)⟩
  · rw [if_neg c4] at H
    exact absurd H (by simp)
end Go.Proofs.Yteopooljohdoiaa.Px
namespace Go.Proofs.Yteopooljohdoiaa.Px
open Go.RowKit Go.Proofs.YteopooljohdoiaaW.PrintWords Go.Proofs.YteopooljohdoiaaW.PrintLast
abbrev Pers := S135
theorem rdP (l : List Pers) (i : Nat) : rd_T135 l (i : Int) = l.getD i z135 := by show l.getD (i : Int).toNat _ = _; rw [Int.toNat_natCast]
def fewR (ups downs : List Int) (ps : List Pers) : Prop := ups.length ≤ 7 ∧ downs.length ≤ 7 ∧ ps.length ≤ 12 ∧ ∀ p ∈ ps, p.f0.size ≤ 30
theorem few_go (ups downs : List Int) (hold : Int) (ps : List Pers) (hl : ps.length ≤ 1000) : ∀ (d i k : Nat), i + d = ps.length → d < k → (∀ j, j < i → (ps.getD j z135).f0.size ≤ 30) → ∃ b, guidevanelaw09_fewRules.l0 k (i : Int) ups downs hold ps = some b ∧ (b = true → ∀ j, j < ps.length → (ps.getD j z135).f0.size ≤ 30) := by
  intro d
  induction d with
  | zero =>
    intro i k hi hk h0
    obtain ⟨k, rfl⟩ : ∃ m, k = m + 1 := ⟨k - 1, by omega⟩
    simp only [guidevanelaw09_fewRules.l0]
    rw [if_neg (by omega)]
    exact ⟨true, rfl, fun _ j hj => h0 j (by omega)⟩
  | succ d ih =>
    intro i k hi hk h0
    obtain ⟨k, rfl⟩ : ∃ m, k = m + 1 := ⟨k - 1, by omega⟩
    simp only [guidevanelaw09_fewRules.l0]
    rw [if_pos (by omega), if_pos (by omega), rdP]
    by_cases h : ((ps.getD i z135).f0.size : Int) > 30
    · rw [if_pos h]; exact ⟨false, rfl, fun hh => by cases hh⟩
    · rw [if_neg h, pw64 (by omega) (by omega), show ((i : Int) + 1) = ((i + 1 : Nat) : Int) from rfl]
      refine ih (i + 1) k (by omega) (by omega) fun j hj => ?_
      by_cases e : j = i
      · subst e; omega
      · exact h0 j (by omega)
theorem few_f (ups downs : List Int) (hold : Int) (ps : List Pers) (k : Nat) (hk : 20 < k) : ∃ b, guidevanelaw09_fewRules.f k ups downs hold ps = some b ∧ (b = true → fewR ups downs ps) := by
  obtain ⟨k, rfl⟩ : ∃ m, k = m + 1 := ⟨k - 1, by omega⟩
  unfold guidevanelaw09_fewRules.f
  simp only [guidevanelaw09_fewRules.j0]
  by_cases h1 : 7 < ups.length
  · rw [if_pos (by omega), if_pos (by trivial)]; exact ⟨false, rfl, fun hh => by cases hh⟩
  rw [if_neg (by omega)]
  by_cases h2 : 7 < downs.length
  · rw [if_pos (by omega), if_pos (by trivial)]; exact ⟨false, rfl, fun hh => by cases hh⟩
  rw [if_neg (by omega)]
  by_cases h3 : 12 < ps.length
  · rw [show decide ((ps.length : Int) > 12) = true from decide_eq_true (by omega), if_pos rfl]; exact ⟨false, rfl, fun hh => by cases hh⟩
  rw [show decide ((ps.length : Int) > 12) = false from decide_eq_false (by omega), if_neg (by decide)]
  obtain ⟨b, hb, hh⟩ := few_go ups downs hold ps (by omega) ps.length 0 k (by omega) (by omega) (fun j hj => absurd hj (by omega))
  refine ⟨b, hb, fun h => ⟨by omega, by omega, by omega, fun p hp => ?_⟩⟩
  obtain ⟨j, hj, rfl⟩ := List.getElem_of_mem hp
  have := hh h j hj
  rwa [List.getD_eq_getElem?_getD, List.getElem?_eq_getElem hj] at this
theorem copyRules_f (ups downs : List Int) (hold : Int) (ps : List Pers) (h : fewR ups downs ps) : guidevaneref09_CopyRules.f ups downs hold ps = some (ups, downs, hold, ps) := by
  have h1 := h.1
  have h2 := h.2.1
  have h3 := h.2.2.1
  unfold guidevaneref09_CopyRules.f
  rw [copyInts_f _ (by omega), copyInts_f _ (by omega)]
  simp only [Option.bind_some, List.length_nil, List.nil_append]
  rw [if_pos (by omega)]
theorem dcheck_f (ups downs : List Int) (hold : Int) (ps : List Pers) (h : fewR ups downs ps) : dam_CheckRules.f ups downs hold ps = some (rulesOut ups downs hold ps) := by
  unfold dam_CheckRules.f
  rw [if_pos (fun p hp => by have := h.2.2.2 p hp; omega)]
theorem rcheck_f (ups downs : List Int) (hold : Int) (ps : List Pers) (h : fewR ups downs ps) : guidevaneref09_CheckRules.f ups downs hold ps = some (rulesOut ups downs hold ps) := by
  have h1 := h.1
  have h3 := h.2.2.1
  unfold guidevaneref09_CheckRules.f
  rw [if_pos ⟨by omega, by omega, fun p hp => by have := h.2.2.2 p hp; omega⟩]
end Go.Proofs.Yteopooljohdoiaa.Px
namespace Go.Proofs.Yteopooljohdoiaa.Px
open Go.RowKit Go.Proofs.YteopooljohdoiaaW.PrintWords Go.Proofs.YteopooljohdoiaaW.PrintLast Go.Proofs.YteopooljohdoiaaW.PrintMore
attribute [local go_sem] max2_int min2_int max_two min_two max_three min_three max_four min_four
def guidevaneref09_Asked.l0 : Nat → Int → Int → Int → List Int → List Int → Int → List (S135) → Option (Int)
  | 0, _, _, _, _, _, _, _ => none
  | k + 1, x1, x5, x6, x171002000, x171002001, x171002002, x171002003 => if x6 < (x171002000.length : Int) then (if 0 ≤ x6 then (if (rd x171002000 x6) ≤ x1 then (guidevaneref09_Asked.l0 k x1 (wrap64 (x6 + 1)) (wrap64 (x6 + 1)) x171002000 x171002001 x171002002 x171002003) else (guidevaneref09_Asked.l0 k x1 x5 (wrap64 (x6 + 1)) x171002000 x171002001 x171002002 x171002003)) else (none)) else (some x5)
def guidevaneref09_Asked.f (k : Nat) (l0_0 : List Int) (l0_1 : List Int) (a0_2 : Int) (l0_3 : List (S135)) (a1 : Int) : Option (Int) := guidevaneref09_Asked.l0 k a1 0 0 l0_0 l0_1 a0_2 l0_3
theorem guidevaneref09_Asked.mono_l : ∀ k, (∀ y0 y1 y2 y3 y4 y5 y6, LeO (guidevaneref09_Asked.l0 k y0 y1 y2 y3 y4 y5 y6) (guidevaneref09_Asked.l0 (k + 1) y0 y1 y2 y3 y4 y5 y6))
  | 0 => fun _ _ _ _ _ _ _ r h => by simp [guidevaneref09_Asked.l0] at h
  | k + 1 => by
    have ih0 := guidevaneref09_Asked.mono_l k
    · intro y0 y1 y2 y3 y4 y5 y6
      unfold guidevaneref09_Asked.l0
      repeat' first
      | (with_reducible exact ih0 _ _ _ _ _ _ _)
      | (with_reducible exact LeO.refl _)
      | (with_reducible exact LeO.none _)
      | (with_reducible refine LeO.ite ?_ ?_)
      | (with_reducible refine LeO.bind ?_ (fun _ => ?_))
      | exact ih0 _ _ _ _ _ _ _
      | exact LeO.none _
      | refine LeO.ite ?_ ?_
      | refine LeO.bind ?_ (fun _ => ?_)
theorem guidevaneref09_Asked.mono : ∀ a0 a1 a2 a3 a4 k, LeO (guidevaneref09_Asked.f k a0 a1 a2 a3 a4) (guidevaneref09_Asked.f (k + 1) a0 a1 a2 a3 a4) := by
  intro a0 a1 a2 a3 a4 k
  have ih0 := guidevaneref09_Asked.mono_l k
  unfold guidevaneref09_Asked.f
  repeat' first
      | (with_reducible exact ih0 _ _ _ _ _ _ _)
      | (with_reducible exact LeO.refl _)
      | (with_reducible exact LeO.none _)
      | (with_reducible refine LeO.ite ?_ ?_)
      | (with_reducible refine LeO.bind ?_ (fun _ => ?_))
      | exact ih0 _ _ _ _ _ _ _
      | exact LeO.none _
      | refine LeO.ite ?_ ?_
      | refine LeO.bind ?_ (fun _ => ?_)
set_option maxHeartbeats 8000000 in
set_option maxRecDepth 100000 in
theorem guidevaneref09_Asked.calls (k : Nat) (A0_0 : Option Addr) (c0_0 : Nat) (l0_0 : List Int) (A0_1 : Option Addr) (c0_1 : Nat) (l0_1 : List Int) (a0_2 : Int) (A0_3 : Option Addr) (c0_3 : Nat) (l0_3 : List (S135)) (a1 : Int) (r : Int) (w : World) (hr0_0 : Kd.C (Kd.int .i64) w A0_0 l0_0.length l0_0) (hc0_0 : l0_0.length ≤ c0_0) (hr0_1 : Kd.C (Kd.int .i64) w A0_1 l0_1.length l0_1) (hc0_1 : l0_1.length ≤ c0_1) (hr0_3 : Kd.C k135 w A0_3 l0_3.length l0_3) (hc0_3 : l0_3.length ≤ c0_3) (h : guidevaneref09_Asked.f k l0_0 l0_1 a0_2 l0_3 a1 = some r) :
    Calls Try.prog 57 #[.agg #[.slice A0_0 l0_0.length c0_0, .slice A0_1 l0_1.length c0_1, .int .i64 a0_2, .slice A0_3 l0_3.length c0_3], .int .i64 a1] w fun e w' => e = .returned (.int .i64 r) ∧ Below w.heap.size w w' := by
  have hu85 := Try.underlying85
  have HR0_0 := Aside0.mk hr0_0
  have HC0_0 := Aside0.mk hc0_0
  clear hr0_0 hc0_0
  have HR0_1 := Aside0.mk hr0_1
  have HC0_1 := Aside0.mk hc0_1
  clear hr0_1 hc0_1
  have HR0_3 := Aside0.mk hr0_3
  have HC0_3 := Aside0.mk hc0_3
  clear hr0_3 hc0_3
  have HB := Aside0.mk (Below.refl w.heap.size w)
  have H : (guidevaneref09_Asked.l0 k a1 0 0 l0_0 l0_1 a0_2 l0_3) = some r := h
  clear h
  have H' := Aside0.mk H
  clear H
  go_enter Try.func57, Try.ntmps57
  go_wp2_with (first | ((with_reducible refine gate_dst (N := 2) rfl ?_); refine box_event ?hg (N := 2) ?hd (cs := #[.slice A0_0 l0_0.length c0_0, .slice A0_1 l0_1.length c0_1, .int .i64 a0_2, .slice A0_3 l0_3.length c0_3]) (t := 85) ?hr ?_; (case hd => rfl); (case hg => rfl); (case hr => first | (go_simp; done) | (go_simp; rfl)); intro gb171001 hg w3 hbox hb; have n0_ := Aside0.mk (below_step (by repeat (first | (with_reducible first | exact HB.out | apply below_alloc | apply pw_below_drewN | apply below_drew1) | exact HB.out)) hb); have n1_ := Aside0.mk (hbox); have n2_ := Aside0.mk ((by rw [hg]; exact (below_size (by repeat (first | (with_reducible first | exact HB.out | apply below_alloc | apply pw_below_drewN | apply below_drew1) | exact HB.out))) : w.heap.size ≤ gb171001)); have n3_ := Aside0.mk ((by rw [hg]; exact (below_size (by repeat (first | (with_reducible first | exact HB.out | apply below_alloc | apply pw_below_drewN | apply below_drew1) | exact HB.out))) : w.heap.size ≤ gb171001)); clear HB; have HB := n0_; have BK171001 := n1_; have GW171001 := n2_; have GE171001 := n3_; clear n0_ n1_ n2_ n3_; clear hb hbox hg))
  go_loopg [5, 6] k (fun kq v5 v6 w' => ∃ (x5_1 : Int) (x6_1 : Int), v5 = .int .i64 x5_1 ∧ v6 = .int .i64 x6_1 ∧ Aside0 (guidevaneref09_Asked.l0 kq a1 x5_1 x6_1 l0_0 l0_1 a0_2 l0_3 = some r) ∧ Aside0 (kq ≤ k) ∧ Aside0 (w'.heap[gb171001]? = some (.cells #[(.slice A0_0 l0_0.length c0_0), (.slice A0_1 l0_1.length c0_1), .int .i64 a0_2, (.slice A0_3 l0_3.length c0_3)] 85 (0, 0))) ∧ Aside0 (Below w.heap.size w w'))
  case atStart => exact ⟨(0), (0), (by first | rfl | (simp; done) | (simp [*]; done)), (by first | rfl | (simp; done) | (simp [*]; done)), H', ⟨Nat.le_refl _⟩, ⟨by (with_reducible repeat (first | refine blk_drewN ?_ _ | refine blk_drew ?_ | refine blk_alloc ?_ _)); exact BK171001.out⟩, ⟨by repeat (first | (with_reducible first | exact HB.out | apply below_alloc | apply pw_below_drewN | apply below_drew1 | refine below_set ?_ GE171001.out) | exact HB.out)⟩⟩
  case round =>
    clear H'
    try clear p2
    obtain ⟨x5_1, x6_1, rfl, rfl, HA, HK1, BK171001, HB⟩ := hrel
    cases gk with
    | zero => exact absurd HA.out (by simp [guidevaneref09_Asked.l0])
    | succ k1 =>
      have H := HA.out
      clear HA
      simp only [guidevaneref09_Asked.l0] at H
      by_cases c4 : x6_1 < (l0_0.length : Int)
      · rw [if_pos c4] at H
        have c4b0 : decide (x6_1 < (l0_0.length : Int)) = true := decide_eq_true c4
        clear c4
        by_cases c5 : 0 ≤ x6_1
        · rw [if_pos c5] at H
          have c5b0 : decide (0 ≤ x6_1) = true := decide_eq_true c5
          clear c5
          by_cases c6 : (rd l0_0 x6_1) ≤ a1
          · rw [if_pos c6] at H
            have c6b0 : decide ((rd l0_0 x6_1) ≤ a1) = true := decide_eq_true c6
            clear c6
            have H' := Aside0.mk H
            clear H
            have hcz7_0 : wr.cell? ⟨gb171001, 0, none⟩ = some (.slice A0_0 l0_0.length c0_0) := (blk_cell BK171001.out 0).trans rfl
            have hcz7_1 : wr.cell? ⟨gb171001, 1, none⟩ = some (.slice A0_1 l0_1.length c0_1) := (blk_cell BK171001.out 1).trans rfl
            have hcz7_2 : wr.cell? ⟨gb171001, 2, none⟩ = some (.int .i64 a0_2) := (blk_cell BK171001.out 2).trans rfl
            have hcz7_3 : wr.cell? ⟨gb171001, 3, none⟩ = some (.slice A0_3 l0_3.length c0_3) := (blk_cell BK171001.out 3).trans rfl
            have hfz7_0 := blk_frozen BK171001.out 0
            have hfz7_1 := blk_frozen BK171001.out 1
            have hfz7_2 := blk_frozen BK171001.out 2
            have hfz7_3 := blk_frozen BK171001.out 3
            have p171002 : 0 ≤ (x6_1 : Int) := of_decide_eq_true (by first | (with_reducible assumption) | assumption)
            have q171002 : x6_1 < (l0_0.length : Int) := of_decide_eq_true (by first | (with_reducible assumption) | assumption)
            obtain ⟨ad171002, e171002, hx171002_0⟩ := Kd.at_int HR0_0.out x6_1 p171002 q171002
            cases e171002
            replace hx171002_0 := (HB.out.cell (World.block_lt_of_cell? w _ hx171002_0)).trans hx171002_0
            replace p171002 := eq_true p171002
            replace q171002 := eq_true q171002
            go_wp2
            go_roundg k1
            case measure => have := HK1.out; omega
            case rel => exact ⟨(wrap64 (x6_1 + 1)), (wrap64 (x6_1 + 1)), (by first | rfl | (simp; done) | (simp [*]; done)), (by first | rfl | (simp; done) | (simp [*]; done)), H', ⟨by have := HK1.out; omega⟩, ⟨by (with_reducible repeat (first | refine blk_drewN ?_ _ | refine blk_drew ?_ | refine blk_alloc ?_ _)); exact BK171001.out⟩, ⟨by repeat (first | (with_reducible first | exact HB.out | apply below_alloc | apply pw_below_drewN | apply below_drew1 | refine below_set ?_ GE171001.out) | exact HB.out)⟩⟩
          · rw [if_neg c6] at H
            have c6b0 : decide ((rd l0_0 x6_1) ≤ a1) = false := decide_eq_false c6
            clear c6
            have H' := Aside0.mk H
            clear H
            have hcz8_0 : wr.cell? ⟨gb171001, 0, none⟩ = some (.slice A0_0 l0_0.length c0_0) := (blk_cell BK171001.out 0).trans rfl
            have hcz8_1 : wr.cell? ⟨gb171001, 1, none⟩ = some (.slice A0_1 l0_1.length c0_1) := (blk_cell BK171001.out 1).trans rfl
            have hcz8_2 : wr.cell? ⟨gb171001, 2, none⟩ = some (.int .i64 a0_2) := (blk_cell BK171001.out 2).trans rfl
            have hcz8_3 : wr.cell? ⟨gb171001, 3, none⟩ = some (.slice A0_3 l0_3.length c0_3) := (blk_cell BK171001.out 3).trans rfl
            have hfz8_0 := blk_frozen BK171001.out 0
            have hfz8_1 := blk_frozen BK171001.out 1
            have hfz8_2 := blk_frozen BK171001.out 2
            have hfz8_3 := blk_frozen BK171001.out 3
            have p171002 : 0 ≤ (x6_1 : Int) := of_decide_eq_true (by first | (with_reducible assumption) | assumption)
            have q171002 : x6_1 < (l0_0.length : Int) := of_decide_eq_true (by first | (with_reducible assumption) | assumption)
            obtain ⟨ad171002, e171002, hx171002_0⟩ := Kd.at_int HR0_0.out x6_1 p171002 q171002
            cases e171002
            replace hx171002_0 := (HB.out.cell (World.block_lt_of_cell? w _ hx171002_0)).trans hx171002_0
            replace p171002 := eq_true p171002
            replace q171002 := eq_true q171002
            go_wp2
            go_roundg k1
            case measure => have := HK1.out; omega
            case rel => exact ⟨(x5_1), (wrap64 (x6_1 + 1)), (by first | rfl | (simp; done) | (simp [*]; done)), (by first | rfl | (simp; done) | (simp [*]; done)), H', ⟨by have := HK1.out; omega⟩, ⟨by (with_reducible repeat (first | refine blk_drewN ?_ _ | refine blk_drew ?_ | refine blk_alloc ?_ _)); exact BK171001.out⟩, ⟨by repeat (first | (with_reducible first | exact HB.out | apply below_alloc | apply pw_below_drewN | apply below_drew1 | refine below_set ?_ GE171001.out) | exact HB.out)⟩⟩
        · rw [if_neg c5] at H
          exact absurd H (by simp)
      · rw [if_neg c4] at H
        have c4b0 : decide (x6_1 < (l0_0.length : Int)) = false := decide_eq_false c4
        clear c4
        obtain rfl := Option.some.inj H
        have hcz9_0 : wr.cell? ⟨gb171001, 0, none⟩ = some (.slice A0_0 l0_0.length c0_0) := (blk_cell BK171001.out 0).trans rfl
        have hcz9_1 : wr.cell? ⟨gb171001, 1, none⟩ = some (.slice A0_1 l0_1.length c0_1) := (blk_cell BK171001.out 1).trans rfl
        have hcz9_2 : wr.cell? ⟨gb171001, 2, none⟩ = some (.int .i64 a0_2) := (blk_cell BK171001.out 2).trans rfl
        have hcz9_3 : wr.cell? ⟨gb171001, 3, none⟩ = some (.slice A0_3 l0_3.length c0_3) := (blk_cell BK171001.out 3).trans rfl
        have hfz9_0 := blk_frozen BK171001.out 0
        have hfz9_1 := blk_frozen BK171001.out 1
        have hfz9_2 := blk_frozen BK171001.out 2
        have hfz9_3 := blk_frozen BK171001.out 3
        go_wp2
        go_ret
        exact ⟨by first | rfl | (simp [errW_none, errW_some] <;> rfl) | (simp [*, errW_none, errW_some] <;> rfl), by repeat (first | (with_reducible first | exact HB.out | apply below_alloc | apply pw_below_drewN | apply below_drew1 | refine below_set ?_ GE171001.out) | exact HB.out)⟩
def guidevaneref09_Watched.f (k : Nat) (l0_0 : List Int) (l0_1 : List Int) (a0_2 : Int) (l0_3 : List (S135)) (a1_0 : Int) (a1_1 : Int) (a1_2 : Int) (a2 : Int) : Option (Int × Int × Int) := (guidevaneref09_Asked.f k l0_0 l0_1 a0_2 l0_3 a2).bind fun t177004 => (if t177004 > a1_0 then (some (t177004, 0, a2)) else (if a1_0 > 0 then (if 0 ≤ (wrap64 (a1_0 - 1)) then (if (wrap64 (a1_0 - 1)) < (l0_1.length : Int) then (if a2 < (rd l0_1 (wrap64 (a1_0 - 1))) then (some (a1_0, mn (wrap64 (a1_1 + 1)) 1000000, a2)) else (some (a1_0, 0, a2))) else (none)) else (none)) else (some (a1_0, 0, a2))))
theorem guidevaneref09_Watched.mono : ∀ a0 a1 a2 a3 a4 a5 a6 a7 k, LeO (guidevaneref09_Watched.f k a0 a1 a2 a3 a4 a5 a6 a7) (guidevaneref09_Watched.f (k + 1) a0 a1 a2 a3 a4 a5 a6 a7) := by
  intro a0 a1 a2 a3 a4 a5 a6 a7 k
  unfold guidevaneref09_Watched.f
  repeat' first
      | (with_reducible exact guidevaneref09_Asked.mono _ _ _ _ _ _)
      | (with_reducible exact LeO.refl _)
      | (with_reducible exact LeO.none _)
      | (with_reducible refine LeO.ite ?_ ?_)
      | (with_reducible refine LeO.bind ?_ (fun _ => ?_))
      | exact guidevaneref09_Asked.mono _ _ _ _ _ _
      | exact LeO.none _
      | refine LeO.ite ?_ ?_
      | refine LeO.bind ?_ (fun _ => ?_)
set_option maxHeartbeats 8000000 in
set_option maxRecDepth 100000 in
theorem guidevaneref09_Watched.calls (k : Nat) (A0_0 : Option Addr) (c0_0 : Nat) (l0_0 : List Int) (A0_1 : Option Addr) (c0_1 : Nat) (l0_1 : List Int) (a0_2 : Int) (A0_3 : Option Addr) (c0_3 : Nat) (l0_3 : List (S135)) (a1_0 : Int) (a1_1 : Int) (a1_2 : Int) (a2 : Int) (r1 : Int) (r2 : Int) (r3 : Int) (w : World) (hr0_0 : Kd.C (Kd.int .i64) w A0_0 l0_0.length l0_0) (hc0_0 : l0_0.length ≤ c0_0) (hr0_1 : Kd.C (Kd.int .i64) w A0_1 l0_1.length l0_1) (hc0_1 : l0_1.length ≤ c0_1) (hr0_3 : Kd.C k135 w A0_3 l0_3.length l0_3) (hc0_3 : l0_3.length ≤ c0_3) (h : guidevaneref09_Watched.f k l0_0 l0_1 a0_2 l0_3 a1_0 a1_1 a1_2 a2 = some (r1, r2, r3)) :
    Calls Try.prog 59 #[.agg #[.slice A0_0 l0_0.length c0_0, .slice A0_1 l0_1.length c0_1, .int .i64 a0_2, .slice A0_3 l0_3.length c0_3], .agg #[.int .i64 a1_0, .int .i64 a1_1, .int .i64 a1_2], .int .i64 a2] w fun e w' => e = .returned (.agg #[.int .i64 r1, .int .i64 r2, .int .i64 r3]) ∧ Below w.heap.size w w' := by
  have hu := Try.underlying85
  have hu2 := Try.underlying88
  have HR0 := Aside0.mk hr0_0
  have HR1 := Aside0.mk hr0_1
  have HR3 := Aside0.mk hr0_3
  have HC := Aside0.mk (And.intro hc0_0 (And.intro hc0_1 hc0_3))
  clear hr0_0 hr0_1 hr0_3 hc0_0 hc0_1 hc0_3
  unfold guidevaneref09_Watched.f at h
  replace h := Option.bind_eq_some_iff.mp h
  obtain ⟨c, hc, h⟩ := h
  have HA := Aside0.mk hc
  have HOUT := Aside0.mk h
  clear hc h
  go_enter Try.func59, Try.ntmps59
  go_upto_region 1 with fail
  have hX := blk_alloc (blk_alloc (blk_new w (.cells #[.slice A0_0 l0_0.length c0_0, .slice A0_1 l0_1.length c0_1, .int .i64 a0_2, .slice A0_3 l0_3.length c0_3] 85)) (.cells #[.int .i64 a1_0, .int .i64 a1_1, .int .i64 a1_2] 88)) (.cells #[.int .i64 0, .int .i64 0, .int .i64 0] 88)
  have hS := blk_alloc (blk_new (w.alloc (.cells #[.slice A0_0 l0_0.length c0_0, .slice A0_1 l0_1.length c0_1, .int .i64 a0_2, .slice A0_3 l0_3.length c0_3] 85)) (.cells #[.int .i64 a1_0, .int .i64 a1_1, .int .i64 a1_2] 88)) (.cells #[.int .i64 0, .int .i64 0, .int .i64 0] 88)
  have hZ := blk_new ((w.alloc (.cells #[.slice A0_0 l0_0.length c0_0, .slice A0_1 l0_1.length c0_1, .int .i64 a0_2, .slice A0_3 l0_3.length c0_3] 85)).alloc (.cells #[.int .i64 a1_0, .int .i64 a1_1, .int .i64 a1_2] 88)) (.cells #[.int .i64 0, .int .i64 0, .int .i64 0] 88)
  have hb1 := below_alloc (below_alloc (below_alloc (Below.refl _ w) (.cells #[.slice A0_0 l0_0.length c0_0, .slice A0_1 l0_1.length c0_1, .int .i64 a0_2, .slice A0_3 l0_3.length c0_3] 85)) (.cells #[.int .i64 a1_0, .int .i64 a1_1, .int .i64 a1_2] 88)) (.cells #[.int .i64 0, .int .i64 0, .int .i64 0] 88)
  rw [show (w.alloc (.cells #[.slice A0_0 l0_0.length c0_0, .slice A0_1 l0_1.length c0_1, .int .i64 a0_2, .slice A0_3 l0_3.length c0_3] 85)).heap.size = w.heap.size + 1 from Array.size_push _] at hS
  rw [show ((w.alloc (.cells #[.slice A0_0 l0_0.length c0_0, .slice A0_1 l0_1.length c0_1, .int .i64 a0_2, .slice A0_3 l0_3.length c0_3] 85)).alloc (.cells #[.int .i64 a1_0, .int .i64 a1_1, .int .i64 a1_2] 88)).heap.size = w.heap.size + 1 + 1 from (Array.size_push _).trans (congrArg (· + 1) (Array.size_push _))] at hZ
  generalize ((w.alloc (.cells #[.slice A0_0 l0_0.length c0_0, .slice A0_1 l0_1.length c0_1, .int .i64 a0_2, .slice A0_3 l0_3.length c0_3] 85)).alloc (.cells #[.int .i64 a1_0, .int .i64 a1_1, .int .i64 a1_2] 88)).alloc (.cells #[.int .i64 0, .int .i64 0, .int .i64 0] 88) = w1 at *
  have hx0 := (blk_cell hX 0).trans rfl
  have hx1 := (blk_cell hX 1).trans rfl
  have hx2 := (blk_cell hX 2).trans rfl
  have hx3 := (blk_cell hX 3).trans rfl
  have HX := Aside0.mk hX
  have HS := Aside0.mk hS
  have HZ := Aside0.mk hZ
  have HB1 := Aside0.mk hb1
  clear hX hS hZ hb1
  go_upto_region 2 with (go_at_call 57; refine (guidevaneref09_Asked.calls k A0_0 c0_0 l0_0 A0_1 c0_1 l0_1 a0_2 A0_3 c0_3 l0_3 a2 c _ (Kd.C_below HR0.out HB1.out) HC.out.1 (Kd.C_below HR1.out HB1.out) HC.out.2.1 (Kd.C_below HR3.out HB1.out) HC.out.2.2 HA.out).mono ?_; rintro e w2 ⟨rfl, hb2⟩; have HB2 := Aside0.mk hb2; clear hb2)
  clear hx0 hx1 hx2 hx3
  have hX2 := blk_below HX.out HB2.out
  have hS2 := blk_below HS.out HB2.out
  have HZ2 := Aside0.mk (blk_below HZ.out HB2.out)
  have HBw := Aside0.mk (below_step HB1.out HB2.out)
  have hx1 : w2.cell? ⟨w.heap.size, 1, none⟩ = some (.slice A0_1 l0_1.length c0_1) := (blk_cell hX2 1).trans rfl
  have hs0 : w2.cell? ⟨w.heap.size + 1, 0, none⟩ = some (.int .i64 a1_0) := (blk_cell hS2 0).trans rfl
  have hs1 : w2.cell? ⟨w.heap.size + 1, 1, none⟩ = some (.int .i64 a1_1) := (blk_cell hS2 1).trans rfl
  have hs2 : w2.cell? ⟨w.heap.size + 1, 2, none⟩ = some (.int .i64 a1_2) := (blk_cell hS2 2).trans rfl
  have hz0 : w2.cell? ⟨w.heap.size + 1 + 1, 0, none⟩ = some (.int .i64 0) := (blk_cell HZ2.out 0).trans rfl
  have hz1 : w2.cell? ⟨w.heap.size + 1 + 1, 1, none⟩ = some (.int .i64 0) := (blk_cell HZ2.out 1).trans rfl
  have hz2 : w2.cell? ⟨w.heap.size + 1 + 1, 2, none⟩ = some (.int .i64 0) := (blk_cell HZ2.out 2).trans rfl
  have hf0 := blk_frozen hS2 0
  have hf1 := blk_frozen hS2 1
  have hg0 := blk_frozen HZ2.out 0
  have hg1 := blk_frozen HZ2.out 1
  have hg2 := blk_frozen HZ2.out 2
  have hne : w.heap.size + 1 + 1 ≠ w.heap.size + 1 := by omega
  have HNE := Aside0.mk hne
  clear hX2 hS2 hne
  have ho := HOUT.out
  by_cases c1 : c > a1_0
  · rw [if_pos c1] at ho
    simp only [Option.some.injEq, Prod.mk.injEq] at ho
    obtain ⟨rfl, rfl, rfl⟩ := ho
    clear HOUT HA
    go_wp2
    refine bodyPost_ret (results_cell_row rfl _ _ (w.heap.size + 1 + 1) 88 #[.int .i64 _, .int .i64 _, .int .i64 _] (0, 0) _ rfl ?_ Try.underlying88 (by rfl) (by rfl)) rfl ⟨rfl, by repeat (first | exact HBw.out | refine below_set ?_ (by omega))⟩
    refine blk_put (cs := #[.int .i64 _, .int .i64 _, .int .i64 0]) ?_ 2 _ rfl; refine blk_put (cs := #[.int .i64 _, .int .i64 0, .int .i64 0]) ?_ 1 _ rfl; refine blk_put (cs := #[.int .i64 0, .int .i64 0, .int .i64 0]) ?_ 0 _ rfl; repeat (first | exact HZ2.out | refine blk_far (p := ⟨_, _, none⟩) ?_ HNE.out _)
  · rw [if_neg c1] at ho
    have hd1 : ¬ a1_0 < c := c1
    by_cases c2 : a1_0 > 0
    · rw [if_pos c2] at ho
      by_cases c3 : 0 ≤ wrap64 (a1_0 - 1)
      · rw [if_pos c3] at ho
        by_cases c4 : wrap64 (a1_0 - 1) < (l0_1.length : Int)
        · rw [if_pos c4] at ho
          obtain ⟨ad, e1, hd⟩ := Kd.at_int (Kd.C_below HR1.out HBw.out) (wrap64 (a1_0 - 1)) c3 c4
          subst e1
          generalize rd l0_1 (wrap64 (a1_0 - 1)) = x at *
          have HO2 := Aside0.mk ho
          clear HOUT HA ho
          by_cases c5 : a2 < x
          · have ho := HO2.out
            rw [if_pos c5] at ho
            by_cases c6 : 1000000 < wrap64 (a1_1 + 1)
            · rw [show mn (wrap64 (a1_1 + 1)) 1000000 = 1000000 from by unfold mn; omega] at ho
              simp only [Option.some.injEq, Prod.mk.injEq] at ho
              obtain ⟨rfl, rfl, rfl⟩ := ho
              clear HO2
              go_wp2
              refine bodyPost_ret (results_cell_row rfl _ _ (w.heap.size + 1 + 1) 88 #[.int .i64 _, .int .i64 _, .int .i64 _] (0, 0) _ rfl ?_ Try.underlying88 (by rfl) (by rfl)) rfl ⟨rfl, by repeat (first | exact HBw.out | refine below_set ?_ (by omega))⟩
              refine blk_put (cs := #[.int .i64 _, .int .i64 _, .int .i64 0]) ?_ 2 _ rfl; refine blk_put (cs := #[.int .i64 _, .int .i64 0, .int .i64 0]) ?_ 1 _ rfl; refine blk_put (cs := #[.int .i64 0, .int .i64 0, .int .i64 0]) ?_ 0 _ rfl; repeat (first | exact HZ2.out | refine blk_far (p := ⟨_, _, none⟩) ?_ HNE.out _)
            · rw [show mn (wrap64 (a1_1 + 1)) 1000000 = wrap64 (a1_1 + 1) from by unfold mn; omega] at ho
              simp only [Option.some.injEq, Prod.mk.injEq] at ho
              obtain ⟨rfl, rfl, rfl⟩ := ho
              clear HO2
              go_wp2
              refine bodyPost_ret (results_cell_row rfl _ _ (w.heap.size + 1 + 1) 88 #[.int .i64 _, .int .i64 _, .int .i64 _] (0, 0) _ rfl ?_ Try.underlying88 (by rfl) (by rfl)) rfl ⟨rfl, by repeat (first | exact HBw.out | refine below_set ?_ (by omega))⟩
              refine blk_put (cs := #[.int .i64 _, .int .i64 _, .int .i64 0]) ?_ 2 _ rfl; refine blk_put (cs := #[.int .i64 _, .int .i64 0, .int .i64 0]) ?_ 1 _ rfl; refine blk_put (cs := #[.int .i64 0, .int .i64 0, .int .i64 0]) ?_ 0 _ rfl; repeat (first | exact HZ2.out | refine blk_far (p := ⟨_, _, none⟩) ?_ HNE.out _)
          · have ho := HO2.out
            rw [if_neg c5] at ho
            simp only [Option.some.injEq, Prod.mk.injEq] at ho
            obtain ⟨rfl, rfl, rfl⟩ := ho
            clear HO2
            go_wp2
            refine bodyPost_ret (results_cell_row rfl _ _ (w.heap.size + 1 + 1) 88 #[.int .i64 _, .int .i64 _, .int .i64 _] (0, 0) _ rfl ?_ Try.underlying88 (by rfl) (by rfl)) rfl ⟨rfl, by repeat (first | exact HBw.out | refine below_set ?_ (by omega))⟩
            refine blk_put (cs := #[.int .i64 _, .int .i64 _, .int .i64 0]) ?_ 2 _ rfl; refine blk_put (cs := #[.int .i64 _, .int .i64 0, .int .i64 0]) ?_ 1 _ rfl; refine blk_put (cs := #[.int .i64 0, .int .i64 0, .int .i64 0]) ?_ 0 _ rfl; repeat (first | exact HZ2.out | refine blk_far (p := ⟨_, _, none⟩) ?_ HNE.out _)
        · rw [if_neg c4] at ho; exact absurd ho (by simp)
      · rw [if_neg c3] at ho; exact absurd ho (by simp)
    · rw [if_neg c2] at ho
      simp only [Option.some.injEq, Prod.mk.injEq] at ho
      obtain ⟨rfl, rfl, rfl⟩ := ho
      have hd2 : ¬ 0 < a1_0 := c2
      clear HOUT HA
      go_wp2
      refine bodyPost_ret (results_cell_row rfl _ _ (w.heap.size + 1 + 1) 88 #[.int .i64 _, .int .i64 _, .int .i64 _] (0, 0) _ rfl ?_ Try.underlying88 (by rfl) (by rfl)) rfl ⟨rfl, by repeat (first | exact HBw.out | refine below_set ?_ (by omega))⟩
      refine blk_put (cs := #[.int .i64 _, .int .i64 _, .int .i64 0]) ?_ 2 _ rfl; refine blk_put (cs := #[.int .i64 _, .int .i64 0, .int .i64 0]) ?_ 1 _ rfl; refine blk_put (cs := #[.int .i64 0, .int .i64 0, .int .i64 0]) ?_ 0 _ rfl; repeat (first | exact HZ2.out | refine blk_far (p := ⟨_, _, none⟩) ?_ HNE.out _)
def guidevaneref09_DeviationErr.f (a0 : Int) : Option (Int) := (guidevanebase_Within.f a0 0 1000000).bind fun t153001 => (if t153001 = true then (some 0) else (some 2))
set_option maxHeartbeats 8000000 in
set_option maxRecDepth 100000 in
theorem guidevaneref09_DeviationErr.calls (a0 : Int) (r : Int) (w : World) (h : guidevaneref09_DeviationErr.f a0 = some r) :
    Calls Try.prog 51 #[.int .i64 a0] w fun e w' => e = .returned (.int .i64 r) ∧ Drawn0 w w' := by
  have H : ((guidevanebase_Within.f a0 0 1000000).bind fun t153001 => (if t153001 = true then (some 0) else (some 2))) = some r := h
  clear h
  replace H := Option.bind_eq_some_iff.mp H
  obtain ⟨t153001, A20, H⟩ := H
  replace H : (if t153001 = true then (some 0) else (some 2)) = some r := H
  have A2 := Aside0.mk A20
  clear A20
  by_cases c3 : t153001 = true
  · subst c3
    have H1 : (some 0) = some r := by rw [if_pos rfl] at H; exact H
    clear H
    have H := H1
    clear H1
    obtain rfl := Option.some.inj H
    go_enter Try.func51, Try.ntmps51
    go_wp2_with (first | ((with_reducible refine gate_callee (f := 15) rfl ?_); refine goesL_ (some 4) rfl rfl Try.func15 (by kernel_rfl) rfl #[.int .i64 a0, .int .i64 0, .int .i64 1000000] rfl (by (try simp only [List.map_toArray, List.map_cons, List.map_nil]); first | done | rfl | (simp only [List.length_drop, List.length_take]; rfl)) ?_; (with_reducible refine (guidevanebase_Within.calls a0 0 1000000 true _ A2.out).mono ?_); rintro e w' ⟨rfl, ⟨nd, rfl⟩⟩; refine ⟨_, rfl, ?_⟩))
    go_ret
    exact ⟨by first | rfl | (simp; done) | (simp [*]; done), by repeat (first | exact Drawn0.refl _ | apply Drawn0.step)⟩
  · replace c3 := Bool.eq_false_iff.mpr c3
    subst c3
    have H1 : (some 2) = some r := by rw [if_neg (show ¬ (false = true) by decide)] at H; exact H
    clear H
    have H := H1
    clear H1
    obtain rfl := Option.some.inj H
    go_enter Try.func51, Try.ntmps51
    go_wp2_with (first | ((with_reducible refine gate_callee (f := 15) rfl ?_); refine goesL_ (some 4) rfl rfl Try.func15 (by kernel_rfl) rfl #[.int .i64 a0, .int .i64 0, .int .i64 1000000] rfl (by (try simp only [List.map_toArray, List.map_cons, List.map_nil]); first | done | rfl | (simp only [List.length_drop, List.length_take]; rfl)) ?_; (with_reducible refine (guidevanebase_Within.calls a0 0 1000000 false _ A2.out).mono ?_); rintro e w' ⟨rfl, ⟨nd, rfl⟩⟩; refine ⟨_, rfl, ?_⟩))
    go_ret
    exact ⟨by first | rfl | (simp; done) | (simp [*]; done), by repeat (first | exact Drawn0.refl _ | apply Drawn0.step)⟩
end Go.Proofs.Yteopooljohdoiaa.Px
namespace Go.Proofs.Yteopooljohdoiaa.Px
open Go.RowKit Go.Proofs.YteopooljohdoiaaW.PrintWords Go.Proofs.YteopooljohdoiaaW.PrintLast
structure OkRules (ups downs : List Int) : Prop where
  n1 : 1 ≤ ups.length
  n5 : ups.length ≤ 5
  dl : downs.length = ups.length
  up : ∀ i, i < ups.length → 1 ≤ ups.getD i 0 ∧ ups.getD i 0 ≤ 1000000
  dn : ∀ i, i < ups.length → 1 ≤ downs.getD i 0 ∧ downs.getD i 0 ≤ ups.getD i 0
  asc : ∀ i, i + 1 < ups.length → ups.getD i 0 < ups.getD (i + 1) 0
  nds : ∀ i, i + 1 < ups.length → downs.getD i 0 ≤ downs.getD (i + 1) 0
theorem firstBad_zero {n : Nat} {p : Nat → Int} (h : firstBad n p = none) : ∀ j, j < n → p j = 0 := by
  intro j hj
  unfold firstBad at h
  rw [List.find?_eq_none] at h
  simpa using h j (List.mem_range.2 hj)
theorem firstBad_ne {n : Nat} {p : Nat → Int} {i : Nat} (h : firstBad n p = some i) : ¬ p i = 0 := by
  unfold firstBad at h
  have := List.find?_some h
  simpa using this
theorem firstI3 {a b c : Int} (h : firstI [a, b, c] = 0) : a = 0 ∧ b = 0 ∧ c = 0 := by
  by_cases ha : a = 0
  · by_cases hb : b = 0
    · by_cases hc : c = 0
      · exact ⟨ha, hb, hc⟩
      · simp [firstI, ha, hb, hc] at h
    · simp [firstI, ha, hb] at h
  · simp [firstI, ha] at h
theorem firstI2 {a b : Int} (h : firstI [a, b] = 0) : a = 0 ∧ b = 0 := by
  by_cases ha : a = 0
  · by_cases hb : b = 0
    · exact ⟨ha, hb⟩
    · simp [firstI, ha, hb] at h
  · simp [firstI, ha] at h
theorem unlessI_zero {b : Bool} {e : Int} (he : ¬ e = 0) (h : unlessI b e = 0) : b = true := by
  cases b
  · exact absurd h he
  · rfl
theorem okRules_of {ups downs : List Int} {hold : Int} {ps : List Pers} (h : (rulesOut ups downs hold ps).2 = 0) : OkRules ups downs := by
  rw [rulesOut_eq] at h
  by_cases h0 : ups.length = 0 ∨ downs.length ≠ ups.length
  · rw [if_pos h0] at h; exact absurd h (by decide)
  rw [if_neg h0] at h
  by_cases h5 : 5 < ups.length
  · rw [if_pos h5] at h; exact absurd h (by decide)
  rw [if_neg h5] at h
  unfold rulesSteps at h
  cases hb : firstBad ups.length (stepErr ups downs) with
  | some i =>
    rw [hb] at h
    exact absurd h (firstBad_ne hb)
  | none =>
    have hz := firstBad_zero hb
    have key : ∀ i, i < ups.length → (isThr (ups.getD i 0) = true ∧ isThr (downs.getD i 0) = true) ∧ downs.getD i 0 ≤ ups.getD i 0 ∧ (i = 0 ∨ (ups.getD i 0 > ups.getD (i - 1) 0 ∧ downs.getD i 0 ≥ downs.getD (i - 1) 0)) := by
      intro i hi
      have := hz i hi
      unfold stepErr at this
      obtain ⟨h1, h2, h3⟩ := firstI3 this
      have h1 := unlessI_zero (by decide) h1
      have h2 := unlessI_zero (by decide) h2
      have h3 := unlessI_zero (by decide) h3
      simp only [Bool.and_eq_true, Bool.or_eq_true, decide_eq_true_eq, beq_iff_eq] at h1 h2 h3
      exact ⟨h1, h2, h3⟩
    have thr : ∀ x, isThr x = true → 1 ≤ x ∧ x ≤ 1000000 := by
      intro x hx
      unfold isThr at hx
      simpa only [Bool.and_eq_true, decide_eq_true_eq] using hx
    refine ⟨by omega, by omega, by omega, fun i hi => thr _ (key i hi).1.1, fun i hi => ⟨(thr _ (key i hi).1.2).1, (key i hi).2.1⟩, fun i hi => ?_, fun i hi => ?_⟩
    · rcases (key (i + 1) hi).2.2 with h | h
      · omega
      · exact h.1
    · rcases (key (i + 1) hi).2.2 with h | h
      · omega
      · exact h.2
theorem OkRules.lt {ups downs : List Int} (h : OkRules ups downs) : ∀ d i, i + d + 1 < ups.length → ups.getD i 0 < ups.getD (i + d + 1) 0
  | 0, i, hi => h.asc i hi
  | d + 1, i, hi => Int.lt_trans (h.lt d i (by omega)) (h.asc (i + d + 1) hi)
theorem OkRules.ltj {ups downs : List Int} (h : OkRules ups downs) (i j : Nat) (hij : i < j) (hj : j < ups.length) : ups.getD i 0 < ups.getD j 0 := by
  have := h.lt (j - i - 1) i (by omega)
  rwa [show i + (j - i - 1) + 1 = j by omega] at this
theorem OkRules.dnj {ups downs : List Int} (h : OkRules ups downs) : ∀ d i, i + d < ups.length → downs.getD i 0 ≤ downs.getD (i + d) 0
  | 0, i, hi => Int.le_refl _
  | d + 1, i, hi => Int.le_trans (h.dnj d i (by omega)) (h.nds (i + d) hi)
def IsStep (ups : List Int) (d : Int) (c : Nat) : Prop := c ≤ ups.length ∧ (∀ j, j < c → ups.getD j 0 ≤ d) ∧ (∀ j, c ≤ j → j < ups.length → d < ups.getD j 0)
theorem IsStep.uniq {ups : List Int} {d : Int} {a b : Nat} (ha : IsStep ups d a) (hb : IsStep ups d b) : a = b := by
  rcases Nat.lt_trichotomy a b with h | h | h
  · have h1 := hb.2.1 a h
    have h2 := ha.2.2 a (Nat.le_refl _) (by have := hb.1; omega)
    omega
  · exact h
  · have h1 := ha.2.1 b h
    have h2 := hb.2.2 b (Nat.le_refl _) (by have := ha.1; omega)
    omega
theorem bsearch_go (ups downs : List Int) (h : OkRules ups downs) (d : Int) : ∀ (m lo hi k : Nat), hi - lo ≤ m → lo ≤ hi → hi ≤ ups.length → m < k → (∀ j, j < lo → ups.getD j 0 < d) → (∀ j, hi ≤ j → j < ups.length → d ≤ ups.getD j 0) →
    ∃ (p : Nat) (b : Bool), slices_BinarySearch_int_int.l0 k ups d (ups.length : Int) (lo : Int) (hi : Int) = some ((p : Int), b) ∧ IsStep ups d (if b = true then p + 1 else p) := by
  have hn := h.n5
  intro m
  induction m with
  | zero =>
    intro lo hi k hm hlh hhn hk h1 h2
    obtain ⟨k, rfl⟩ : ∃ m, k = m + 1 := ⟨k - 1, by omega⟩
    obtain rfl : lo = hi := by omega
    simp only [slices_BinarySearch_int_int.l0]
    rw [if_neg (by omega)]
    by_cases hlt : lo < ups.length
    · rw [if_pos (by omega), if_pos (by omega), if_pos (by omega), rd_nat]
      by_cases he : ups.getD lo 0 = d
      · rw [if_pos he]
        refine ⟨lo, true, rfl, by rw [if_pos rfl]; omega, fun j hj => ?_, fun j hj hjn => ?_⟩
        · rw [if_pos rfl] at hj
          by_cases e : j = lo
          · subst e; omega
          · have := h1 j (by omega); omega
        · rw [if_pos rfl] at hj
          have := h.ltj lo j (by omega) hjn
          omega
      · rw [if_neg he, show slices_isNaN_int.f (ups.getD lo 0) = some false by simp [slices_isNaN_int.f]]
        simp only [Option.bind_some]
        refine ⟨lo, false, by simp, by simp; omega, fun j hj => ?_, fun j hj hjn => ?_⟩
        · have := h1 j (by simpa using hj); omega
        · have hj' : lo ≤ j := by simpa using hj
          by_cases e : j = lo
          · subst e; have := h2 j (Nat.le_refl _) hjn; omega
          · have h3 := h.ltj lo j (by omega) hjn
            have h4 := h2 lo (Nat.le_refl _) hlt
            omega
    · rw [if_neg (by omega)]
      refine ⟨lo, false, rfl, by simp; omega, fun j hj => ?_, fun j hj hjn => ?_⟩
      · have := h1 j (by simpa using hj); omega
      · have hj' : lo ≤ j := by simpa using hj
        omega
  | succ m ih =>
    intro lo hi k hm hlh hhn hk h1 h2
    by_cases hlt : lo < hi
    · obtain ⟨k, rfl⟩ : ∃ m, k = m + 1 := ⟨k - 1, by omega⟩
      simp only [slices_BinarySearch_int_int.l0]
      have hmid : wrap64 ((IntKind.u64.wrap (wrap64 ((lo : Int) + (hi : Int)))) / 2) = (((lo + hi) / 2 : Nat) : Int) := by
        rw [pw64 (n := (lo : Int) + (hi : Int)) (by omega) (by omega)]
        have : IntKind.u64.wrap ((lo : Int) + (hi : Int)) = ((lo + hi : Nat) : Int) := by
          simp [IntKind.wrap, IntKind.signed, IntKind.bits]; omega
        rw [this, pw64 (by omega) (by omega)]
        omega
      rw [hmid, if_pos (by omega), if_pos (by omega), if_pos (by omega), rd_nat]
      have hl : cmp_Less_int.f (ups.getD ((lo + hi) / 2) 0) d = some (decide (ups.getD ((lo + hi) / 2) 0 < d)) := by
        unfold cmp_Less_int.f cmp_isNaN_int.f
        by_cases hh : ups.getD ((lo + hi) / 2) 0 < d <;> simp [hh]
      rw [hl]
      simp only [Option.bind_some]
      by_cases hh : ups.getD ((lo + hi) / 2) 0 < d
      · rw [if_pos (decide_eq_true hh), pw64 (by omega) (by omega), show ((((lo + hi) / 2 : Nat) : Int) + 1) = (((lo + hi) / 2 + 1 : Nat) : Int) from rfl]
        refine ih _ hi k (by omega) (by omega) hhn (by omega) (fun j hj => ?_) h2
        by_cases e : j = (lo + hi) / 2
        · subst e; exact hh
        · have := h.ltj j ((lo + hi) / 2) (by omega) (by omega); omega
      · rw [if_neg (fun hh2 => hh (of_decide_eq_true hh2))]
        refine ih lo _ k (by omega) (by omega) (by omega) (by omega) h1 (fun j hj hjn => ?_)
        by_cases e : j = (lo + hi) / 2
        · subst e; omega
        · have := h.ltj ((lo + hi) / 2) j (by omega) hjn; omega
    · exact ih lo hi k (by omega) hlh hhn (by omega) h1 h2
theorem dasked_f (ups downs : List Int) (hold : Int) (ps : List Pers) (d : Int) (k : Nat) (h : OkRules ups downs) (hk : 20 < k) : ∃ c : Nat, dam_rules_asked.f k ups downs hold ps d = some (c : Int) ∧ IsStep ups d c := by
  have hn := h.n5
  obtain ⟨p, b, he, hs⟩ := bsearch_go ups downs h d ups.length 0 ups.length k (by omega) (by omega) (Nat.le_refl _) (by omega) (fun j hj => absurd hj (by omega)) (fun j hj hjn => absurd hj (by omega))
  refine ⟨_, ?_, hs⟩
  unfold dam_rules_asked.f slices_BinarySearch_int_int.f
  rw [show slices_BinarySearch_int_int.l0 k ups d (ups.length : Int) 0 (ups.length : Int) = _ from he]
  simp only [Option.bind_some]
  cases b
  · rfl
  · rw [if_pos rfl, if_pos rfl]
    have := hs.1
    rw [if_pos rfl] at this
    rw [pw64 (by omega) (by omega)]; rfl
theorem rasked_go (ups downs : List Int) (hold : Int) (ps : List Pers) (d : Int) (h : OkRules ups downs) : ∀ (m i k : Nat) (s : Nat), i + m = ups.length → m < k → s ≤ i → (∀ j, j < s → ups.getD j 0 ≤ d) → (∀ j, s ≤ j → j < i → d < ups.getD j 0) →
    ∃ c : Nat, guidevaneref09_Asked.l0 k d (s : Int) (i : Int) ups downs hold ps = some (c : Int) ∧ IsStep ups d c := by
  have hn := h.n5
  intro m
  induction m with
  | zero =>
    intro i k s hi hk hs h1 h2
    obtain ⟨k, rfl⟩ : ∃ m, k = m + 1 := ⟨k - 1, by omega⟩
    simp only [guidevaneref09_Asked.l0]
    rw [if_neg (by omega)]
    exact ⟨s, rfl, by omega, h1, fun j hj hjn => h2 j hj (by omega)⟩
  | succ m ih =>
    intro i k s hi hk hs h1 h2
    obtain ⟨k, rfl⟩ : ∃ m, k = m + 1 := ⟨k - 1, by omega⟩
    simp only [guidevaneref09_Asked.l0]
    rw [if_pos (by omega), if_pos (by omega), rd_nat, pw64 (by omega) (by omega), show ((i : Int) + 1) = ((i + 1 : Nat) : Int) from rfl]
    by_cases hh : ups.getD i 0 ≤ d
    · rw [if_pos hh]
      refine ih (i + 1) k (i + 1) (by omega) (by omega) (Nat.le_refl _) (fun j hj => ?_) (fun j hj hj2 => absurd hj (by omega))
      by_cases e : j = i
      · subst e; exact hh
      · have := h.ltj j i (by omega) (by omega); omega
    · rw [if_neg hh]
      refine ih (i + 1) k s (by omega) (by omega) (by omega) h1 (fun j hj hj2 => ?_)
      by_cases e : j = i
      · subst e; omega
      · exact h2 j hj (by omega)
theorem rasked_f (ups downs : List Int) (hold : Int) (ps : List Pers) (d : Int) (k : Nat) (h : OkRules ups downs) (hk : 20 < k) (c : Nat) (hc : IsStep ups d c) : guidevaneref09_Asked.f k ups downs hold ps d = some (c : Int) := by
  have hn := h.n5
  obtain ⟨c2, he, hs⟩ := rasked_go ups downs hold ps d h ups.length 0 k 0 (by omega) (by omega) (Nat.le_refl _) (fun j hj => absurd hj (by omega)) (fun j hj hj2 => absurd hj2 (by omega))
  obtain rfl := hc.uniq hs
  exact he
def watchS (downs : List Int) (c : Nat) (a b d : Int) : Int × Int × Int :=
  if (c : Int) > a then ((c : Int), 0, d) else if a > 0 then (if d < rd downs (a - 1) then (a, mn (wrap64 (b + 1)) 1000000, d) else (a, 0, d)) else (a, 0, d)
theorem dwatched_f (ups downs : List Int) (hold : Int) (ps : List Pers) (a b x d : Int) (k : Nat) (h : OkRules ups downs) (ha : 0 ≤ a ∧ a ≤ ups.length) (hk : 20 < k) (c : Nat) (hc : IsStep ups d c) : dam_rules_watched.f k ups downs hold ps a b x d = some (watchS downs c a b d) := by
  have hn := h.n5
  have hd := h.dl
  obtain ⟨c2, he, hs⟩ := dasked_f ups downs hold ps d k h hk
  obtain rfl := hc.uniq hs
  unfold dam_rules_watched.f watchS
  rw [he]
  simp only [Option.bind_some]
  by_cases h1 : (c : Int) > a
  · rw [if_pos h1, if_pos h1]
  · rw [if_neg h1, if_neg h1]
    by_cases h2 : a > 0
    · rw [if_pos h2, if_pos h2, pw64 (n := a - 1) (by omega) (by omega), if_pos (by omega), if_pos (by omega)]
      by_cases h3 : d < rd downs (a - 1)
      · rw [if_pos h3, if_pos h3]
      · rw [if_neg h3, if_neg h3]
    · rw [if_neg h2, if_neg h2]
theorem rwatched_f (ups downs : List Int) (hold : Int) (ps : List Pers) (a b x d : Int) (k : Nat) (h : OkRules ups downs) (ha : 0 ≤ a ∧ a ≤ ups.length) (hk : 20 < k) (c : Nat) (hc : IsStep ups d c) : guidevaneref09_Watched.f k ups downs hold ps a b x d = some (watchS downs c a b d) := by
  have hn := h.n5
  have hd := h.dl
  have he := rasked_f ups downs hold ps d k h hk c hc
  unfold guidevaneref09_Watched.f watchS
  rw [he]
  simp only [Option.bind_some]
  by_cases h1 : (c : Int) > a
  · rw [if_pos h1, if_pos h1]
  · rw [if_neg h1, if_neg h1]
    by_cases h2 : a > 0
    · rw [if_pos h2, if_pos h2, pw64 (n := a - 1) (by omega) (by omega), if_pos (by omega), if_pos (by omega)]
      by_cases h3 : d < rd downs (a - 1)
      · rw [if_pos h3, if_pos h3]
      · rw [if_neg h3, if_neg h3]
    · rw [if_neg h2, if_neg h2]
abbrev devOk (n : Int) : Bool := isDev n
theorem isDev_f (n : Int) : dam_isDeviation.f n = some (devOk n) := by
  unfold dam_isDeviation.f
  rw [dwithin_f]; rfl
theorem devErr_f (n : Int) : guidevaneref09_DeviationErr.f n = some (if devOk n = true then 0 else 2) := by
  unfold guidevaneref09_DeviationErr.f
  rw [bwithin_f]
  show (((some (isDev n)).bind fun t1 => if t1 = true then (some 0 : Option Int) else some 2) = some (if isDev n = true then 0 else 2))
  cases isDev n <;> rfl
theorem step_ex (ups downs : List Int) (h : OkRules ups downs) (d : Int) : ∃ c, IsStep ups d c := by
  obtain ⟨c, _, hc⟩ := dasked_f ups downs 0 [] d 100 h (by omega)
  exact ⟨c, hc⟩
theorem firstI_ne {a : Int} {l : List Int} (h : ¬ a = 0) : firstI (a :: l) = a := by simp [firstI, h]
theorem firstI_z {l : List Int} : firstI (0 :: l) = firstI l := by simp [firstI]
end Go.Proofs.Yteopooljohdoiaa.Px
namespace Go.Proofs.Yteopooljohdoiaa.Px
open Go.RowKit Go.Proofs.YteopooljohdoiaaW.PrintWords Go.Proofs.YteopooljohdoiaaW.PrintLast Go.Proofs.YteopooljohdoiaaW.PrintMore
attribute [local go_sem] max2_int min2_int max_two min_two max_three min_three max_four min_four
def dam_isValue.f (a0 : Int) : Option (Bool) := (dam_isSized.f a0 1000000).bind fun t267001 => (some t267001)
set_option maxHeartbeats 8000000 in
set_option maxRecDepth 100000 in
theorem dam_isValue.calls (a0 : Int) (r : Bool) (w : World) (h : dam_isValue.f a0 = some r) :
    Calls Try.prog 89 #[.int .i64 a0] w fun e w' => e = .returned (.bool r) ∧ Drawn0 w w' := by
  have H : ((dam_isSized.f a0 1000000).bind fun t267001 => (some t267001)) = some r := h
  clear h
  replace H := Option.bind_eq_some_iff.mp H
  obtain ⟨t267001, A20, H⟩ := H
  replace H : (some t267001) = some r := H
  have A2 := Aside0.mk A20
  clear A20
  obtain rfl := Option.some.inj H
  go_enter Try.func89, Try.ntmps89
  go_wp2_with (first | ((with_reducible refine gate_callee (f := 78) rfl ?_); refine goesL_ (some 4) rfl rfl Try.func78 (by kernel_rfl) rfl #[.int .i64 a0, .int .i64 1000000] rfl (by (try simp only [List.map_toArray, List.map_cons, List.map_nil]); first | done | rfl | (simp only [List.length_drop, List.length_take]; rfl)) ?_; (with_reducible refine (dam_isSized.calls a0 1000000 t267001 _ A2.out).mono ?_); rintro e w' ⟨rfl, ⟨nd, rfl⟩⟩; refine ⟨_, rfl, ?_⟩))
  go_ret
  exact ⟨by first | rfl | (simp; done) | (simp [*]; done), by repeat (first | exact Drawn0.refl _ | apply Drawn0.step)⟩
def dam_DeviationOf.j0 : Nat → Int → Bool → Int → Int → Option (Int × Int)
  | 0, _, _, _, _ => none
  | k + 1, x1, x6, x135002000, x135002001 => (dam_unless.f x6 2).bind fun t135005 => ((dam_unless.f (decide (x135002000 ≤ x135002001)) 9).bind fun t135006 => ((dam_first.f k (([t135005, t135006] : List Int))).bind fun t135010 => (if t135010 = 0 then (some (mx (mx 0 (wrap64 (x135002000 - x1))) (wrap64 (x1 - x135002001)), 0)) else (some (0, t135010)))))
def dam_DeviationOf.f (k : Nat) (a0_0 : Int) (a0_1 : Int) (a1 : Int) : Option (Int × Int) := (dam_isValue.f a0_0).bind fun t135002 => (if t135002 = true then ((dam_isValue.f a0_1).bind fun t135003 => (if t135003 = true then ((dam_isValue.f a1).bind fun t135004 => (dam_DeviationOf.j0 k a1 t135004 a0_0 a0_1)) else (dam_DeviationOf.j0 k a1 false a0_0 a0_1))) else (dam_DeviationOf.j0 k a1 false a0_0 a0_1))
theorem dam_DeviationOf.mono_l : ∀ k, (∀ y0 y1 y2 y3, LeO (dam_DeviationOf.j0 k y0 y1 y2 y3) (dam_DeviationOf.j0 (k + 1) y0 y1 y2 y3))
  | 0 => fun _ _ _ _ r h => by simp [dam_DeviationOf.j0] at h
  | k + 1 => by
    have ih0 := dam_DeviationOf.mono_l k
    · intro y0 y1 y2 y3
      unfold dam_DeviationOf.j0
      repeat' first
      | (with_reducible exact ih0 _ _ _ _)
      | (with_reducible exact dam_first.mono _ _)
      | (with_reducible exact LeO.refl _)
      | (with_reducible exact LeO.none _)
      | (with_reducible refine LeO.ite ?_ ?_)
      | (with_reducible refine LeO.bind ?_ (fun _ => ?_))
      | exact ih0 _ _ _ _
      | exact dam_first.mono _ _
      | exact LeO.none _
      | refine LeO.ite ?_ ?_
      | refine LeO.bind ?_ (fun _ => ?_)
theorem dam_DeviationOf.mono : ∀ a0 a1 a2 k, LeO (dam_DeviationOf.f k a0 a1 a2) (dam_DeviationOf.f (k + 1) a0 a1 a2) := by
  intro a0 a1 a2 k
  have ih0 := dam_DeviationOf.mono_l k
  unfold dam_DeviationOf.f
  repeat' first
      | (with_reducible exact ih0 _ _ _ _)
      | (with_reducible exact dam_first.mono _ _)
      | (with_reducible exact LeO.refl _)
      | (with_reducible exact LeO.none _)
      | (with_reducible refine LeO.ite ?_ ?_)
      | (with_reducible refine LeO.bind ?_ (fun _ => ?_))
      | exact ih0 _ _ _ _
      | exact dam_first.mono _ _
      | exact LeO.none _
      | refine LeO.ite ?_ ?_
      | refine LeO.bind ?_ (fun _ => ?_)
def dam_DeviationOf.T2 : Bool × List (List Nat × List Nat) := (true, [([], []), ([0], [0]), ([], []), ([2], [2]), ([], []), ([4], [4]), ([3, 5], [3, 5]), ([6, 1], [6]), ([1, 7], [1, 7]), ([8, 7], [8]), ([9, 9, 0, 1, 2, 3, 4, 5, 6, 7, 8, 9], [9])])
def dam_DeviationOf.B2 : List Nat := [0, 1, 0, 4, 0, 16, 60, 127, 255, 511, 1023]
theorem dam_DeviationOf.tab2 : rtab .any (opsOf Try.f45 2) = dam_DeviationOf.T2 := by kernel_rfl
theorem dam_DeviationOf.bits2 : waitsOk dam_DeviationOf.T2.2 dam_DeviationOf.B2 = true := by kernel_rfl
set_option maxHeartbeats 8000000 in
set_option maxRecDepth 100000 in
theorem dam_DeviationOf.calls (k : Nat) (a0_0 : Int) (a0_1 : Int) (a1 : Int) (r1 : Int) (r2 : Int) (w : World) (h : dam_DeviationOf.f k a0_0 a0_1 a1 = some (r1, r2)) :
    Calls Try.prog 45 #[.agg #[.int .i64 a0_0, .int .i64 a0_1], .int .i64 a1] w fun e w' => e = .returned (.tuple #[.int .i64 r1, .int .i64 r2]) ∧ Below w.heap.size w w' := by
  have hu78 := Try.underlying78
  have HB := Aside0.mk (Below.refl w.heap.size w)
  have H : ((dam_isValue.f a0_0).bind fun t135002 => (if t135002 = true then ((dam_isValue.f a0_1).bind fun t135003 => (if t135003 = true then ((dam_isValue.f a1).bind fun t135004 => (dam_DeviationOf.j0 k a1 t135004 a0_0 a0_1)) else (dam_DeviationOf.j0 k a1 false a0_0 a0_1))) else (dam_DeviationOf.j0 k a1 false a0_0 a0_1))) = some (r1, r2) := h
  clear h
  have HC3 := Aside0.mk H
  clear H
  go_enter Try.func45, Try.ntmps45
  go_upto_region 1 with (first | ((with_reducible refine gate_dst (N := 2) rfl ?_); refine box_event ?hg (N := 2) ?hd (cs := #[.int .i64 a0_0, .int .i64 a0_1]) (t := 78) ?hr ?_; (case hd => rfl); (case hg => rfl); (case hr => first | (go_simp; done) | (go_simp; rfl)); intro gb135001 hg w4 hbox hb; have n0_ := Aside0.mk (below_step (by repeat (first | (with_reducible first | exact HB.out | apply below_alloc | apply pw_below_drewN | apply below_drew1) | exact HB.out)) hb); have n1_ := Aside0.mk (hbox); have n2_ := Aside0.mk ((by rw [hg]; exact (below_size (by repeat (first | (with_reducible first | exact HB.out | apply below_alloc | apply pw_below_drewN | apply below_drew1) | exact HB.out))) : w.heap.size ≤ gb135001)); have n3_ := Aside0.mk ((by rw [hg]; exact (below_size (by repeat (first | (with_reducible first | exact HB.out | apply below_alloc | apply pw_below_drewN | apply below_drew1) | exact HB.out))) : w.heap.size ≤ gb135001)); clear HB; have HB := n0_; have BK135001 := n1_; have GW135001 := n2_; have GE135001 := n3_; clear n0_ n1_ n2_ n3_; clear hb hbox hg))
  (try simp only [Act.put, List.setIfInBounds_toArray, List.set_cons_zero, List.set_cons_succ])
  go_cut [6] (fun v6 wc => ∃ (kq : Nat) (x6_2 : Bool), v6 = .bool x6_2 ∧ Aside0 (dam_DeviationOf.j0 kq a1 x6_2 a0_0 a0_1 = some (r1, r2)) ∧ Aside0 (kq ≤ k) ∧ Aside0 (wc.heap[gb135001]? = some (.cells #[.int .i64 a0_0, .int .i64 a0_1] 78 (0, 0))) ∧ Aside0 (Below w.heap.size w wc))
  case first =>
    have H := HC3.out
    clear HC3
    replace H := Option.bind_eq_some_iff.mp H
    obtain ⟨t135002, A50, H⟩ := H
    replace H : (if t135002 = true then ((dam_isValue.f a0_1).bind fun t135003 => (if t135003 = true then ((dam_isValue.f a1).bind fun t135004 => (dam_DeviationOf.j0 k a1 t135004 a0_0 a0_1)) else (dam_DeviationOf.j0 k a1 false a0_0 a0_1))) else (dam_DeviationOf.j0 k a1 false a0_0 a0_1)) = some (r1, r2) := H
    have A5 := Aside0.mk A50
    clear A50
    by_cases c6 : t135002 = true
    · subst c6
      have H1 : ((dam_isValue.f a0_1).bind fun t135003 => (if t135003 = true then ((dam_isValue.f a1).bind fun t135004 => (dam_DeviationOf.j0 k a1 t135004 a0_0 a0_1)) else (dam_DeviationOf.j0 k a1 false a0_0 a0_1))) = some (r1, r2) := by rw [if_pos rfl] at H; exact H
      clear H
      have H := H1
      clear H1
      replace H := Option.bind_eq_some_iff.mp H
      obtain ⟨t135003, A70, H⟩ := H
      replace H : (if t135003 = true then ((dam_isValue.f a1).bind fun t135004 => (dam_DeviationOf.j0 k a1 t135004 a0_0 a0_1)) else (dam_DeviationOf.j0 k a1 false a0_0 a0_1)) = some (r1, r2) := H
      have A7 := Aside0.mk A70
      clear A70
      by_cases c8 : t135003 = true
      · subst c8
        have H1 : ((dam_isValue.f a1).bind fun t135004 => (dam_DeviationOf.j0 k a1 t135004 a0_0 a0_1)) = some (r1, r2) := by rw [if_pos rfl] at H; exact H
        clear H
        have H := H1
        clear H1
        replace H := Option.bind_eq_some_iff.mp H
        obtain ⟨t135004, A90, H⟩ := H
        replace H : (dam_DeviationOf.j0 k a1 t135004 a0_0 a0_1) = some (r1, r2) := H
        have A9 := Aside0.mk A90
        clear A90
        have H' := Aside0.mk H
        clear H
        have hcz10_0 : w4.cell? ⟨gb135001, 0, none⟩ = some (.int .i64 a0_0) := (blk_cell BK135001.out 0).trans rfl
        have hcz10_1 : w4.cell? ⟨gb135001, 1, none⟩ = some (.int .i64 a0_1) := (blk_cell BK135001.out 1).trans rfl
        have hfz10_0 := blk_frozen BK135001.out 0
        have hfz10_1 := blk_frozen BK135001.out 1
        go_wp2_with (first | ((with_reducible refine gate_callee (f := 89) rfl ?_); refine goesL_ (some 10) rfl rfl Try.func89 (by kernel_rfl) rfl #[.int .i64 a0_0] rfl (by (try simp only [List.map_toArray, List.map_cons, List.map_nil]); first | done | rfl | (simp only [List.length_drop, List.length_take]; rfl)) ?_; (with_reducible refine (dam_isValue.calls a0_0 true _ A5.out).mono ?_); rintro e w' ⟨rfl, ⟨nd, rfl⟩⟩; refine ⟨_, rfl, ?_⟩) | (go_at_call 89; (with_reducible refine (dam_isValue.calls a0_1 true _ A7.out).mono ?_); rintro e w' ⟨rfl, ⟨nd, rfl⟩⟩) | (go_at_call 89; (with_reducible refine (dam_isValue.calls a1 t135004 _ A9.out).mono ?_); rintro e w' ⟨rfl, ⟨nd, rfl⟩⟩))
        go_meet
        case rel => exact ⟨_, (t135004), (by first | rfl | (simp; done) | (simp [*]; done)), H', ⟨by first | omega | exact Nat.le_refl _⟩, ⟨by (with_reducible repeat (first | refine blk_drewN ?_ _ | refine blk_drew ?_ | refine blk_alloc ?_ _)); exact BK135001.out⟩, ⟨by repeat (first | (with_reducible first | exact HB.out | apply below_alloc | apply pw_below_drewN | apply below_drew1 | refine below_set ?_ GE135001.out) | exact HB.out)⟩⟩
      · replace c8 := Bool.eq_false_iff.mpr c8
        subst c8
        have H1 : (dam_DeviationOf.j0 k a1 false a0_0 a0_1) = some (r1, r2) := by rw [if_neg (show ¬ (false = true) by decide)] at H; exact H
        clear H
        have H := H1
        clear H1
        have H' := Aside0.mk H
        clear H
        have hcz11_0 : w4.cell? ⟨gb135001, 0, none⟩ = some (.int .i64 a0_0) := (blk_cell BK135001.out 0).trans rfl
        have hcz11_1 : w4.cell? ⟨gb135001, 1, none⟩ = some (.int .i64 a0_1) := (blk_cell BK135001.out 1).trans rfl
        have hfz11_0 := blk_frozen BK135001.out 0
        have hfz11_1 := blk_frozen BK135001.out 1
        go_wp2_with (first | ((with_reducible refine gate_callee (f := 89) rfl ?_); refine goesL_ (some 10) rfl rfl Try.func89 (by kernel_rfl) rfl #[.int .i64 a0_0] rfl (by (try simp only [List.map_toArray, List.map_cons, List.map_nil]); first | done | rfl | (simp only [List.length_drop, List.length_take]; rfl)) ?_; (with_reducible refine (dam_isValue.calls a0_0 true _ A5.out).mono ?_); rintro e w' ⟨rfl, ⟨nd, rfl⟩⟩; refine ⟨_, rfl, ?_⟩) | (go_at_call 89; (with_reducible refine (dam_isValue.calls a0_1 false _ A7.out).mono ?_); rintro e w' ⟨rfl, ⟨nd, rfl⟩⟩))
        go_meet
        case rel => exact ⟨_, (false), (by first | rfl | (simp; done) | (simp [*]; done)), H', ⟨by first | omega | exact Nat.le_refl _⟩, ⟨by (with_reducible repeat (first | refine blk_drewN ?_ _ | refine blk_drew ?_ | refine blk_alloc ?_ _)); exact BK135001.out⟩, ⟨by repeat (first | (with_reducible first | exact HB.out | apply below_alloc | apply pw_below_drewN | apply below_drew1 | refine below_set ?_ GE135001.out) | exact HB.out)⟩⟩
    · replace c6 := Bool.eq_false_iff.mpr c6
      subst c6
      have H1 : (dam_DeviationOf.j0 k a1 false a0_0 a0_1) = some (r1, r2) := by rw [if_neg (show ¬ (false = true) by decide)] at H; exact H
      clear H
      have H := H1
      clear H1
      have H' := Aside0.mk H
      clear H
      have hcz12_0 : w4.cell? ⟨gb135001, 0, none⟩ = some (.int .i64 a0_0) := (blk_cell BK135001.out 0).trans rfl
      have hcz12_1 : w4.cell? ⟨gb135001, 1, none⟩ = some (.int .i64 a0_1) := (blk_cell BK135001.out 1).trans rfl
      have hfz12_0 := blk_frozen BK135001.out 0
      have hfz12_1 := blk_frozen BK135001.out 1
      go_wp2_with (first | ((with_reducible refine gate_callee (f := 89) rfl ?_); refine goesL_ (some 10) rfl rfl Try.func89 (by kernel_rfl) rfl #[.int .i64 a0_0] rfl (by (try simp only [List.map_toArray, List.map_cons, List.map_nil]); first | done | rfl | (simp only [List.length_drop, List.length_take]; rfl)) ?_; (with_reducible refine (dam_isValue.calls a0_0 false _ A5.out).mono ?_); rintro e w' ⟨rfl, ⟨nd, rfl⟩⟩; refine ⟨_, rfl, ?_⟩))
      go_meet
      case rel => exact ⟨_, (false), (by first | rfl | (simp; done) | (simp [*]; done)), H', ⟨by first | omega | exact Nat.le_refl _⟩, ⟨by (with_reducible repeat (first | refine blk_drewN ?_ _ | refine blk_drew ?_ | refine blk_alloc ?_ _)); exact BK135001.out⟩, ⟨by repeat (first | (with_reducible first | exact HB.out | apply below_alloc | apply pw_below_drewN | apply below_drew1 | refine below_set ?_ GE135001.out) | exact HB.out)⟩⟩
  case rest =>
    clear HC3
    try clear p2
    try clear c4
    try clear c6
    try clear c8
    try clear hcz10_0
    try clear hcz10_1
    try clear hcz11_0
    try clear hcz11_1
    try clear hcz12_0
    try clear hcz12_1
    try clear hfz10_0
    try clear hfz10_1
    try clear hfz11_0
    try clear hfz11_1
    try clear hfz12_0
    try clear hfz12_1
    obtain ⟨kq, x6_2, rfl, HA, HJ2, BK135001, HB⟩ := hcut
    cases kq with
    | zero => exact absurd HA.out (by simp [dam_DeviationOf.j0])
    | succ kj2 =>
      have H := HA.out
      clear HA
      simp only [dam_DeviationOf.j0] at H
      replace H := Option.bind_eq_some_iff.mp H
      obtain ⟨t135005, A130, H⟩ := H
      replace H : ((dam_unless.f (decide (a0_0 ≤ a0_1)) 9).bind fun t135006 => ((dam_first.f kj2 (([t135005, t135006] : List Int))).bind fun t135010 => (if t135010 = 0 then (some (mx (mx 0 (wrap64 (a0_0 - a1))) (wrap64 (a1 - a0_1)), 0)) else (some (0, t135010))))) = some (r1, r2) := H
      have A13 := Aside0.mk A130
      clear A130
      replace H := Option.bind_eq_some_iff.mp H
      obtain ⟨t135006, A140, H⟩ := H
      replace H : ((dam_first.f kj2 (([t135005, t135006] : List Int))).bind fun t135010 => (if t135010 = 0 then (some (mx (mx 0 (wrap64 (a0_0 - a1))) (wrap64 (a1 - a0_1)), 0)) else (some (0, t135010)))) = some (r1, r2) := H
      have A14 := Aside0.mk A140
      clear A140
      obtain ⟨y135007, hy135007⟩ : ∃ y_ : List Int, y_ = (([t135005, t135006] : List Int)) := ⟨_, rfl⟩
      replace H : ((dam_first.f kj2 y135007).bind fun t135010 => (if t135010 = 0 then (some (mx (mx 0 (wrap64 (a0_0 - a1))) (wrap64 (a1 - a0_1)), 0)) else (some (0, t135010)))) = some (r1, r2) := by first | (rw [hy135007]; with_reducible exact H) | (have H2_ := (Option.bind_some _ _).symm.trans H; rw [hy135007]; with_reducible exact H2_) | (have H2_ := (Option.bind_some _ _).symm.trans H; with_reducible exact H2_) | with_reducible exact H | (rw [hy135007]; exact H) | exact H
      have Ny135007 := Aside0.mk hy135007
      clear hy135007
      replace H := Option.bind_eq_some_iff.mp H
      obtain ⟨t135010, A150, H⟩ := H
      replace H : (if t135010 = 0 then (some (mx (mx 0 (wrap64 (a0_0 - a1))) (wrap64 (a1 - a0_1)), 0)) else (some (0, t135010))) = some (r1, r2) := H
      have A15 := Aside0.mk A150
      clear A150
      by_cases c16 : t135010 = 0
      · rw [if_pos c16] at H
        have c16b0 : (t135010 == 0) = true := beq_iff_eq.mpr c16
        have c16b1 : (t135010 != 0) = false := bne_eq_false_iff_eq.mpr c16
        clear c16
        obtain ⟨ji17, hji17⟩ : ∃ j_ : Int, (mx 0 (wrap64 (a0_0 - a1))) = j_ := ⟨_, rfl⟩
        replace H : (some (mx (ji17) (wrap64 (a1 - a0_1)), 0)) = some (r1, r2) := by first | (rw [hji17] at H; exact H) | (simp only [hji17] at H ⊢; exact H)
        (try rw [hji17] at A13)
        (try rw [hji17] at A14)
        (try rw [hji17] at A15)
        have hji17_ : (if 0 < (wrap64 (a0_0 - a1)) then (wrap64 (a0_0 - a1)) else 0) = ji17 := hji17
        obtain ⟨ji18, hji18⟩ : ∃ j_ : Int, (mx (ji17) (wrap64 (a1 - a0_1))) = j_ := ⟨_, rfl⟩
        replace H : (some (ji18, 0)) = some (r1, r2) := by first | (rw [hji18] at H; exact H) | (simp only [hji18] at H ⊢; exact H)
        (try rw [hji18] at A13)
        (try rw [hji18] at A14)
        (try rw [hji18] at A15)
        have hji18_ : (if (ji17) < (wrap64 (a1 - a0_1)) then (wrap64 (a1 - a0_1)) else (ji17)) = ji18 := hji18
        simp only [Option.some.injEq, Prod.mk.injEq] at H
        obtain ⟨rfl, rfl⟩ := H
        try go_wp2
        have n0_ := Aside0.mk (blk_drew BK135001.out)
        have n1_ := Aside0.mk (below_drew1 HB.out)
        clear BK135001
        clear HB
        have BK135001 := n0_
        have HB := n1_
        clear n0_ n1_
        refine start_ (n := 11) (S := fun w' => w'.cell? ⟨gb135001, 0, none⟩ = some (.int .i64 a0_0) ∧ w'.cell? ⟨gb135001, 1, none⟩ = some (.int .i64 a0_1)) (ds := []) #[false, false, false, false, false, false, false, false, false, false, false] (by kernel_rfl) rfl rfl ⟨(blk_cell BK135001.out 0).trans rfl, (blk_cell BK135001.out 1).trans rfl⟩ (fun hHeld => ?_); refine with_tabW dam_DeviationOf.tab2 dam_DeviationOf.bits2 (fun HT_ HW_ => ?_)
        generalize wc.drew = w19 at BK135001 HB hHeld ⊢
        refine pure_ (i := 0) (N := some 20) (v := ?_) (a' := ?_) #[true, false, false, false, false, false, false, false, false, false, false] rfl rfl (any_of HT_.out (by kernel_rfl)) (fun _ _ _ h => h) (Or.inl ⟨by rfl, ?_⟩) ?_ ?_
        rotate_left
        · intro w'
          go_simp
          with_reducible rfl
        rotate_left
        · simp only [Act.put, List.setIfInBounds_toArray, List.set_cons_zero, List.set_cons_succ, i64_w, i32_w]
          rfl
        refine pure_ (i := 2) (N := some 22) (v := ?_) (a' := ?_) #[true, false, true, false, false, false, false, false, false, false, false] rfl rfl (any_of HT_.out (by kernel_rfl)) (fun _ _ _ h => h) (Or.inl ⟨by rfl, ?_⟩) ?_ ?_
        rotate_left
        · intro w'
          go_simp
          with_reducible rfl
        rotate_left
        · simp only [Act.put, List.setIfInBounds_toArray, List.set_cons_zero, List.set_cons_succ, i64_w, i32_w]
          rfl
        refine pure_ (i := 4) (N := some 24) (v := ?_) (a' := ?_) #[true, false, true, false, true, false, false, false, false, false, false] rfl rfl (any_of HT_.out (by kernel_rfl)) (fun _ _ _ h => h) (Or.inl ⟨by rfl, ?_⟩) ?_ ?_
        rotate_left
        · intro w'
          go_simp
          with_reducible rfl
        rotate_left
        · simp only [Act.put, List.setIfInBounds_toArray, List.set_cons_zero, List.set_cons_succ, i64_w, i32_w]
          rfl
        refine take_ (i := 3) (N := some 23) (v := ?_) (a' := ?_) #[true, false, true, true, true, false, false, false, false, false, false] rfl rfl (take_ofW HT_.out HW_.out (by kernel_rfl)) (fun _ _ _ h => h) (Or.inl ⟨by rfl, ?_⟩) hHeld ?_ ?_
        rotate_left
        · rintro w' ⟨s0, s1⟩
          go_simp
          with_reducible rfl
        rotate_left
        · simp only [Act.put, List.setIfInBounds_toArray, List.set_cons_zero, List.set_cons_succ, i64_w, i32_w]
          rfl
        refine take_ (i := 5) (N := some 25) (v := ?_) (a' := ?_) #[true, false, true, true, true, true, false, false, false, false, false] rfl rfl (take_ofW HT_.out HW_.out (by kernel_rfl)) (fun _ _ _ h => h) (Or.inl ⟨by rfl, ?_⟩) hHeld ?_ ?_
        rotate_left
        · rintro w' ⟨s0, s1⟩
          go_simp
          with_reducible rfl
        rotate_left
        · simp only [Act.put, List.setIfInBounds_toArray, List.set_cons_zero, List.set_cons_succ, i64_w, i32_w]
          rfl
        refine pure_ (i := 6) (N := some 26) (v := ?_) (a' := ?_) #[true, false, true, true, true, true, true, false, false, false, false] rfl rfl (any_of HT_.out (by kernel_rfl)) (fun _ _ _ h => h) (Or.inl ⟨by rfl, ?_⟩) ?_ ?_
        rotate_left
        · intro w'
          go_simp
          with_reducible rfl
        rotate_left
        · simp only [Act.put, List.setIfInBounds_toArray, List.set_cons_zero, List.set_cons_succ, i64_w, i32_w]
          rfl
        refine one_ (i := 1) (N := some 21) #[true, true, true, true, true, true, true, false, false, false, false] rfl rfl (one_of HT_.out (by kernel_rfl)) (by decide) (fun K hK => ?_)
        refine goes_ Try.func64 (by kernel_rfl) rfl #[.bool x6_2, .int .i64 2] (by rfl) rfl rfl (by (try simp only [List.map_toArray, List.map_cons, List.map_nil]); first | done | rfl | (simp only [List.length_drop, List.length_take]; rfl)) ?_
        with_reducible refine (dam_unless.calls x6_2 2 t135005 _ A13.out).mono ?_
        rintro e w' ⟨rfl, ⟨nd, rfl⟩⟩
        refine ⟨_, rfl, ?_⟩
        refine hK.out _ _ ⟨(blk_cell BK135001.out 0).trans rfl, (blk_cell BK135001.out 1).trans rfl⟩ (fun hHeld => ?_)
        clear hK K
        refine norm_ (a' := ?_) ?_ ?_
        rotate_left
        · show Act.put _ (some 21) _ = _
          simp only [Act.put, List.setIfInBounds_toArray, List.set_cons_zero, List.set_cons_succ, i64_w, i32_w]
          rfl
        refine one_ (i := 7) (N := some 27) #[true, true, true, true, true, true, true, true, false, false, false] rfl rfl (one_of HT_.out (by kernel_rfl)) (by decide) (fun K hK => ?_)
        refine goes_ Try.func64 (by kernel_rfl) rfl #[.bool (decide (a0_0 ≤ a0_1)), .int .i64 9] (by rfl) rfl rfl (by (try simp only [List.map_toArray, List.map_cons, List.map_nil]); first | done | rfl | (simp only [List.length_drop, List.length_take]; rfl)) ?_
        with_reducible refine (dam_unless.calls (decide (a0_0 ≤ a0_1)) 9 t135006 _ A14.out).mono ?_
        rintro e w' ⟨rfl, ⟨nd, rfl⟩⟩
        refine ⟨_, rfl, ?_⟩
        refine hK.out _ _ ⟨(blk_cell BK135001.out 0).trans rfl, (blk_cell BK135001.out 1).trans rfl⟩ (fun hHeld => ?_)
        clear hK K
        refine norm_ (a' := ?_) ?_ ?_
        rotate_left
        · show Act.put _ (some 27) _ = _
          simp only [Act.put, List.setIfInBounds_toArray, List.set_cons_zero, List.set_cons_succ, i64_w, i32_w]
          rfl
        refine one_ (i := 8) (N := some 28) #[true, true, true, true, true, true, true, true, true, false, false] rfl rfl (one_of HT_.out (by kernel_rfl)) (by decide) (fun K hK => ?_)
        refine Kd.R_lit_step (Kd.int .i64) _ 26 ?hg (N := 28) ?hd (xs := ([t135005, t135006] : List Int)) (inner := [.int .i64 t135005, .int .i64 t135006]) (ok := fun _ => True) (okp := fun _ => True) ?hr ?hp (fun _ hk => hk) trivial (Below.refl _ _) (Nat.le_refl _) (by simp) ?_; (case hd => rfl); (case hg => rfl); (case hr => first | (go_simp; done) | (go_simp; rfl)); (case hp => exact (Reps.one (show Kd.M (Kd.int .i64) _ _ _ t135005 [.int .i64 t135005] from rfl) (Reps.one (show Kd.M (Kd.int .i64) _ _ _ t135006 [.int .i64 t135006] from rfl) (Reps.none _ _))))
        intro v135008 w20 ho21 hb hg_ hnew_
        clear hg_ hnew_
        (first | rw [← Ny135007.out] at ho21 | (simp only [Int.reduceToNat] at ho21; rw [← Ny135007.out] at ho21))
        have n0_ := Aside0.mk (Kd.R_lower ho21 (below_size (by repeat (first | (with_reducible first | exact HB.out | apply below_alloc | apply pw_below_drewN | apply below_drew1 | refine below_set ?_ GE135001.out) | exact HB.out))))
        have n1_ := Aside0.mk (blk_below (g := gb135001) (o := .cells #[.int .i64 a0_0, .int .i64 a0_1] 78 (0, 0)) (by (with_reducible repeat (first | refine blk_drewN ?_ _ | refine blk_drew ?_ | refine blk_alloc ?_ _)); exact BK135001.out) hb)
        have n2_ := Aside0.mk (below_step (by repeat (first | (with_reducible first | exact HB.out | apply below_alloc | apply pw_below_drewN | apply below_drew1 | refine below_set ?_ GE135001.out) | exact HB.out)) hb)
        clear BK135001
        clear HB
        have HO135009 := n0_
        have BK135001 := n1_
        have HB := n2_
        clear n0_ n1_ n2_
        clear hb ho21
        obtain ⟨Ao22, co22, eo22⟩ := Kd.R_slice HO135009.out
        (first | subst eo22 | (injection eo22 with f1_ f2_ f3_; have f4_ := f1_.symm; have f5_ := f3_.symm; clear f1_ f2_ f3_; subst f4_; subst f5_))
        refine hK.out _ _ ⟨(blk_cell BK135001.out 0).trans rfl, (blk_cell BK135001.out 1).trans rfl⟩ (fun hHeld => ?_)
        clear hK K
        refine norm_ (a' := ?_) ?_ ?_
        rotate_left
        · show Act.put _ (some 28) _ = _
          simp only [Act.put, List.setIfInBounds_toArray, List.set_cons_zero, List.set_cons_succ, i64_w, i32_w]
          rfl
        refine one_ (i := 9) (N := some 29) #[true, true, true, true, true, true, true, true, true, true, false] rfl rfl (one_of HT_.out (by kernel_rfl)) (by decide) (fun K hK => ?_)
        refine goes_ Try.func63 (by kernel_rfl) rfl #[.slice Ao22 y135007.length co22] (by rfl) rfl rfl (by (try simp only [List.map_toArray, List.map_cons, List.map_nil]); first | done | rfl | (simp only [List.length_drop, List.length_take]; rfl)) ?_
        with_reducible refine (dam_first.calls kj2 _ _ y135007 t135010 _ ?side1 ?side2 A15.out).mono ?_
        (case side1 => repeat (first | exact (Kd.R_reads' HO135009.out).2.2 | (with_reducible refine Kd.C_alloc ?_ _) | (with_reducible refine Kd.C_drewN ?_ _) | (with_reducible refine Kd.C_drew ?_)))
        (case side2 => exact (Kd.R_reads' HO135009.out).2.1)
        rintro e w' ⟨rfl, ⟨nd, rfl⟩⟩
        refine ⟨_, rfl, ?_⟩
        refine hK.out _ _ ⟨(blk_cell BK135001.out 0).trans rfl, (blk_cell BK135001.out 1).trans rfl⟩ (fun hHeld => ?_)
        clear hK K
        refine norm_ (a' := ?_) ?_ ?_
        rotate_left
        · show Act.put _ (some 29) _ = _
          simp only [Act.put, List.setIfInBounds_toArray, List.set_cons_zero, List.set_cons_succ, i64_w, i32_w]
          rfl
        refine pure_ (i := 10) (N := some 7) (v := ?_) (a' := ?_) #[true, true, true, true, true, true, true, true, true, true, true] rfl rfl (any_of HT_.out (by kernel_rfl)) (fun _ _ _ h => h) (Or.inl ⟨by rfl, ?_⟩) ?_ ?_
        rotate_left
        · intro w'
          go_simp
          with_reducible rfl
        rotate_left
        · simp only [Act.put, List.setIfInBounds_toArray, List.set_cons_zero, List.set_cons_succ, i64_w, i32_w]
          rfl
        refine done_ (done_of HT_.out (by kernel_rfl)) ?_
        have hcz23_0 : w20.cell? ⟨gb135001, 0, none⟩ = some (.int .i64 a0_0) := (blk_cell BK135001.out 0).trans rfl
        have hcz23_1 : w20.cell? ⟨gb135001, 1, none⟩ = some (.int .i64 a0_1) := (blk_cell BK135001.out 1).trans rfl
        have hfz23_0 := blk_frozen BK135001.out 0
        have hfz23_1 := blk_frozen BK135001.out 1
        try go_wp2
        go_ret2
        exact ⟨by first | rfl | (simp [errW_none, errW_some] <;> rfl) | (simp only [← hji17, ← hji18]; first | rfl | (simp [errW_none, errW_some] <;> rfl)) | (simp [*, errW_none, errW_some] <;> rfl), by repeat (first | (with_reducible first | exact HB.out | apply below_alloc | apply pw_below_drewN | apply below_drew1 | refine below_set ?_ GE135001.out) | exact HB.out)⟩
      · rw [if_neg c16] at H
        have c16b0 : (t135010 == 0) = false := beq_eq_false_iff_ne.mpr c16
        have c16b1 : (t135010 != 0) = true := bne_iff_ne.mpr c16
        simp only [Option.some.injEq, Prod.mk.injEq] at H
        obtain ⟨rfl, rfl⟩ := H
        try go_wp2
        have n0_ := Aside0.mk (blk_drew BK135001.out)
        have n1_ := Aside0.mk (below_drew1 HB.out)
        clear BK135001
        clear HB
        have BK135001 := n0_
        have HB := n1_
        clear n0_ n1_
        refine start_ (n := 11) (S := fun w' => w'.cell? ⟨gb135001, 0, none⟩ = some (.int .i64 a0_0) ∧ w'.cell? ⟨gb135001, 1, none⟩ = some (.int .i64 a0_1)) (ds := []) #[false, false, false, false, false, false, false, false, false, false, false] (by kernel_rfl) rfl rfl ⟨(blk_cell BK135001.out 0).trans rfl, (blk_cell BK135001.out 1).trans rfl⟩ (fun hHeld => ?_); refine with_tabW dam_DeviationOf.tab2 dam_DeviationOf.bits2 (fun HT_ HW_ => ?_)
        generalize wc.drew = w24 at BK135001 HB hHeld ⊢
        refine pure_ (i := 0) (N := some 20) (v := ?_) (a' := ?_) #[true, false, false, false, false, false, false, false, false, false, false] rfl rfl (any_of HT_.out (by kernel_rfl)) (fun _ _ _ h => h) (Or.inl ⟨by rfl, ?_⟩) ?_ ?_
        rotate_left
        · intro w'
          go_simp
          with_reducible rfl
        rotate_left
        · simp only [Act.put, List.setIfInBounds_toArray, List.set_cons_zero, List.set_cons_succ, i64_w, i32_w]
          rfl
        refine pure_ (i := 2) (N := some 22) (v := ?_) (a' := ?_) #[true, false, true, false, false, false, false, false, false, false, false] rfl rfl (any_of HT_.out (by kernel_rfl)) (fun _ _ _ h => h) (Or.inl ⟨by rfl, ?_⟩) ?_ ?_
        rotate_left
        · intro w'
          go_simp
          with_reducible rfl
        rotate_left
        · simp only [Act.put, List.setIfInBounds_toArray, List.set_cons_zero, List.set_cons_succ, i64_w, i32_w]
          rfl
        refine pure_ (i := 4) (N := some 24) (v := ?_) (a' := ?_) #[true, false, true, false, true, false, false, false, false, false, false] rfl rfl (any_of HT_.out (by kernel_rfl)) (fun _ _ _ h => h) (Or.inl ⟨by rfl, ?_⟩) ?_ ?_
        rotate_left
        · intro w'
          go_simp
          with_reducible rfl
        rotate_left
        · simp only [Act.put, List.setIfInBounds_toArray, List.set_cons_zero, List.set_cons_succ, i64_w, i32_w]
          rfl
        refine take_ (i := 3) (N := some 23) (v := ?_) (a' := ?_) #[true, false, true, true, true, false, false, false, false, false, false] rfl rfl (take_ofW HT_.out HW_.out (by kernel_rfl)) (fun _ _ _ h => h) (Or.inl ⟨by rfl, ?_⟩) hHeld ?_ ?_
        rotate_left
        · rintro w' ⟨s0, s1⟩
          go_simp
          with_reducible rfl
        rotate_left
        · simp only [Act.put, List.setIfInBounds_toArray, List.set_cons_zero, List.set_cons_succ, i64_w, i32_w]
          rfl
        refine take_ (i := 5) (N := some 25) (v := ?_) (a' := ?_) #[true, false, true, true, true, true, false, false, false, false, false] rfl rfl (take_ofW HT_.out HW_.out (by kernel_rfl)) (fun _ _ _ h => h) (Or.inl ⟨by rfl, ?_⟩) hHeld ?_ ?_
        rotate_left
        · rintro w' ⟨s0, s1⟩
          go_simp
          with_reducible rfl
        rotate_left
        · simp only [Act.put, List.setIfInBounds_toArray, List.set_cons_zero, List.set_cons_succ, i64_w, i32_w]
          rfl
        refine pure_ (i := 6) (N := some 26) (v := ?_) (a' := ?_) #[true, false, true, true, true, true, true, false, false, false, false] rfl rfl (any_of HT_.out (by kernel_rfl)) (fun _ _ _ h => h) (Or.inl ⟨by rfl, ?_⟩) ?_ ?_
        rotate_left
        · intro w'
          go_simp
          with_reducible rfl
        rotate_left
        · simp only [Act.put, List.setIfInBounds_toArray, List.set_cons_zero, List.set_cons_succ, i64_w, i32_w]
          rfl
        refine one_ (i := 1) (N := some 21) #[true, true, true, true, true, true, true, false, false, false, false] rfl rfl (one_of HT_.out (by kernel_rfl)) (by decide) (fun K hK => ?_)
        refine goes_ Try.func64 (by kernel_rfl) rfl #[.bool x6_2, .int .i64 2] (by rfl) rfl rfl (by (try simp only [List.map_toArray, List.map_cons, List.map_nil]); first | done | rfl | (simp only [List.length_drop, List.length_take]; rfl)) ?_
        with_reducible refine (dam_unless.calls x6_2 2 t135005 _ A13.out).mono ?_
        rintro e w' ⟨rfl, ⟨nd, rfl⟩⟩
        refine ⟨_, rfl, ?_⟩
        refine hK.out _ _ ⟨(blk_cell BK135001.out 0).trans rfl, (blk_cell BK135001.out 1).trans rfl⟩ (fun hHeld => ?_)
        clear hK K
        refine norm_ (a' := ?_) ?_ ?_
        rotate_left
        · show Act.put _ (some 21) _ = _
          simp only [Act.put, List.setIfInBounds_toArray, List.set_cons_zero, List.set_cons_succ, i64_w, i32_w]
          rfl
        refine one_ (i := 7) (N := some 27) #[true, true, true, true, true, true, true, true, false, false, false] rfl rfl (one_of HT_.out (by kernel_rfl)) (by decide) (fun K hK => ?_)
        refine goes_ Try.func64 (by kernel_rfl) rfl #[.bool (decide (a0_0 ≤ a0_1)), .int .i64 9] (by rfl) rfl rfl (by (try simp only [List.map_toArray, List.map_cons, List.map_nil]); first | done | rfl | (simp only [List.length_drop, List.length_take]; rfl)) ?_
        with_reducible refine (dam_unless.calls (decide (a0_0 ≤ a0_1)) 9 t135006 _ A14.out).mono ?_
        rintro e w' ⟨rfl, ⟨nd, rfl⟩⟩
        refine ⟨_, rfl, ?_⟩
        refine hK.out _ _ ⟨(blk_cell BK135001.out 0).trans rfl, (blk_cell BK135001.out 1).trans rfl⟩ (fun hHeld => ?_)
        clear hK K
        refine norm_ (a' := ?_) ?_ ?_
        rotate_left
        · show Act.put _ (some 27) _ = _
          simp only [Act.put, List.setIfInBounds_toArray, List.set_cons_zero, List.set_cons_succ, i64_w, i32_w]
          rfl
        refine one_ (i := 8) (N := some 28) #[true, true, true, true, true, true, true, true, true, false, false] rfl rfl (one_of HT_.out (by kernel_rfl)) (by decide) (fun K hK => ?_)
        refine Kd.R_lit_step (Kd.int .i64) _ 26 ?hg (N := 28) ?hd (xs := ([t135005, t135006] : List Int)) (inner := [.int .i64 t135005, .int .i64 t135006]) (ok := fun _ => True) (okp := fun _ => True) ?hr ?hp (fun _ hk => hk) trivial (Below.refl _ _) (Nat.le_refl _) (by simp) ?_; (case hd => rfl); (case hg => rfl); (case hr => first | (go_simp; done) | (go_simp; rfl)); (case hp => exact (Reps.one (show Kd.M (Kd.int .i64) _ _ _ t135005 [.int .i64 t135005] from rfl) (Reps.one (show Kd.M (Kd.int .i64) _ _ _ t135006 [.int .i64 t135006] from rfl) (Reps.none _ _))))
        intro v135008 w25 ho26 hb hg_ hnew_
        clear hg_ hnew_
        (first | rw [← Ny135007.out] at ho26 | (simp only [Int.reduceToNat] at ho26; rw [← Ny135007.out] at ho26))
        have n0_ := Aside0.mk (Kd.R_lower ho26 (below_size (by repeat (first | (with_reducible first | exact HB.out | apply below_alloc | apply pw_below_drewN | apply below_drew1 | refine below_set ?_ GE135001.out) | exact HB.out))))
        have n1_ := Aside0.mk (blk_below (g := gb135001) (o := .cells #[.int .i64 a0_0, .int .i64 a0_1] 78 (0, 0)) (by (with_reducible repeat (first | refine blk_drewN ?_ _ | refine blk_drew ?_ | refine blk_alloc ?_ _)); exact BK135001.out) hb)
        have n2_ := Aside0.mk (below_step (by repeat (first | (with_reducible first | exact HB.out | apply below_alloc | apply pw_below_drewN | apply below_drew1 | refine below_set ?_ GE135001.out) | exact HB.out)) hb)
        clear BK135001
        clear HB
        have HO135009 := n0_
        have BK135001 := n1_
        have HB := n2_
        clear n0_ n1_ n2_
        clear hb ho26
        obtain ⟨Ao27, co27, eo27⟩ := Kd.R_slice HO135009.out
        (first | subst eo27 | (injection eo27 with f1_ f2_ f3_; have f4_ := f1_.symm; have f5_ := f3_.symm; clear f1_ f2_ f3_; subst f4_; subst f5_))
        refine hK.out _ _ ⟨(blk_cell BK135001.out 0).trans rfl, (blk_cell BK135001.out 1).trans rfl⟩ (fun hHeld => ?_)
        clear hK K
        refine norm_ (a' := ?_) ?_ ?_
        rotate_left
        · show Act.put _ (some 28) _ = _
          simp only [Act.put, List.setIfInBounds_toArray, List.set_cons_zero, List.set_cons_succ, i64_w, i32_w]
          rfl
        refine one_ (i := 9) (N := some 29) #[true, true, true, true, true, true, true, true, true, true, false] rfl rfl (one_of HT_.out (by kernel_rfl)) (by decide) (fun K hK => ?_)
        refine goes_ Try.func63 (by kernel_rfl) rfl #[.slice Ao27 y135007.length co27] (by rfl) rfl rfl (by (try simp only [List.map_toArray, List.map_cons, List.map_nil]); first | done | rfl | (simp only [List.length_drop, List.length_take]; rfl)) ?_
        with_reducible refine (dam_first.calls kj2 _ _ y135007 t135010 _ ?side1 ?side2 A15.out).mono ?_
        (case side1 => repeat (first | exact (Kd.R_reads' HO135009.out).2.2 | (with_reducible refine Kd.C_alloc ?_ _) | (with_reducible refine Kd.C_drewN ?_ _) | (with_reducible refine Kd.C_drew ?_)))
        (case side2 => exact (Kd.R_reads' HO135009.out).2.1)
        rintro e w' ⟨rfl, ⟨nd, rfl⟩⟩
        refine ⟨_, rfl, ?_⟩
        refine hK.out _ _ ⟨(blk_cell BK135001.out 0).trans rfl, (blk_cell BK135001.out 1).trans rfl⟩ (fun hHeld => ?_)
        clear hK K
        refine norm_ (a' := ?_) ?_ ?_
        rotate_left
        · show Act.put _ (some 29) _ = _
          simp only [Act.put, List.setIfInBounds_toArray, List.set_cons_zero, List.set_cons_succ, i64_w, i32_w]
          rfl
        refine pure_ (i := 10) (N := some 7) (v := ?_) (a' := ?_) #[true, true, true, true, true, true, true, true, true, true, true] rfl rfl (any_of HT_.out (by kernel_rfl)) (fun _ _ _ h => h) (Or.inl ⟨by rfl, ?_⟩) ?_ ?_
        rotate_left
        · intro w'
          go_simp
          with_reducible rfl
        rotate_left
        · simp only [Act.put, List.setIfInBounds_toArray, List.set_cons_zero, List.set_cons_succ, i64_w, i32_w]
          rfl
        refine done_ (done_of HT_.out (by kernel_rfl)) ?_
        try go_wp2
        go_ret2
        exact ⟨by first | rfl | (simp [errW_none, errW_some] <;> rfl) | (simp [*, errW_none, errW_some] <;> rfl), by repeat (first | (with_reducible first | exact HB.out | apply below_alloc | apply pw_below_drewN | apply below_drew1 | refine below_set ?_ GE135001.out) | exact HB.out)⟩
end Go.Proofs.Yteopooljohdoiaa.Px
