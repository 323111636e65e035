/- DamLowers: for every input the call returns true and each argument reads afterwards as it read before; no condition. (its contracts and its pure law) -/
import Derived.Test.YteopooljohdoiaaGreatK1
import Derived.Test.YteopooljohdoiaaGreatK2
import Derived.Test.YteopooljohdoiaaGreatK3
set_option linter.unusedVariables false
set_option linter.unusedSimpArgs false
namespace Go.Proofs.YteopooljohdoiaaGreat.Px
open Go.RowKit Go.Proofs.YteopooljohdoiaaGreatW.PrintWords Go.Proofs.YteopooljohdoiaaGreatW.PrintLast Go.Proofs.YteopooljohdoiaaGreatW.PrintMore
attribute [local go_sem] max2_int min2_int max_two min_two max_three min_three max_four min_four
def dam_rules_stateErr.f (k : Nat) (l0_0 : List Int) (l0_1 : List Int) (a0_2 : Int) (l0_3 : List (S62)) (a1_0 : Int) (a1_1 : Int) (a1_2 : Int) : Option (Int) := (dam_within.f a1_0 0 (l0_0.length : Int)).bind fun t342003 => (if t342003 = true then ((dam_within.f a1_1 0 1000000).bind fun t342004 => (if t342004 = true then ((dam_isDeviation.f a1_2).bind fun t342005 => ((dam_unless.f t342005 2).bind fun t342006 => (if a1_0 > 0 then ((dam_unless.f true 13).bind fun t342007 => ((dam_first.f k (([t342006, t342007] : List Int))).bind fun t342011 => (some t342011))) else ((dam_unless.f (a1_1 == 0) 13).bind fun t342012 => ((dam_first.f k (([t342006, t342012] : List Int))).bind fun t342016 => (some t342016)))))) else ((dam_unless.f false 2).bind fun t342017 => (if a1_0 > 0 then ((dam_unless.f true 13).bind fun t342018 => ((dam_first.f k (([t342017, t342018] : List Int))).bind fun t342022 => (some t342022))) else ((dam_unless.f (a1_1 == 0) 13).bind fun t342023 => ((dam_first.f k (([t342017, t342023] : List Int))).bind fun t342027 => (some t342027))))))) else ((dam_unless.f false 2).bind fun t342028 => (if a1_0 > 0 then ((dam_unless.f true 13).bind fun t342029 => ((dam_first.f k (([t342028, t342029] : List Int))).bind fun t342033 => (some t342033))) else ((dam_unless.f (a1_1 == 0) 13).bind fun t342034 => ((dam_first.f k (([t342028, t342034] : List Int))).bind fun t342038 => (some t342038))))))
theorem dam_rules_stateErr.mono : ∀ a0 a1 a2 a3 a4 a5 a6 k, LeO (dam_rules_stateErr.f k a0 a1 a2 a3 a4 a5 a6) (dam_rules_stateErr.f (k + 1) a0 a1 a2 a3 a4 a5 a6) := by
  intro a0 a1 a2 a3 a4 a5 a6 k
  unfold dam_rules_stateErr.f
  repeat' first
      | (with_reducible exact dam_first.mono _ _)
      | (with_reducible exact LeO.refl _)
      | (with_reducible exact LeO.none _)
      | (with_reducible refine LeO.ite ?_ ?_)
      | (with_reducible refine LeO.bind ?_ (fun _ => ?_))
      | exact dam_first.mono _ _
      | exact LeO.none _
      | refine LeO.ite ?_ ?_
      | refine LeO.bind ?_ (fun _ => ?_)
theorem unless_same (b : Bool) (x : Int) (w : World) : Calls Tryz.prog 61 #[.bool b, .int .i64 x] w fun e w' => e = .returned (.int .i64 (unlessI b x)) ∧ w' = w := by
  cases b <;> (go_enter Tryz.func61, Tryz.ntmps61; go_wp2; go_ret; exact ⟨rfl, rfl⟩)
set_option maxHeartbeats 8000000 in
set_option maxRecDepth 100000 in
theorem dam_rules_stateErr.calls (k : Nat) (A0_0 : Option Addr) (c0_0 : Nat) (l0_0 : List Int) (A0_1 : Option Addr) (c0_1 : Nat) (l0_1 : List Int) (a0_2 : Int) (A0_3 : Option Addr) (c0_3 : Nat) (l0_3 : List (S62)) (a1_0 : Int) (a1_1 : Int) (a1_2 : Int) (r : Int) (w : World) (hr0_0 : Kd.C (Kd.int .i64) w A0_0 l0_0.length l0_0) (hc0_0 : l0_0.length ≤ c0_0) (hr0_1 : Kd.C (Kd.int .i64) w A0_1 l0_1.length l0_1) (hc0_1 : l0_1.length ≤ c0_1) (hr0_3 : Kd.C k62 w A0_3 l0_3.length l0_3) (hc0_3 : l0_3.length ≤ c0_3) (h : dam_rules_stateErr.f k l0_0 l0_1 a0_2 l0_3 a1_0 a1_1 a1_2 = some r) :
    Calls Tryz.prog 114 #[.agg #[.slice A0_0 l0_0.length c0_0, .slice A0_1 l0_1.length c0_1, .int .i64 a0_2, .slice A0_3 l0_3.length c0_3], .agg #[.int .i64 a1_0, .int .i64 a1_1, .int .i64 a1_2]] w fun e w' => e = .returned (.int .i64 r) ∧ Below w.heap.size w w' := by
  have hu := Tryz.underlying123
  have hu1 := Tryz.underlying25
  have hu2 := Tryz.underlying27
  have HR0 := Aside0.mk hr0_0
  clear hr0_0 hr0_1 hr0_3 hc0_0 hc0_1 hc0_3
  obtain ⟨b1, hb1⟩ : ∃ b, dam_within.f a1_0 0 (l0_0.length : Int) = some b := ⟨_, within_f _ _ _⟩
  obtain ⟨b2, hb2⟩ : ∃ b, dam_within.f a1_1 0 1000000 = some b := ⟨_, within_f _ _ _⟩
  obtain ⟨b3, hb3⟩ : ∃ b, dam_isDeviation.f a1_2 = some b := by
    unfold dam_isDeviation.f
    rw [within_f]
    exact ⟨_, rfl⟩
  have key : dam_first.f k [unlessI (b1 && (b2 && b3)) 2, unlessI (decide (a1_0 > 0) || a1_1 == 0) 13] = some r := by
    unfold dam_rules_stateErr.f at h
    rw [hb1, hb2, hb3] at h
    simp only [Option.bind_some, unless_f] at h
    cases b1 <;> cases b2 <;> cases b3 <;> by_cases hp : a1_0 > 0 <;> simp [hp] at h ⊢ <;> exact h
  have hm : l0_0.length ≤ 9223372036854775807 := HR0.out.2.1
  have W1 := Aside0.mk hb1
  have W2 := Aside0.mk hb2
  have W3 := Aside0.mk hb3
  obtain ⟨q, hq⟩ : ∃ q, q = (decide (a1_0 > 0) || a1_1 == 0) := ⟨_, rfl⟩
  rw [← hq] at key
  have H1 := Aside0.mk key
  clear h key hb1 hb2 hb3
  have hcase : (decide (0 < a1_0) = true ∧ q = true) ∨ (decide (0 < a1_0) = false ∧ (a1_1 == 0) = true ∧ q = true) ∨ (decide (0 < a1_0) = false ∧ (a1_1 == 0) = false ∧ q = false) := by
    rw [hq]
    show (decide (0 < a1_0) = true ∧ (decide (0 < a1_0) || a1_1 == 0) = true) ∨ _ ∨ _
    cases decide (0 < a1_0) <;> cases (a1_1 == 0) <;> simp
  clear hq
  go_enter Tryz.func114, Tryz.ntmps114
  go_upto_region 1 with fail
  have hX := blk_alloc (blk_new w (.cells #[.slice A0_0 l0_0.length c0_0, .slice A0_1 l0_1.length c0_1, .int .i64 a0_2, .slice A0_3 l0_3.length c0_3] 123)) (.cells #[.int .i64 a1_0, .int .i64 a1_1, .int .i64 a1_2] 27)
  have hS := blk_new (w.alloc (.cells #[.slice A0_0 l0_0.length c0_0, .slice A0_1 l0_1.length c0_1, .int .i64 a0_2, .slice A0_3 l0_3.length c0_3] 123)) (.cells #[.int .i64 a1_0, .int .i64 a1_1, .int .i64 a1_2] 27)
  have hb1 := below_alloc (below_alloc (Below.refl _ w) (.cells #[.slice A0_0 l0_0.length c0_0, .slice A0_1 l0_1.length c0_1, .int .i64 a0_2, .slice A0_3 l0_3.length c0_3] 123)) (.cells #[.int .i64 a1_0, .int .i64 a1_1, .int .i64 a1_2] 27)
  rw [show (w.alloc (.cells #[.slice A0_0 l0_0.length c0_0, .slice A0_1 l0_1.length c0_1, .int .i64 a0_2, .slice A0_3 l0_3.length c0_3] 123)).heap.size = w.heap.size + 1 from Array.size_push _] at hS
  generalize (w.alloc (.cells #[.slice A0_0 l0_0.length c0_0, .slice A0_1 l0_1.length c0_1, .int .i64 a0_2, .slice A0_3 l0_3.length c0_3] 123)).alloc (.cells #[.int .i64 a1_0, .int .i64 a1_1, .int .i64 a1_2] 27) = w1 at *
  have hx0 : w1.cell? ⟨w.heap.size, 0, none⟩ = some (.slice A0_0 l0_0.length c0_0) := (blk_cell hX 0).trans rfl
  have hs0 : w1.cell? ⟨w.heap.size + 1, 0, none⟩ = some (.int .i64 a1_0) := (blk_cell hS 0).trans rfl
  have hs1 : w1.cell? ⟨w.heap.size + 1, 1, none⟩ = some (.int .i64 a1_1) := (blk_cell hS 1).trans rfl
  have hs2 : w1.cell? ⟨w.heap.size + 1, 2, none⟩ = some (.int .i64 a1_2) := (blk_cell hS 2).trans rfl
  have HB := Aside0.mk hb1
  clear hX hS hb1
  cases b1 <;> cases b2 <;> cases b3
  all_goals
    go_upto_region 2 with (first | (go_at_call 65; refine (dam_within.calls _ _ _ _ _ W1.out).mono ?_; rintro e w1 ⟨rfl, hd⟩; have hb := hd.below; have hx0 := (hb.cell (World.block_lt_of_cell? _ _ hx0)).trans hx0; have hs0 := (hb.cell (World.block_lt_of_cell? _ _ hs0)).trans hs0; have hs1 := (hb.cell (World.block_lt_of_cell? _ _ hs1)).trans hs1; have hs2 := (hb.cell (World.block_lt_of_cell? _ _ hs2)).trans hs2; have HB := Aside0.mk (below_step HB.out hb); clear hb hd; clear W1) | (go_at_call 65; refine (dam_within.calls _ _ _ _ _ W2.out).mono ?_; rintro e w1 ⟨rfl, hd⟩; have hb := hd.below; have hx0 := (hb.cell (World.block_lt_of_cell? _ _ hx0)).trans hx0; have hs0 := (hb.cell (World.block_lt_of_cell? _ _ hs0)).trans hs0; have hs1 := (hb.cell (World.block_lt_of_cell? _ _ hs1)).trans hs1; have hs2 := (hb.cell (World.block_lt_of_cell? _ _ hs2)).trans hs2; have HB := Aside0.mk (below_step HB.out hb); clear hb hd) | (go_at_call 90; refine (dam_isDeviation.calls _ _ _ W3.out).mono ?_; rintro e w1 ⟨rfl, hd⟩; have hb := hd.below; have hx0 := (hb.cell (World.block_lt_of_cell? _ _ hx0)).trans hx0; have hs0 := (hb.cell (World.block_lt_of_cell? _ _ hs0)).trans hs0; have hs1 := (hb.cell (World.block_lt_of_cell? _ _ hs1)).trans hs1; have hs2 := (hb.cell (World.block_lt_of_cell? _ _ hs2)).trans hs2; have HB := Aside0.mk (below_step HB.out hb); clear hb hd))
    have H1' := H1.out
    simp only [Bool.false_and, Bool.true_and, Bool.and_false, Bool.and_true] at H1'
    have H2 := Aside0.mk H1'
    clear H1' H1 hs2 hx0
    have HR := Aside0.mk (Below.refl w1.heap.size w1)
    rcases hcase with ⟨hp, rfl⟩ | ⟨hp, hz, rfl⟩ | ⟨hp, hz, rfl⟩
    all_goals
      refine wp_region_still_tail 11 (by kernel_rfl) (by kernel_rfl) ?_
      simp only [List.take_succ_cons, List.take_zero, List.drop_succ_cons, List.drop_zero]
      repeat (first | still_step | still_call (unless_same _ _ _))
      refine wpStill_nil ?_
      clear hs0 hs1
      change wpList _ _ _ _ _ w1.drew
      have HB2 := Aside0.mk (below_drew HB.out)
      generalize w1.drew = w2 at *
      go_wp2_with (go_at_call 60; refine (dam_first.calls k _ _ _ r _ (litC _ 32 _ (by simp)) (Nat.le_refl _) H2.out).mono ?_; rintro e w3 ⟨rfl, hb3⟩; have HB3 := Aside0.mk (below_step (below_alloc HB2.out _) hb3.below); clear hb3)
      go_ret
      exact ⟨rfl, HB3.out⟩
def dam_openState.f (k : Nat) (l0_0 : List Int) (l0_1 : List Int) (a0_2 : Int) (l0_3 : List S62) (a1_0 : Int) (a1_1 : Int) (a1_2 : Int) : Option Int :=
  (dam_CheckRules.f l0_0 l0_1 a0_2 l0_3).bind fun c => if c.2 = 0 then dam_rules_stateErr.f k l0_0 l0_1 a0_2 l0_3 a1_0 a1_1 a1_2 else some c.2
theorem dam_openState.mono : ∀ a0 a1 a2 a3 a4 a5 a6 k, LeO (dam_openState.f k a0 a1 a2 a3 a4 a5 a6) (dam_openState.f (k + 1) a0 a1 a2 a3 a4 a5 a6) := by
  intro a0 a1 a2 a3 a4 a5 a6 k
  unfold dam_openState.f
  exact LeO.bind (LeO.refl _) fun _ => LeO.ite (dam_rules_stateErr.mono _ _ _ _ _ _ _ _) (LeO.refl _)
theorem cells4 {w : World} {g : Nat} {t : TypeId} {a b c d : Value} (h : w.heap[g]? = some (.cells #[a, b, c, d] t (0, 0))) : w.cell? ⟨g, 0, none⟩ = some a ∧ w.cell? ⟨g, 1, none⟩ = some b ∧ w.cell? ⟨g, 2, none⟩ = some c ∧ w.cell? ⟨g, 3, none⟩ = some d :=
  ⟨(blk_cell h 0).trans rfl, (blk_cell h 1).trans rfl, (blk_cell h 2).trans rfl, (blk_cell h 3).trans rfl⟩
theorem cells3 {w : World} {g : Nat} {t : TypeId} {a b c : Value} (h : w.heap[g]? = some (.cells #[a, b, c] t (0, 0))) : w.cell? ⟨g, 0, none⟩ = some a ∧ w.cell? ⟨g, 1, none⟩ = some b ∧ w.cell? ⟨g, 2, none⟩ = some c :=
  ⟨(blk_cell h 0).trans rfl, (blk_cell h 1).trans rfl, (blk_cell h 2).trans rfl⟩
theorem free4 {w : World} {g : Nat} {t : TypeId} {cs : Array Value} (h : w.heap[g]? = some (.cells cs t (0, 0))) : w.frozen? ⟨g, 0, none⟩ = false ∧ w.frozen? ⟨g, 1, none⟩ = false ∧ w.frozen? ⟨g, 2, none⟩ = false ∧ w.frozen? ⟨g, 3, none⟩ = false :=
  ⟨blk_frozen h 0, blk_frozen h 1, blk_frozen h 2, blk_frozen h 3⟩
theorem alloc1 (w : World) (a : Array Value) (ta : TypeId) : ∃ w1, w1 = w.alloc (.cells a ta) ∧ w1.heap[w.heap.size]? = some (.cells a ta (0, 0)) ∧ Below w.heap.size w w1 := ⟨_, rfl, blk_new _ _, below_alloc (Below.refl _ _) _⟩
theorem alloc2 (w : World) (a b : Array Value) (ta tb : TypeId) : ∃ w1, w1 = (w.alloc (.cells a ta)).alloc (.cells b tb) ∧ w1.heap[w.heap.size]? = some (.cells a ta (0, 0)) ∧ w1.heap[w.heap.size + 1]? = some (.cells b tb (0, 0)) ∧ Below w.heap.size w w1 := by
  refine ⟨_, rfl, blk_alloc (blk_new _ _) _, ?_, below_alloc (below_alloc (Below.refl _ _) _) _⟩
  have h := blk_new (w.alloc (.cells a ta)) (.cells b tb)
  rwa [show (w.alloc (.cells a ta)).heap.size = w.heap.size + 1 from Array.size_push _] at h
theorem alloc3 (w : World) (a b c : Array Value) (ta tb tc : TypeId) : ∃ w1, w1 = ((w.alloc (.cells a ta)).alloc (.cells b tb)).alloc (.cells c tc) ∧ w1.heap[w.heap.size]? = some (.cells a ta (0, 0)) ∧ w1.heap[w.heap.size + 1]? = some (.cells b tb (0, 0)) ∧ w1.heap[w.heap.size + 1 + 1]? = some (.cells c tc (0, 0)) ∧ Below w.heap.size w w1 := by
  obtain ⟨w2, rfl, h1, h2, hb⟩ := alloc2 w a b ta tb
  refine ⟨_, rfl, blk_alloc h1 _, blk_alloc h2 _, ?_, below_alloc hb _⟩
  have h := blk_new ((w.alloc (.cells a ta)).alloc (.cells b tb)) (.cells c tc)
  rwa [show ((w.alloc (.cells a ta)).alloc (.cells b tb)).heap.size = w.heap.size + 1 + 1 from (Array.size_push _).trans (congrArg (· + 1) (Array.size_push _))] at h
set_option maxHeartbeats 8000000 in
set_option maxRecDepth 100000 in
theorem dam_openState.calls (k : Nat) (A0_0 : Option Addr) (c0_0 : Nat) (l0_0 : List Int) (A0_1 : Option Addr) (c0_1 : Nat) (l0_1 : List Int) (a0_2 : Int) (A0_3 : Option Addr) (c0_3 : Nat) (l0_3 : List S62) (a1_0 : Int) (a1_1 : Int) (a1_2 : Int) (r : Int) (w : World) (hr0_0 : Kd.C (Kd.int .i64) w A0_0 l0_0.length l0_0) (hc0_0 : l0_0.length ≤ c0_0) (hr0_1 : Kd.C (Kd.int .i64) w A0_1 l0_1.length l0_1) (hc0_1 : l0_1.length ≤ c0_1) (hr0_3 : Kd.C k62 w A0_3 l0_3.length l0_3) (hc0_3 : l0_3.length ≤ c0_3) (h : dam_openState.f k l0_0 l0_1 a0_2 l0_3 a1_0 a1_1 a1_2 = some r) :
    Calls Tryz.prog 59 #[.agg #[.slice A0_0 l0_0.length c0_0, .slice A0_1 l0_1.length c0_1, .int .i64 a0_2, .slice A0_3 l0_3.length c0_3], .agg #[.int .i64 a1_0, .int .i64 a1_1, .int .i64 a1_2]] w fun e w' => e = .returned (.tuple #[.agg #[.slice A0_0 l0_0.length c0_0, .slice A0_1 l0_1.length c0_1, .int .i64 a0_2, .slice A0_3 l0_3.length c0_3], .int .i64 r]) ∧ Below w.heap.size w w' := by
  have hu := Tryz.underlying123
  have hu1 := Tryz.underlying25
  have hu2 := Tryz.underlying27
  have HR0 := Aside0.mk hr0_0
  have HR1 := Aside0.mk hr0_1
  have HR3 := Aside0.mk hr0_3
  have HC := Aside0.mk (And.intro hc0_0 (And.intro hc0_1 hc0_3))
  clear hr0_0 hr0_1 hr0_3 hc0_0 hc0_1 hc0_3
  unfold dam_openState.f at h
  replace h := Option.bind_eq_some_iff.mp h
  obtain ⟨⟨c1, e1⟩, hck, h⟩ := h
  have HK := Aside0.mk hck
  have HOUT := Aside0.mk h
  clear hck h
  go_enter Tryz.func59, Tryz.ntmps59
  go_upto_region 1 with fail
  obtain ⟨w1, hw, hX, hS, hZ, hb1⟩ := alloc3 w #[.slice A0_0 l0_0.length c0_0, .slice A0_1 l0_1.length c0_1, .int .i64 a0_2, .slice A0_3 l0_3.length c0_3] #[.int .i64 a1_0, .int .i64 a1_1, .int .i64 a1_2] #[.slice none 0 0, .slice none 0 0, .int .i64 0, .slice none 0 0] 25 27 123
  rw [← hw]
  obtain ⟨hx0, hx1, hx2, hx3⟩ := cells4 hX
  have HS := Aside0.mk hS
  have HZ := Aside0.mk hZ
  have HB1 := Aside0.mk hb1
  clear hX hS hZ hb1 hw
  go_upto_region 2 with (go_at_call 92; refine (open_c A0_0 c0_0 l0_0 A0_1 c0_1 l0_1 a0_2 A0_3 c0_3 l0_3 c1 e1 _ (Kd.C_below HR0.out HB1.out) HC.out.1 (Kd.C_below HR1.out HB1.out) HC.out.2.1 (Kd.C_below HR3.out HB1.out) HC.out.2.2 HK.out).mono ?_; rintro e w2 ⟨rfl, hb2⟩; have HB2 := Aside0.mk hb2; clear hb2)
  clear hx0 hx1 hx2 hx3
  obtain ⟨w3, hw, hX, hb3⟩ := alloc1 w2 #[.slice A0_0 l0_0.length c0_0, .slice A0_1 l0_1.length c0_1, .int .i64 a0_2, .slice A0_3 l0_3.length c0_3] 123
  rw [← hw]
  have HB3 := Aside0.mk (below_step (below_step HB1.out HB2.out) hb3)
  have hS3 := blk_below (blk_below HS.out HB2.out) hb3
  have HZ3 := Aside0.mk (blk_below (blk_below HZ.out HB2.out) hb3)
  generalize w2.heap.size = G at *
  have HX := Aside0.mk hX
  obtain ⟨hx0, hx1, hx2, hx3⟩ := cells4 hX
  obtain ⟨hs0, hs1, hs2⟩ := cells3 hS3
  clear hX hS3 hb3 hw
  have ho := HOUT.out
  by_cases hz : e1 = 0
  case neg =>
    rw [if_neg hz] at ho
    obtain rfl := Option.some.inj ho
    have hzb : (e1 == 0) = false := beq_eq_false_iff_ne.2 hz
    obtain ⟨hz0, hz1, hz2, hz3⟩ := cells4 HZ3.out
    obtain ⟨hf0, hf1, hf2, hf3⟩ := free4 HZ3.out
    clear hz ho HOUT hs0 hs1 hs2
    go_wp2
    refine bodyPost_ret (results_ct rfl _ _ (w.heap.size + 1 + 1) 123 #[.slice A0_0 l0_0.length c0_0, .slice A0_1 l0_1.length c0_1, .int .i64 a0_2, .slice A0_3 l0_3.length c0_3] (0, 0) _ rfl (blk_put (blk_put (blk_put (blk_put HZ3.out 0 _ rfl) 1 _ rfl) 2 _ rfl) 3 _ rfl) Tryz.underlying123 (by rfl) (by rfl)) rfl ⟨rfl, ?_⟩
    exact below_set (below_set (below_set (below_set HB3.out (by omega)) (by omega)) (by omega)) (by omega)
  case pos =>
    subst hz
    rw [if_pos rfl] at ho
    have HO2 := Aside0.mk ho
    clear ho HOUT
    go_upto_region 4 with (go_at_call 114; refine (dam_rules_stateErr.calls k A0_0 c0_0 l0_0 A0_1 c0_1 l0_1 a0_2 A0_3 c0_3 l0_3 a1_0 a1_1 a1_2 r _ (Kd.C_below HR0.out HB3.out) HC.out.1 (Kd.C_below HR1.out HB3.out) HC.out.2.1 (Kd.C_below HR3.out HB3.out) HC.out.2.2 HO2.out).mono ?_; rintro e w4 ⟨rfl, hb4⟩; have HB4 := Aside0.mk hb4; clear hb4)
    clear hx0 hx1 hx2 hx3 hs0 hs1 hs2
    obtain ⟨hx0, hx1, hx2, hx3⟩ := cells4 (blk_below HX.out HB4.out)
    have HZ4 := Aside0.mk (blk_below HZ3.out HB4.out)
    obtain ⟨hz0, hz1, hz2, hz3⟩ := cells4 HZ4.out
    obtain ⟨hf0, hf1, hf2, hf3⟩ := free4 HZ4.out
    go_wp2
    refine bodyPost_ret (results_ct rfl _ _ (w.heap.size + 1 + 1) 123 #[.slice A0_0 l0_0.length c0_0, .slice A0_1 l0_1.length c0_1, .int .i64 a0_2, .slice A0_3 l0_3.length c0_3] (0, 0) _ rfl (blk_put (blk_put (blk_put (blk_put HZ4.out 0 _ rfl) 1 _ rfl) 2 _ rfl) 3 _ rfl) Tryz.underlying123 (by rfl) (by rfl)) rfl ⟨rfl, ?_⟩
    exact below_set (below_set (below_set (below_set (below_step HB3.out HB4.out) (by omega)) (by omega)) (by omega)) (by omega)
def guidevanebase_IsName.f (a0 : ByteArray) : Option Bool := if a0.size ≤ 4611686018427387904 then some (nameOk a0) else none
theorem nameCh_iff (i : Nat) (c : Int) : nameCh i c = true ↔ ((97 ≤ c ∧ c ≤ 122) ∨ (65 ≤ c ∧ c ≤ 90)) ∨ (¬ (i : Int) = 0 ∧ (c = 45 ∨ (48 ≤ c ∧ c ≤ 57))) := by
  unfold nameCh isLetB isDigB
  simp only [Bool.or_eq_true, Bool.and_eq_true, decide_eq_true_eq, bne_iff_ne, beq_iff_eq, ne_eq]
  omega
set_option maxHeartbeats 8000000 in
set_option maxRecDepth 100000 in
theorem guidevanebase_IsName.calls (a0 : ByteArray) (r : Bool) (w : World) (h : guidevanebase_IsName.f a0 = some r) :
    Calls Tryz.prog 67 #[.string a0] w fun e w' => e = .returned (.bool r) ∧ Below w.heap.size w w' := by
  have hh : a0.size ≤ 4611686018427387904 ∧ r = nameOk a0 := by
    unfold guidevanebase_IsName.f at h
    split at h
    · exact ⟨by assumption, (Option.some.inj h).symm⟩
    · exact absurd h (by simp)
  clear h
  obtain ⟨hbig, hr⟩ := hh
  have HR := Aside0.mk hr
  clear hr
  by_cases h0 : a0.size < 1
  · have hz : (a0.size : Int) < 1 := by omega
    have hn : r = false := by
      rw [HR.out]; unfold nameOk
      rw [show decide (1 ≤ a0.size) = false from decide_eq_false (by omega)]; simp
    subst hn
    clear h0 HR
    go_enter Tryz.func67, Tryz.ntmps67
    go_wp2
    go_ret
    exact ⟨rfl, Below.refl _ _⟩
  by_cases h1 : 12 < a0.size
  · have hz : ¬ (a0.size : Int) < 1 := by omega
    have hz2 : (12 : Int) < (a0.size : Int) := by omega
    have hn : r = false := by
      rw [HR.out]; unfold nameOk
      rw [show decide (a0.size ≤ 12) = false from decide_eq_false (by omega)]; simp
    subst hn
    clear h0 h1 HR
    go_enter Tryz.func67, Tryz.ntmps67
    go_wp2
    go_ret
    exact ⟨rfl, Below.refl _ _⟩
  have hz : ¬ (a0.size : Int) < 1 := by omega
  have hz2 : ¬ (12 : Int) < (a0.size : Int) := by omega
  have HSZ := Aside0.mk (show 1 ≤ a0.size ∧ a0.size ≤ 12 by omega)
  clear h0 h1
  go_enter Tryz.func67, Tryz.ntmps67
  go_wp2
  go_loopg [3] a0.size (fun gg s3 w5 => ∃ (i : Nat), i ≤ a0.size ∧ a0.size - i ≤ gg ∧ s3 = .int .i64 i ∧ Aside0 (∀ j, j < i → nameCh j (bt a0 (j : Int)) = true) ∧ w5 = w)
  case atStart => exact ⟨0, by omega, by omega, rfl, ⟨fun j hj => absurd hj (by omega)⟩, rfl⟩
  case round =>
    obtain ⟨i, hi, hgg, rfl, HJ, rfl⟩ := hrel
    clear hz hz2
    by_cases hin : i < a0.size
    case pos =>
      have hin2 : (i : Int) < (a0.size : Int) := by omega
      have hbt := bt_at a0 (i : Int)
      have hrg := bt_range a0 (i : Int)
      rw [Int.toNat_natCast] at hbt
      have hby := hbt hin
      obtain ⟨c, hc⟩ : ∃ c, c = bt a0 (i : Int) := ⟨_, rfl⟩
      rw [← hc] at hrg hby
      obtain ⟨hc0, hc255⟩ := hrg
      have HCC := Aside0.mk hc
      clear hc hbt
      have hcases : (97 ≤ c ∧ c ≤ 122) ∨ (¬ 97 ≤ c ∧ 65 ≤ c ∧ c ≤ 90) ∨ (97 ≤ c ∧ ¬ c ≤ 122 ∧ 65 ≤ c ∧ ¬ c ≤ 90 ∧ ((i : Int) == 0) = true) ∨ (97 ≤ c ∧ ¬ c ≤ 122 ∧ 65 ≤ c ∧ ¬ c ≤ 90 ∧ ((i : Int) == 0) = false ∧ (c != 45) = true ∧ ¬ c < 48 ∧ 57 < c)
          ∨ (¬ 97 ≤ c ∧ 65 ≤ c ∧ ¬ c ≤ 90 ∧ ((i : Int) == 0) = true) ∨ (¬ 97 ≤ c ∧ 65 ≤ c ∧ ¬ c ≤ 90 ∧ ((i : Int) == 0) = false ∧ (c != 45) = true ∧ ¬ c < 48 ∧ 57 < c)
          ∨ (¬ 97 ≤ c ∧ ¬ 65 ≤ c ∧ ((i : Int) == 0) = true) ∨ (¬ 97 ≤ c ∧ ¬ 65 ≤ c ∧ ((i : Int) == 0) = false ∧ (c != 45) = false) ∨ (¬ 97 ≤ c ∧ ¬ 65 ≤ c ∧ ((i : Int) == 0) = false ∧ (c != 45) = true ∧ c < 48)
          ∨ (¬ 97 ≤ c ∧ ¬ 65 ≤ c ∧ ((i : Int) == 0) = false ∧ (c != 45) = true ∧ ¬ c < 48 ∧ ¬ 57 < c) ∨ (¬ 97 ≤ c ∧ ¬ 65 ≤ c ∧ ((i : Int) == 0) = false ∧ (c != 45) = true ∧ ¬ c < 48 ∧ 57 < c) := by
        simp only [beq_iff_eq, beq_eq_false_iff_ne, bne_iff_ne, bne_eq_false_iff_eq]
        omega
      rcases hcases with ⟨h1, h2⟩ | ⟨h1, h2, h3⟩ | ⟨h1, h2, h3, h4, h5⟩ | ⟨h1, h2, h3, h4, h5, h6, h7, h8⟩ | ⟨h1, h2, h3, h4⟩ | ⟨h1, h2, h3, h4, h5, h6, h7⟩ | ⟨h1, h2, h3⟩ | ⟨h1, h2, h3, h4⟩ | ⟨h1, h2, h3, h4, h5⟩ | ⟨h1, h2, h3, h4, h5, h6⟩ | ⟨h1, h2, h3, h4, h5, h6⟩
      all_goals
        go_wp2
        have hfact : (nameCh i c = true) ∨ (nameCh i c = false) := by cases nameCh i c <;> simp
        have hiff := nameCh_iff i c
        first
          | (go_roundg (a0.size - (i + 1))
             case measure => omega
             case rel =>
               refine ⟨i + 1, by omega, by omega, by go_num, ⟨fun j hj => ?_⟩, rfl⟩
               by_cases hji : j = i
               · subst hji
                 rw [← HCC.out, hiff]
                 (try simp only [beq_iff_eq, beq_eq_false_iff_ne, bne_iff_ne, bne_eq_false_iff_eq, ne_eq] at *)
                 omega
               · exact HJ.out j (by omega))
          | (go_ret
             refine ⟨?_, Below.refl _ _⟩
             have hbad : nameCh i (bt a0 (i : Int)) = false := by
               rw [← HCC.out]
               rcases hfact with hf | hf
               · exfalso
                 rw [hiff] at hf
                 (try simp only [beq_iff_eq, beq_eq_false_iff_ne, bne_iff_ne, bne_eq_false_iff_eq, ne_eq] at *)
                 omega
               · exact hf
             rw [HR.out, nameOk_bad a0 i hin hbad]
             rfl)
    case neg =>
      obtain rfl : i = a0.size := by omega
      have hn : r = true := by
        rw [HR.out, nameOk_good a0 HJ.out, decide_eq_true (by have := HSZ.out; omega), decide_eq_true (by have := HSZ.out; omega)]; rfl
      subst hn
      go_wp2
      go_ret
      exact ⟨rfl, Below.refl _ _⟩
def guidevaneref09_find.l0 : Nat → List (S62) → ByteArray → Int → Option (Int)
  | 0, _, _, _ => none
  | k + 1, x0, x1, x5 => if x5 < (x0.length : Int) then (if 0 ≤ x5 then (if ((rd_T62 x0 x5).f0).toList = x1.toList then (some x5) else (guidevaneref09_find.l0 k x0 x1 (wrap64 (x5 + 1)))) else (none)) else (some (-1))
def guidevaneref09_find.f (k : Nat) (l0 : List (S62)) (a1 : ByteArray) : Option (Int) := guidevaneref09_find.l0 k l0 a1 0
theorem guidevaneref09_find.mono_l : ∀ k, (∀ y0 y1 y2, LeO (guidevaneref09_find.l0 k y0 y1 y2) (guidevaneref09_find.l0 (k + 1) y0 y1 y2))
  | 0 => fun _ _ _ r h => by simp [guidevaneref09_find.l0] at h
  | k + 1 => by
    have ih0 := guidevaneref09_find.mono_l k
    · intro y0 y1 y2
      unfold guidevaneref09_find.l0
      repeat' first
      | (with_reducible exact ih0 _ _ _)
      | (with_reducible exact LeO.refl _)
      | (with_reducible exact LeO.none _)
      | (with_reducible refine LeO.ite ?_ ?_)
      | (with_reducible refine LeO.bind ?_ (fun _ => ?_))
      | exact ih0 _ _ _
      | exact LeO.none _
      | refine LeO.ite ?_ ?_
      | refine LeO.bind ?_ (fun _ => ?_)
theorem guidevaneref09_find.mono : ∀ a0 a1 k, LeO (guidevaneref09_find.f k a0 a1) (guidevaneref09_find.f (k + 1) a0 a1) := by
  intro a0 a1 k
  have ih0 := guidevaneref09_find.mono_l k
  unfold guidevaneref09_find.f
  repeat' first
      | (with_reducible exact ih0 _ _ _)
      | (with_reducible exact LeO.refl _)
      | (with_reducible exact LeO.none _)
      | (with_reducible refine LeO.ite ?_ ?_)
      | (with_reducible refine LeO.bind ?_ (fun _ => ?_))
      | exact ih0 _ _ _
      | exact LeO.none _
      | refine LeO.ite ?_ ?_
      | refine LeO.bind ?_ (fun _ => ?_)
set_option maxHeartbeats 8000000 in
set_option maxRecDepth 100000 in
theorem guidevaneref09_find.calls (k : Nat) (A0 : Option Addr) (c0 : Nat) (l0 : List (S62)) (a1 : ByteArray) (r : Int) (w : World) (hr0 : Kd.C k62 w A0 l0.length l0) (hc0 : l0.length ≤ c0) (h : guidevaneref09_find.f k l0 a1 = some r) :
    Calls Tryz.prog 68 #[.slice A0 l0.length c0, .string a1] w fun e w' => e = .returned (.int .i64 r) ∧ Drawn0 w w' := by
  have HR0 := Aside0.mk hr0
  have HC0 := Aside0.mk hc0
  clear hr0 hc0
  have H : (guidevaneref09_find.l0 k l0 a1 0) = some r := h
  clear h
  have H' := Aside0.mk H
  clear H
  go_enter Tryz.func68, Tryz.ntmps68
  go_wp2
  go_loopg [5] k (fun kq v5 w' => ∃ (x5_1 : Int), v5 = .int .i64 x5_1 ∧ Aside0 (guidevaneref09_find.l0 kq l0 a1 x5_1 = some r) ∧ Aside0 (kq ≤ k) ∧ Drawn0 w w')
  case atStart => exact ⟨(0), (by first | rfl | (simp; done) | (simp [*]; done)), H', ⟨Nat.le_refl _⟩, by repeat (first | exact Drawn0.refl _ | apply Drawn0.step)⟩
  case round =>
    clear H'
    try clear p2
    obtain ⟨x5_1, rfl, HA, HK1, ⟨m1, rfl⟩⟩ := hrel
    cases gk with
    | zero => exact absurd HA.out (by simp [guidevaneref09_find.l0])
    | succ k1 =>
      have H := HA.out
      clear HA
      simp only [guidevaneref09_find.l0] at H
      by_cases c3 : x5_1 < (l0.length : Int)
      · rw [if_pos c3] at H
        have c3b0 : decide (x5_1 < (l0.length : Int)) = true := decide_eq_true c3
        clear c3
        by_cases c4 : 0 ≤ x5_1
        · rw [if_pos c4] at H
          have c4b0 : decide (0 ≤ x5_1) = true := decide_eq_true c4
          clear c4
          by_cases c5 : ((rd_T62 l0 x5_1).f0).toList = a1.toList
          · rw [if_pos c5] at H
            have c5b0 : (((rd_T62 l0 x5_1).f0).toList == a1.toList) = true := beq_iff_eq.mpr c5
            have c5b1 : (((rd_T62 l0 x5_1).f0).toList != a1.toList) = false := bne_eq_false_iff_eq.mpr c5
            clear c5
            obtain rfl := Option.some.inj H
            have p204001 : 0 ≤ (x5_1 : Int) := of_decide_eq_true (by first | (with_reducible assumption) | assumption)
            have q204001 : x5_1 < (l0.length : Int) := of_decide_eq_true (by first | (with_reducible assumption) | assumption)
            obtain ⟨ad204001, e204001, hx204001_0, hx204001_1⟩ := at_T62 HR0.out x5_1 p204001 q204001
            cases e204001
            replace p204001 := eq_true p204001
            replace q204001 := eq_true q204001
            go_wp2
            go_ret
            exact ⟨by first | rfl | (simp; done) | (simp [*]; done), by repeat (first | exact Drawn0.refl _ | apply Drawn0.step)⟩
          · rw [if_neg c5] at H
            have c5b0 : (((rd_T62 l0 x5_1).f0).toList == a1.toList) = false := beq_eq_false_iff_ne.mpr c5
            have c5b1 : (((rd_T62 l0 x5_1).f0).toList != a1.toList) = true := bne_iff_ne.mpr c5
            have H' := Aside0.mk H
            clear H
            have p204001 : 0 ≤ (x5_1 : Int) := of_decide_eq_true (by first | (with_reducible assumption) | assumption)
            have q204001 : x5_1 < (l0.length : Int) := of_decide_eq_true (by first | (with_reducible assumption) | assumption)
            obtain ⟨ad204001, e204001, hx204001_0, hx204001_1⟩ := at_T62 HR0.out x5_1 p204001 q204001
            cases e204001
            replace p204001 := eq_true p204001
            replace q204001 := eq_true q204001
            go_wp2
            go_roundg k1
            case measure => have := HK1.out; omega
            case rel => exact ⟨(wrap64 (x5_1 + 1)), (by first | rfl | (simp; done) | (simp [*]; done)), H', ⟨by have := HK1.out; omega⟩, by repeat (first | exact Drawn0.refl _ | apply Drawn0.step)⟩
        · rw [if_neg c4] at H
          exact absurd H (by simp)
      · rw [if_neg c3] at H
        have c3b0 : decide (x5_1 < (l0.length : Int)) = false := decide_eq_false c3
        clear c3
        obtain rfl := Option.some.inj H
        go_wp2
        go_ret
        exact ⟨by first | rfl | (simp; done) | (simp [*]; done), by repeat (first | exact Drawn0.refl _ | apply Drawn0.step)⟩
def guidevaneref09_CheckRules.f (l0_0 : List Int) (l0_1 : List Int) (a0_2 : Int) (l0_3 : List S62) : Option (Int × Int) :=
  if l0_0.length ≤ 1000 ∧ l0_3.length ≤ 1000 ∧ ∀ p ∈ l0_3, p.f0.size ≤ 1000 then some (rulesOut l0_0 l0_1 a0_2 l0_3) else none
theorem bw_f (a b c : Int) : guidevanebase_Within.f a b c = some (decide (b ≤ a) && decide (a ≤ c)) := by
  unfold guidevanebase_Within.f
  by_cases h : b ≤ a <;> simp [h]
theorem rdPe (l : List S62) (i : Nat) : rd_T62 l (i : Int) = l.getD i z62 := by show l.getD (i : Int).toNat _ = _; rw [Int.toNat_natCast]
theorem rfind_go (l : List S62) (nm : ByteArray) (hl : l.length ≤ 1000) : ∀ (d i k : Nat), i + d = l.length → d < k → (∀ j, j < i → ((l.getD j z62).f0.toList == nm.toList) = false) → guidevaneref09_find.l0 k l nm (i : Int) = some (idxF (fun o : S62 => o.f0.toList == nm.toList) l) := by
  intro d
  induction d with
  | zero =>
    intro i k hi hk h0
    obtain ⟨k, rfl⟩ : ∃ m, k = m + 1 := ⟨k - 1, by omega⟩
    obtain rfl : i = l.length := by omega
    simp only [guidevaneref09_find.l0]
    rw [if_neg (by omega), idxF_miss (p := fun o : S62 => o.f0.toList == nm.toList) h0]
  | succ d ih =>
    intro i k hi hk h0
    obtain ⟨k, rfl⟩ : ∃ m, k = m + 1 := ⟨k - 1, by omega⟩
    simp only [guidevaneref09_find.l0]
    rw [if_pos (by omega), if_pos (by omega), rdPe]
    by_cases h : (l.getD i z62).f0.toList = nm.toList
    · rw [if_pos h, idxF_hit (p := fun o : S62 => o.f0.toList == nm.toList) (by omega) h0 (by simpa using h)]
    · rw [if_neg h, w64 (by omega) (by omega), show ((i : Int) + 1) = ((i + 1 : Nat) : Int) from rfl]
      refine ih (i + 1) k (by omega) (by omega) fun j hj => ?_
      by_cases e : j = i
      · subst e; simpa using h
      · exact h0 j (by omega)
theorem rfind_f (l : List S62) (nm : ByteArray) (hl : l.length ≤ 1000) : guidevaneref09_find.f 1001 l nm = some (idxF (fun o : S62 => o.f0.toList == nm.toList) l) := by
  unfold guidevaneref09_find.f
  exact rfind_go l nm hl l.length 0 1001 (by omega) (by omega) (fun j hj => absurd hj (by omega))
theorem keep4 {wr W : World} {a b c d : Addr} {u v x y : Value} (ha : wr.cell? a = some u) (hb : wr.cell? b = some v) (hc : wr.cell? c = some x) (hd : wr.cell? d = some y) (h : Below wr.heap.size wr W) : W.cell? a = some u ∧ W.cell? b = some v ∧ W.cell? c = some x ∧ W.cell? d = some y ∧ Below wr.heap.size wr W :=
  ⟨(h.cell (World.block_lt_of_cell? wr _ ha)).trans ha, (h.cell (World.block_lt_of_cell? wr _ hb)).trans hb, (h.cell (World.block_lt_of_cell? wr _ hc)).trans hc, (h.cell (World.block_lt_of_cell? wr _ hd)).trans hd, h⟩
def rulesTail (ups : List Int) (hold : Int) (ps : List S62) : Int × Int :=
  let e1 := firstI [unlessI (decide (0 ≤ hold) && decide (hold ≤ 1000000)) 2, unlessI (decide ((ps.length : Int) ≤ 10)) 8]
  if e1 = 0 then personsOut ps ups.length else (0, e1)
def rulesSteps (ups downs : List Int) (hold : Int) (ps : List S62) : Int × Int :=
  match firstBad ups.length (stepErr ups downs) with
  | some i => ((i : Int), stepErr ups downs i)
  | none => rulesTail ups hold ps
theorem rulesOut_eq (ups downs : List Int) (hold : Int) (ps : List S62) : rulesOut ups downs hold ps = if ups.length = 0 ∨ downs.length ≠ ups.length then (0, 10) else if 5 < ups.length then (0, 8) else rulesSteps ups downs hold ps := by
  unfold rulesOut
  by_cases h0 : ups.length = 0 ∨ downs.length ≠ ups.length
  · rw [if_pos h0]
    have hb : (decide (0 < (ups.length : Int)) && ((downs.length : Int) == (ups.length : Int))) = false := by
      rw [Bool.and_eq_false_iff]
      rcases h0 with h0 | h0
      · left; exact decide_eq_false (by omega)
      · right; exact beq_eq_false_iff_ne.2 (by omega)
    rw [hb]; simp [firstI, unlessI]
  · rw [if_neg h0]
    have hb : (decide (0 < (ups.length : Int)) && ((downs.length : Int) == (ups.length : Int))) = true := by
      rw [Bool.and_eq_true]
      exact ⟨decide_eq_true (by omega), beq_iff_eq.2 (by omega)⟩
    rw [hb]
    by_cases h5 : 5 < ups.length
    · rw [if_pos h5, show decide ((ups.length : Int) ≤ 5) = false from decide_eq_false (by omega)]; simp [firstI, unlessI]
    · rw [if_neg h5, show decide ((ups.length : Int) ≤ 5) = true from decide_eq_true (by omega)]
      show (if (0 : Int) = 0 then _ else _) = _
      rw [if_pos rfl]; rfl
set_option maxHeartbeats 8000000 in
set_option maxRecDepth 100000 in
theorem guidevaneref09_CheckRules.calls (A0_0 : Option Addr) (c0_0 : Nat) (l0_0 : List Int) (A0_1 : Option Addr) (c0_1 : Nat) (l0_1 : List Int) (a0_2 : Int) (A0_3 : Option Addr) (c0_3 : Nat) (l0_3 : List S62) (r1 : Int) (r2 : Int) (w : World) (hr0_0 : Kd.C (Kd.int .i64) w A0_0 l0_0.length l0_0) (hc0_0 : l0_0.length ≤ c0_0) (hr0_1 : Kd.C (Kd.int .i64) w A0_1 l0_1.length l0_1) (hc0_1 : l0_1.length ≤ c0_1) (hr0_3 : Kd.C k62 w A0_3 l0_3.length l0_3) (hc0_3 : l0_3.length ≤ c0_3) (h : guidevaneref09_CheckRules.f l0_0 l0_1 a0_2 l0_3 = some (r1, r2)) :
    Calls Tryz.prog 66 #[.agg #[.slice A0_0 l0_0.length c0_0, .slice A0_1 l0_1.length c0_1, .int .i64 a0_2, .slice A0_3 l0_3.length c0_3]] w fun e w' => e = .returned (.tuple #[.int .i64 r1, .int .i64 r2]) ∧ Below w.heap.size w w' := by
  have hu1 := Tryz.underlying25
  have hu2 := Tryz.underlying62
  have hh : (l0_0.length ≤ 1000 ∧ l0_3.length ≤ 1000 ∧ ∀ p ∈ l0_3, p.f0.size ≤ 1000) ∧ rulesOut l0_0 l0_1 a0_2 l0_3 = (r1, r2) := by
    unfold guidevaneref09_CheckRules.f at h
    split at h
    · exact ⟨by assumption, Option.some.inj h⟩
    · exact absurd h (by simp)
  obtain ⟨⟨hn0, hn3, hnm⟩, hout⟩ := hh
  rw [rulesOut_eq] at hout
  have hm1 : l0_1.length ≤ 9223372036854775807 := hr0_1.2.1
  have HR0 := Aside0.mk hr0_0
  have HR1 := Aside0.mk hr0_1
  have HR3 := Aside0.mk hr0_3
  have HC := Aside0.mk (And.intro hc0_0 (And.intro hc0_1 hc0_3))
  have HNM := Aside0.mk hnm
  have HOUT := Aside0.mk hout
  clear h hnm hout hr0_0 hr0_1 hr0_3 hc0_0 hc0_1 hc0_3
  have hcs : (((l0_0.length : Int) == 0) = true ∧ (r1, r2) = ((0, 10) : Int × Int)) ∨ (((l0_0.length : Int) == 0) = false ∧ ((l0_1.length : Int) != (l0_0.length : Int)) = true ∧ (r1, r2) = ((0, 10) : Int × Int))
      ∨ (((l0_0.length : Int) == 0) = false ∧ ((l0_1.length : Int) != (l0_0.length : Int)) = false ∧ 5 < (l0_0.length : Int) ∧ (r1, r2) = ((0, 8) : Int × Int))
      ∨ (((l0_0.length : Int) == 0) = false ∧ ((l0_1.length : Int) != (l0_0.length : Int)) = false ∧ ¬ 5 < (l0_0.length : Int) ∧ (rulesSteps l0_0 l0_1 a0_2 l0_3 = (r1, r2) ∧ l0_1.length = l0_0.length)) := by
    have ho := HOUT.out
    by_cases h0 : l0_0.length = 0
    · rw [if_pos (.inl h0)] at ho
      exact .inl ⟨beq_iff_eq.2 (by omega), ho.symm⟩
    · by_cases h1 : l0_1.length = l0_0.length
      · rw [if_neg (by omega)] at ho
        by_cases h5 : 5 < l0_0.length
        · rw [if_pos h5] at ho
          exact .inr (.inr (.inl ⟨beq_eq_false_iff_ne.2 (by omega), by rw [bne_eq_false_iff_eq]; omega, by omega, ho.symm⟩))
        · rw [if_neg h5] at ho
          exact .inr (.inr (.inr ⟨beq_eq_false_iff_ne.2 (by omega), by rw [bne_eq_false_iff_eq]; omega, by omega, ho, h1⟩))
      · rw [if_pos (.inr h1)] at ho
        exact .inr (.inl ⟨beq_eq_false_iff_ne.2 (by omega), by rw [bne_iff_ne]; omega, ho.symm⟩)
  clear HOUT
  obtain ⟨w1, hw, hX, hb1⟩ := alloc1 w #[.slice A0_0 l0_0.length c0_0, .slice A0_1 l0_1.length c0_1, .int .i64 a0_2, .slice A0_3 l0_3.length c0_3] 25
  obtain ⟨hx0, hx1, hx2, hx3⟩ := cells4 hX
  have HX := Aside0.mk hX
  have HB1 := Aside0.mk hb1
  have HW := Aside0.mk hw
  clear hX hb1 hw
  rcases hcs with ⟨h1, h2⟩ | ⟨h1, h2, h3⟩ | ⟨h1, h2, h3, h4⟩ | ⟨h1, h2, h3, h4⟩
  · simp only [Prod.mk.injEq] at h2
    obtain ⟨rfl, rfl⟩ := h2
    go_enter Tryz.func66, Tryz.ntmps66
    go_upto_region 1 with fail
    rw [← HW.out]
    go_wp2
    go_ret2
    exact ⟨rfl, HB1.out⟩
  · simp only [Prod.mk.injEq] at h3
    obtain ⟨rfl, rfl⟩ := h3
    go_enter Tryz.func66, Tryz.ntmps66
    go_upto_region 1 with fail
    rw [← HW.out]
    go_wp2
    go_ret2
    exact ⟨rfl, HB1.out⟩
  · simp only [Prod.mk.injEq] at h4
    obtain ⟨rfl, rfl⟩ := h4
    go_enter Tryz.func66, Tryz.ntmps66
    go_upto_region 1 with fail
    rw [← HW.out]
    go_wp2
    go_ret2
    exact ⟨rfl, HB1.out⟩
  · obtain ⟨hst, hdl⟩ := h4
    have HST := Aside0.mk hst
    have HDL := Aside0.mk hdl
    have h5 : l0_0.length ≤ 5 := by omega
    clear hst hdl
    go_enter Tryz.func66, Tryz.ntmps66
    go_upto_region 1 with fail
    rw [← HW.out]
    clear HW
    go_wp2
    go_loopg [4] l0_0.length (fun gg s4 wr => ∃ i : Nat, i ≤ l0_0.length ∧ l0_0.length - i ≤ gg ∧ s4 = .int .i64 i ∧ Aside0 (∀ j, j < i → stepErr l0_0 l0_1 j = 0) ∧ Aside0 (Below w1.heap.size w1 wr))
    case atStart => exact ⟨0, by omega, by omega, rfl, ⟨fun j hj => absurd hj (by omega)⟩, ⟨Below.refl _ _⟩⟩
    case round =>
      obtain ⟨i, hi, hgg, rfl, HJ, HB⟩ := hrel
      clear hx0 hx1 hx2 hx3 h1 h2 h3
      have HBw := Aside0.mk (below_weaken HB1.out HB1.out.size HB.out)
      obtain ⟨hx0, hx1, hx2, hx3⟩ := cells4 (blk_below HX.out HB.out)
      by_cases hin : i < l0_0.length
      case pos =>
        have hlt : (i : Int) < (l0_0.length : Int) := by omega
        have hlt1 : (i : Int) < (l0_1.length : Int) := by have := HDL.out; omega
        have hi0 : (0 : Int) ≤ (i : Int) := by omega
        obtain ⟨ad0, e1, hy0⟩ := Kd.at_int (Kd.C_below HR0.out HBw.out) (i : Int) hi0 hlt
        cases e1
        obtain ⟨ad1, e1, hy1⟩ := Kd.at_int (Kd.C_below HR1.out HBw.out) (i : Int) hi0 hlt1
        cases e1
        obtain ⟨_, e1, hz0⟩ := Kd.at_int (Kd.C_below HR0.out HBw.out) ((i - 1 : Nat) : Int) (by omega) (by omega)
        cases e1
        obtain ⟨_, e1, hz1⟩ := Kd.at_int (Kd.C_below HR1.out HBw.out) ((i - 1 : Nat) : Int) (by omega) (by omega)
        cases e1
        rw [show rd l0_0 (i : Int) = l0_0.getD i 0 from rfl, Int.toNat_natCast] at hy0
        rw [show rd l0_1 (i : Int) = l0_1.getD i 0 from rfl, Int.toNat_natCast] at hy1
        rw [show rd l0_0 ((i - 1 : Nat) : Int) = l0_0.getD (i - 1) 0 from rfl, Int.toNat_natCast] at hz0
        rw [show rd l0_1 ((i - 1 : Nat) : Int) = l0_1.getD (i - 1) 0 from rfl, Int.toNat_natCast] at hz1
        have HBAD := Aside0.mk (show ∀ e, stepErr l0_0 l0_1 i = e → ¬ e = 0 → r1 = (i : Int) ∧ r2 = e from by
          intro e he hne
          have hs := HST.out
          unfold rulesSteps at hs
          rw [firstBad_some hin HJ.out (by rw [he]; exact hne)] at hs
          simp only [Prod.mk.injEq] at hs
          exact ⟨hs.1.symm, by rw [← hs.2, he]⟩)
        obtain ⟨se, hse⟩ : ∃ se, se = stepErr l0_0 l0_1 i := ⟨_, rfl⟩
        rw [← hse] at HBAD
        have HSE := Aside0.mk hse
        unfold stepErr at hse
        have HW1 := Aside0.mk (bw_f (l0_0.getD i 0) 1 1000000)
        have HW2 := Aside0.mk (bw_f (l0_1.getD i 0) 1 1000000)
        rw [show (decide (1 ≤ l0_0.getD i 0) && decide (l0_0.getD i 0 ≤ 1000000)) = isThr (l0_0.getD i 0) from rfl] at HW1
        rw [show (decide (1 ≤ l0_1.getD i 0) && decide (l0_1.getD i 0 ≤ 1000000)) = isThr (l0_1.getD i 0) from rfl] at HW2
        generalize isThr (l0_0.getD i 0) = b1 at *
        generalize isThr (l0_1.getD i 0) = b2 at *
        generalize l0_0.getD i 0 = u at *
        generalize l0_1.getD i 0 = d at *
        generalize l0_0.getD (i - 1) 0 = u' at *
        generalize l0_1.getD (i - 1) 0 = d' at *
        have HQ := Aside0.mk hse
        have HBB := Aside0.mk (Below.refl wr.heap.size wr)
        clear hse hx2 hx3
        cases b1
        · have hq := (HBAD.out 2 (by rw [HQ.out]; simp [firstI, unlessI]) (by decide))
          obtain ⟨rfl, rfl⟩ := hq
          clear HQ HBAD HSE
          go_wp2_with (go_at_call 29; refine (guidevanebase_Within.calls _ _ _ _ _ HW1.out).mono ?_; rintro e w3 ⟨rfl, hd⟩; have hb := hd.below; have hx0 := (hb.cell (World.block_lt_of_cell? _ _ hx0)).trans hx0; have hx1 := (hb.cell (World.block_lt_of_cell? _ _ hx1)).trans hx1; have hy0 := (hb.cell (World.block_lt_of_cell? _ _ hy0)).trans hy0; have hy1 := (hb.cell (World.block_lt_of_cell? _ _ hy1)).trans hy1; have hz0 := (hb.cell (World.block_lt_of_cell? _ _ hz0)).trans hz0; have hz1 := (hb.cell (World.block_lt_of_cell? _ _ hz1)).trans hz1; have HBB := Aside0.mk (below_step HBB.out hb); clear hb hd)
          go_ret2
          exact ⟨rfl, below_step HBw.out HBB.out⟩
        · cases b2
          · have hq := (HBAD.out 2 (by rw [HQ.out]; simp [firstI, unlessI]) (by decide))
            obtain ⟨rfl, rfl⟩ := hq
            clear HQ HBAD HSE
            go_wp2_with (first | (go_at_call 29; refine (guidevanebase_Within.calls _ _ _ _ _ HW1.out).mono ?_; rintro e w3 ⟨rfl, hd⟩; have hb := hd.below; have hx0 := (hb.cell (World.block_lt_of_cell? _ _ hx0)).trans hx0; have hx1 := (hb.cell (World.block_lt_of_cell? _ _ hx1)).trans hx1; have hy0 := (hb.cell (World.block_lt_of_cell? _ _ hy0)).trans hy0; have hy1 := (hb.cell (World.block_lt_of_cell? _ _ hy1)).trans hy1; have hz0 := (hb.cell (World.block_lt_of_cell? _ _ hz0)).trans hz0; have hz1 := (hb.cell (World.block_lt_of_cell? _ _ hz1)).trans hz1; have HBB := Aside0.mk (below_step HBB.out hb); clear hb hd; clear HW1) | (go_at_call 29; refine (guidevanebase_Within.calls _ _ _ _ _ HW2.out).mono ?_; rintro e w3 ⟨rfl, hd⟩; have hb := hd.below; have hx0 := (hb.cell (World.block_lt_of_cell? _ _ hx0)).trans hx0; have hx1 := (hb.cell (World.block_lt_of_cell? _ _ hx1)).trans hx1; have hy0 := (hb.cell (World.block_lt_of_cell? _ _ hy0)).trans hy0; have hy1 := (hb.cell (World.block_lt_of_cell? _ _ hy1)).trans hy1; have hz0 := (hb.cell (World.block_lt_of_cell? _ _ hz0)).trans hz0; have hz1 := (hb.cell (World.block_lt_of_cell? _ _ hz1)).trans hz1; have HBB := Aside0.mk (below_step HBB.out hb); clear hb hd))
            go_ret2
            exact ⟨rfl, below_step HBw.out HBB.out⟩
          · go_upto_region 10 with (first | (go_at_call 29; refine (guidevanebase_Within.calls _ _ _ _ _ HW1.out).mono ?_; rintro e w3 ⟨rfl, hd⟩; have hb := hd.below; have hx0 := (hb.cell (World.block_lt_of_cell? _ _ hx0)).trans hx0; have hx1 := (hb.cell (World.block_lt_of_cell? _ _ hx1)).trans hx1; have hy0 := (hb.cell (World.block_lt_of_cell? _ _ hy0)).trans hy0; have hy1 := (hb.cell (World.block_lt_of_cell? _ _ hy1)).trans hy1; have hz0 := (hb.cell (World.block_lt_of_cell? _ _ hz0)).trans hz0; have hz1 := (hb.cell (World.block_lt_of_cell? _ _ hz1)).trans hz1; have HBB := Aside0.mk (below_step HBB.out hb); clear hb hd; clear HW1) | (go_at_call 29; refine (guidevanebase_Within.calls _ _ _ _ _ HW2.out).mono ?_; rintro e w3 ⟨rfl, hd⟩; have hb := hd.below; have hx0 := (hb.cell (World.block_lt_of_cell? _ _ hx0)).trans hx0; have hx1 := (hb.cell (World.block_lt_of_cell? _ _ hx1)).trans hx1; have hy0 := (hb.cell (World.block_lt_of_cell? _ _ hy0)).trans hy0; have hy1 := (hb.cell (World.block_lt_of_cell? _ _ hy1)).trans hy1; have hz0 := (hb.cell (World.block_lt_of_cell? _ _ hz0)).trans hz0; have hz1 := (hb.cell (World.block_lt_of_cell? _ _ hz1)).trans hz1; have HBB := Aside0.mk (below_step HBB.out hb); clear hb hd))
            clear HW2
            by_cases hdu : u < d
            · have hq := (HBAD.out 3 (by rw [HQ.out, show decide (d ≤ u) = false from decide_eq_false (by omega)]; simp [firstI, unlessI]) (by decide))
              obtain ⟨rfl, rfl⟩ := hq
              clear HQ HBAD HSE hz0 hz1
              go_quiet (fail)
              go_wp2
              go_ret2
              exact ⟨rfl, below_step HBw.out (by repeat (first | exact HBB.out | apply pw_below_drewN | apply below_drew))⟩
            · have hq := HQ.out
              rw [show decide (d ≤ u) = true from decide_eq_true (by omega)] at hq
              have HQ := Aside0.mk hq
              clear hq
              go_quiet (fail)
              go_upto_region 12 with fail
              have HBB2 := Aside0.mk (show Below wr.heap.size wr _ from pw_below_drewN HBB.out nq)
              have hx0 : (w3.drewN nq).cell? ⟨w.heap.size, 0, none⟩ = _ := hx0
              have hx1 : (w3.drewN nq).cell? ⟨w.heap.size, 1, none⟩ = _ := hx1
              have hy0 : (w3.drewN nq).cell? (ad0.add i) = _ := hy0
              have hy1 : (w3.drewN nq).cell? (ad1.add i) = _ := hy1
              have hz0 : (w3.drewN nq).cell? (ad0.add (i - 1)) = _ := hz0
              have hz1 : (w3.drewN nq).cell? (ad1.add (i - 1)) = _ := hz1
              generalize w3.drewN nq = w4 at *
              rcases Nat.eq_zero_or_pos i with hi1 | hi1
              · have hi2 : decide ((0 : Int) < (i : Int)) = false := decide_eq_false (by omega)
                have hi3 : decide (0 < i) = false := decide_eq_false (by omega)
                have hi4 : ¬ 0 < i := by omega
                have HZ := Aside0.mk (show stepErr l0_0 l0_1 i = 0 by rw [← HSE.out, HQ.out, hi1]; simp [firstI, unlessI])
                clear hi1 hz0 hz1 HQ HBAD HSE
                go_quiet (fail)
                go_wp2
                go_roundg (l0_0.length - (i + 1))
                case measure => omega
                case rel =>
                  refine ⟨i + 1, by omega, by omega, by go_num, ⟨fun j hj => ?_⟩, ⟨below_step HB.out (by repeat (first | exact HBB2.out | apply pw_below_drewN | apply below_drew))⟩⟩
                  by_cases e : j = i
                  · subst e; exact HZ.out
                  · exact HJ.out j (by omega)
              · obtain ⟨m, rfl⟩ : ∃ m, i = m + 1 := ⟨i - 1, by omega⟩
                rw [show m + 1 - 1 = m by omega] at hz0 hz1
                have hy0 : w4.cell? ⟨ad0.block, ad0.off + (m + 1), none⟩ = some (.int .i64 u) := by have := hy0; simpa [Addr.add] using this
                have hy1 : w4.cell? ⟨ad1.block, ad1.off + (m + 1), none⟩ = some (.int .i64 d) := by have := hy1; simpa [Addr.add] using this
                have hi2 : (0 : Int) < (m : Int) + 1 := by omega
                have hi3 : decide ((0 : Int) < (m : Int) + 1) = true := decide_eq_true hi2
                have hp0 : (0 : Int) ≤ (m : Int) + 1 := by omega
                have hp1 : (m : Int) + 1 < (l0_0.length : Int) := by omega
                have hp2 : (m : Int) + 1 < (l0_1.length : Int) := by omega
                have hp3 : ((m : Int) + 1).toNat = m + 1 := by omega
                have hs1 : IntKind.i64.wrap ((m : Int) + 1 - 1) = (m : Int) := by simp [IntKind.wrap, IntKind.signed, IntKind.bits]; omega
                have hs2 : IntKind.i64.wrap (m : Int) = (m : Int) := by simp [IntKind.wrap, IntKind.signed, IntKind.bits]; omega
                have hm0 : (0 : Int) ≤ (m : Int) := by omega
                have hml : (m : Int) < (l0_0.length : Int) := by omega
                have hml1 : (m : Int) < (l0_1.length : Int) := by omega
                have hq0 := HQ.out
                rw [show (m + 1 == 0) = false from rfl, Bool.false_or] at hq0
                have HQ := Aside0.mk hq0
                clear hq0 hi1
                by_cases hc1 : u ≤ u'
                · have hq := (HBAD.out 9 (by rw [HQ.out, show decide (u > u') = false from decide_eq_false (by omega)]; simp [firstI, unlessI]) (by decide))
                  obtain ⟨rfl, rfl⟩ := hq
                  clear HQ HBAD HSE
                  go_quiet (fail)
                  go_wp2
                  go_ret2
                  exact ⟨rfl, below_step HBw.out (by repeat (first | exact HBB2.out | apply pw_below_drewN | apply below_drew))⟩
                · have hc3 : decide (u ≤ u') = false := decide_eq_false hc1
                  by_cases hc2 : d < d'
                  · have hq := (HBAD.out 9 (by rw [HQ.out, show decide (d ≥ d') = false from decide_eq_false (by omega)]; simp [firstI, unlessI]) (by decide))
                    obtain ⟨rfl, rfl⟩ := hq
                    clear HQ HBAD HSE
                    go_quiet (fail)
                    go_wp2
                    go_ret2
                    exact ⟨rfl, below_step HBw.out (by repeat (first | exact HBB2.out | apply pw_below_drewN | apply below_drew))⟩
                  · have HZ := Aside0.mk (show stepErr l0_0 l0_1 (m + 1) = 0 by rw [← HSE.out, HQ.out, show decide (u > u') = true from decide_eq_true (by omega), show decide (d ≥ d') = true from decide_eq_true (by omega)]; simp [firstI, unlessI])
                    clear HQ HBAD HSE
                    go_quiet (fail)
                    go_wp2
                    go_roundg (l0_0.length - (m + 1 + 1))
                    case measure => omega
                    case rel =>
                      refine ⟨m + 1 + 1, by omega, by omega, by go_num, ⟨fun j hj => ?_⟩, ⟨below_step HB.out (by repeat (first | exact HBB2.out | apply pw_below_drewN | apply below_drew))⟩⟩
                      by_cases e : j = m + 1
                      · subst e; exact HZ.out
                      · exact HJ.out j (by omega)
      case neg =>
        obtain rfl : i = l0_0.length := by omega
        have hs := HST.out
        unfold rulesSteps at hs
        rw [firstBad_none HJ.out] at hs
        simp only at hs
        unfold rulesTail at hs
        have HW1 := Aside0.mk (bw_f a0_2 0 1000000)
        generalize (decide (0 ≤ a0_2) && decide (a0_2 ≤ 1000000)) = b1 at *
        have HS := Aside0.mk hs
        have HBB := Aside0.mk (Below.refl wr.heap.size wr)
        clear hs HST
        cases b1
        · have hs := HS.out
          simp only [firstI, unlessI] at hs
          simp at hs
          obtain ⟨rfl, rfl⟩ := hs
          clear HS
          go_wp2_with (go_at_call 29; refine (guidevanebase_Within.calls _ _ _ _ _ HW1.out).mono ?_; rintro e w3 ⟨rfl, hd⟩; have HBB := Aside0.mk hd.below; clear hd)
          go_ret2
          exact ⟨rfl, below_step HBw.out HBB.out⟩
        · go_upto_region 16 with (go_at_call 29; refine (guidevanebase_Within.calls _ _ _ _ _ HW1.out).mono ?_; rintro e w3 ⟨rfl, hd⟩; have HBB := Aside0.mk hd.below; clear hd)
          have hbb := below_step HBw.out HBB.out
          have hXX := blk_below (blk_below HX.out HB.out) HBB.out
          clear hx0 hx1 hx2 hx3
          generalize w3 = w5 at *
          have HB5 := Aside0.mk hbb
          have HX5 := Aside0.mk hXX
          obtain ⟨hx0, hx1, hx2, hx3⟩ := cells4 hXX
          clear hbb HBB HBw HB
          by_cases hp : 10 < (l0_3.length : Int)
          · have hs := HS.out
            rw [show decide ((l0_3.length : Int) ≤ 10) = false from decide_eq_false (by omega)] at hs
            simp only [firstI, unlessI] at hs
            simp at hs
            obtain ⟨rfl, rfl⟩ := hs
            clear HS
            go_wp2
            go_ret2
            exact ⟨rfl, HB5.out⟩
          · have hs := HS.out
            rw [show decide ((l0_3.length : Int) ≤ 10) = true from decide_eq_true (by omega)] at hs
            simp only [firstI, unlessI] at hs
            simp only [if_true] at hs
            have HS := Aside0.mk hs
            clear hs
            go_wp2
            go_loopg [5] l0_3.length (fun gg s5 wr => ∃ i : Nat, i ≤ l0_3.length ∧ l0_3.length - i ≤ gg ∧ s5 = .int .i64 i ∧ Aside0 (∀ j, j < i → personErr l0_3 l0_0.length z62 j = 0) ∧ Aside0 (Below w5.heap.size w5 wr))
            case atStart => exact ⟨0, by omega, by omega, rfl, ⟨fun j hj => absurd hj (by omega)⟩, ⟨Below.refl _ _⟩⟩
            case round =>
              obtain ⟨i, hi, hgg, rfl, HJ, HB⟩ := hrel
              clear hx0 hx1 hx2 hx3 hp
              have HBw := Aside0.mk (below_weaken HB5.out HB5.out.size HB.out)
              obtain ⟨hx0, hx1, hx2, hx3⟩ := cells4 (blk_below HX5.out HB.out)
              by_cases hin : i < l0_3.length
              case neg =>
                obtain rfl : i = l0_3.length := by omega
                have hs := HS.out
                unfold personsOut at hs
                rw [firstBad_none HJ.out] at hs
                simp only [Prod.mk.injEq] at hs
                obtain ⟨rfl, rfl⟩ := hs
                go_wp2
                go_ret2
                exact ⟨rfl, HBw.out⟩
              case pos =>
                have hlt : (i : Int) < (l0_3.length : Int) := by omega
                have hi0 : (0 : Int) ≤ (i : Int) := by omega
                obtain ⟨ad, e1, hv0, hv1⟩ := at_T62 (Kd.C_below HR3.out HBw.out) (i : Int) hi0 hlt
                cases e1
                rw [rdPe, Int.toNat_natCast] at hv0 hv1
                have hti : (l0_3.take i).length = i := by simp; omega
                have hcc := HC.out.2.2
                have hic : (i : Int) ≤ (c0_3 : Int) := by omega
                obtain ⟨x, hx⟩ : ∃ x, x = l0_3.getD i z62 := ⟨_, rfl⟩
                rw [← hx] at hv0 hv1
                have hxm : x ∈ l0_3 := by rw [hx, List.getD_eq_getElem?_getD, List.getElem?_eq_getElem hin]; exact List.getElem_mem hin
                obtain ⟨q, hq⟩ : ∃ q, q = idxF (fun o : S62 => o.f0.toList == x.f0.toList) (l0_3.take i) := ⟨_, rfl⟩
                have HF := Aside0.mk (show ∀ W, Below wr.heap.size wr W → Calls Tryz.prog 68 #[.slice (some ad) i c0_3, .string x.f0] W fun e w' => e = .returned (.int .i64 q) ∧ Drawn0 W w' from by
                  intro W hb
                  have h1 := guidevaneref09_find.calls 1001 (some ad) c0_3 (l0_3.take i) x.f0 q W (Kd.C_take (Kd.C_below HR3.out (below_weaken HBw.out HBw.out.size hb)) hi) (by rw [hti]; omega) ((rfind_f _ _ (by rw [hti]; omega)).trans (by rw [hq]))
                  rw [hti] at h1
                  exact h1)
                have HNf := Aside0.mk (show guidevanebase_IsName.f x.f0 = some (nameOk x.f0) from by unfold guidevanebase_IsName.f; rw [if_pos (by have := HNM.out x hxm; omega)])
                have HWf := Aside0.mk (bw_f x.f1 1 (l0_0.length : Int))
                have hany := idxF_any (fun o : S62 => o.f0.toList == x.f0.toList) (l0_3.take i)
                rw [← hq] at hany
                obtain ⟨es, hes⟩ : ∃ es, es = personErr l0_3 l0_0.length z62 i := ⟨_, rfl⟩
                have HES := Aside0.mk hes
                unfold personErr at hes
                rw [← hx, ← hany] at hes
                obtain ⟨bn, hbn⟩ : ∃ bn, bn = nameOk x.f0 := ⟨_, rfl⟩
                obtain ⟨bw, hbw⟩ : ∃ bw, bw = (decide (1 ≤ x.f1) && decide (x.f1 ≤ (l0_0.length : Int))) := ⟨_, rfl⟩
                rw [← hbn] at HNf hes
                rw [← hbw] at HWf hes
                have HQ := Aside0.mk hes
                have HBAD := Aside0.mk (show ¬ es = 0 → r1 = (i : Int) ∧ r2 = es from by
                  intro hne
                  have hs := HS.out
                  unfold personsOut at hs
                  rw [firstBad_some hin HJ.out (by rw [← HES.out]; exact hne)] at hs
                  simp only [Prod.mk.injEq] at hs
                  exact ⟨hs.1.symm, by rw [← hs.2, ← HES.out]⟩)
                obtain ⟨nm, hnm⟩ : ∃ nm, nm = x.f0 := ⟨_, rfl⟩
                obtain ⟨rk, hrk⟩ : ∃ rk, rk = x.f1 := ⟨_, rfl⟩
                rw [← hnm] at HNf HF hv0
                rw [← hrk] at HWf hv1
                clear hes hany hbn hbw hq hx hxm hnm hrk hti hx1 hx2 HS
                have HIN := Aside0.mk hin
                cases bn
                · have he4 : es = 4 := by rw [HQ.out]; simp [firstI, unlessI]
                  obtain ⟨rfl, rfl⟩ := HBAD.out (by omega)
                  subst he4
                  clear HQ HBAD HES HF
                  go_wp2_with (go_at_call 67; refine (guidevanebase_IsName.calls _ _ _ HNf.out).mono ?_; rintro e w3 ⟨rfl, hd⟩; have HD := Aside0.mk hd; clear hd)
                  go_ret2
                  exact ⟨rfl, below_step HBw.out HD.out⟩
                · have HBB := Aside0.mk (Below.refl wr.heap.size wr)
                  go_upto_region 23 with (go_at_call 67; refine (guidevanebase_IsName.calls _ _ _ HNf.out).mono ?_; rintro e w3 ⟨rfl, hb⟩; have hx0 := (hb.cell (World.block_lt_of_cell? _ _ hx0)).trans hx0; have hx3 := (hb.cell (World.block_lt_of_cell? _ _ hx3)).trans hx3; have hv0 := (hb.cell (World.block_lt_of_cell? _ _ hv0)).trans hv0; have hv1 := (hb.cell (World.block_lt_of_cell? _ _ hv1)).trans hv1; have HBB := Aside0.mk (below_step HBB.out hb); clear hb)
                  go_region_held3 (fun w' => w'.cell? ⟨w.heap.size, 0, none⟩ = some (.slice A0_0 l0_0.length c0_0) ∧ w'.cell? ⟨w.heap.size, 3, none⟩ = some (.slice (some ad) l0_3.length c0_3) ∧ w'.cell? (ad.add (i * 2)) = some (.string nm) ∧ w'.cell? ⟨(ad.add (i * 2)).block, (ad.add (i * 2)).off + 1, none⟩ = some (.int .i64 rk) ∧ Below w3.heap.size w3 w')
                    ((refine keep4 hx0 hx3 hv0 hv1 ?_; repeat (first | assumption | exact Below.refl _ _ | apply pw_below_drewN | apply below_drew | apply below_alloc | (iterate 4 apply And.right; assumption) | refine below_step ?_ (by assumption))))
                    (first | (go_at_call 68; refine (HF.out _ (below_step HBB.out (by (repeat (first | assumption | exact Below.refl _ _ | apply pw_below_drewN | apply below_drew | (iterate 4 apply And.right; assumption)))))).mono ?_; rintro e w4 ⟨rfl, hb3⟩; have hb4 := hb3.below; clear hb3))
                  have hb5 : Below w3.heap.size w3 w4 := below_step (below_drew (Below.refl _ _)) hb4
                  have hx0 := (hb5.cell (World.block_lt_of_cell? _ _ hx0)).trans hx0
                  have hx3 := (hb5.cell (World.block_lt_of_cell? _ _ hx3)).trans hx3
                  have hv1 := (hb5.cell (World.block_lt_of_cell? _ _ hv1)).trans hv1
                  have HB4 := Aside0.mk (below_step HBB.out hb5)
                  clear hb4 hb5 HF HBB hv0
                  by_cases hq0 : 0 ≤ q
                  · have he5 : es = 5 := by rw [HQ.out, show decide (0 ≤ q) = true from decide_eq_true hq0]; simp [firstI, unlessI]
                    obtain ⟨rfl, rfl⟩ := HBAD.out (by omega)
                    subst he5
                    clear HQ HBAD HES hx0 hx3 hv1
                    go_wp2
                    go_ret2
                    exact ⟨rfl, below_step HBw.out HB4.out⟩
                  · have hqe := HQ.out
                    rw [show decide (0 ≤ q) = false from decide_eq_false hq0] at hqe
                    have HQ := Aside0.mk hqe
                    clear hqe
                    go_upto_region 25 with fail
                    go_region_held3 (fun w' => w'.cell? ⟨w.heap.size, 0, none⟩ = some (.slice A0_0 l0_0.length c0_0) ∧ w'.cell? ⟨w.heap.size, 3, none⟩ = some (.slice (some ad) l0_3.length c0_3) ∧ w'.cell? ⟨(ad.add (i * 2)).block, (ad.add (i * 2)).off + 1, none⟩ = some (.int .i64 rk) ∧ w'.cell? ⟨(ad.add (i * 2)).block, (ad.add (i * 2)).off + 1, none⟩ = some (.int .i64 rk) ∧ Below w4.heap.size w4 w')
                      ((refine keep4 hx0 hx3 hv1 hv1 ?_; repeat (first | assumption | exact Below.refl _ _ | apply pw_below_drewN | apply below_drew | apply below_alloc | (iterate 4 apply And.right; assumption) | refine below_step ?_ (by assumption))))
                      (first | (go_at_call 29; refine (guidevanebase_Within.calls _ _ _ _ _ HWf.out).mono ?_; rintro e w6 ⟨rfl, hb3⟩; have hb4 := hb3.below; clear hb3))
                    have hb5 : Below w4.heap.size w4 w6 := below_step (below_drew (Below.refl _ _)) hb4
                    have HB6 := Aside0.mk (below_step HB4.out hb5)
                    clear hb4 hb5 hx0 hx3 hv1
                    cases bw
                    · have he2 : es = 2 := by rw [HQ.out]; simp [firstI, unlessI]
                      obtain ⟨rfl, rfl⟩ := HBAD.out (by omega)
                      subst he2
                      clear HQ HBAD HES
                      go_wp2
                      go_ret2
                      exact ⟨rfl, below_step HBw.out HB6.out⟩
                    · have HZ := Aside0.mk (show personErr l0_3 l0_0.length z62 i = 0 by rw [← HES.out, HQ.out]; simp [firstI, unlessI])
                      clear HQ HBAD HES
                      go_wp2
                      go_roundg (l0_3.length - (i + 1))
                      case measure => omega
                      case rel =>
                        refine ⟨i + 1, by omega, by omega, by go_num, ⟨fun j hj => ?_⟩, ⟨below_step HB.out HB6.out⟩⟩
                        by_cases e : j = i
                        · subst e; exact HZ.out
                        · exact HJ.out j (by omega)
end Go.Proofs.YteopooljohdoiaaGreat.Px
namespace Go.Proofs.YteopooljohdoiaaGreat.Px
open Go.RowKit Go.Proofs.YteopooljohdoiaaGreatW.PrintWords Go.Proofs.YteopooljohdoiaaGreatW.PrintLast Go.Proofs.YteopooljohdoiaaGreatW.PrintMore
attribute [local go_sem] max2_int min2_int max_two min_two max_three min_three max_four min_four
mutual
def guidevanelaw09_fewRules.j0 : Nat → Bool → List Int → List Int → Int → List (S62) → Option (Bool)
  | 0, _, _, _, _, _ => none
  | k + 1, x19, x33002000, x33002001, x33002002, x33002003 => if x19 = true then (some false) else (guidevanelaw09_fewRules.l0 k 0 x33002000 x33002001 x33002002 x33002003)
def guidevanelaw09_fewRules.l0 : Nat → Int → List Int → List Int → Int → List (S62) → Option (Bool)
  | 0, _, _, _, _, _ => none
  | k + 1, x3, x33002000, x33002001, x33002002, x33002003 => if x3 < (x33002003.length : Int) then (if 0 ≤ x3 then (if (((rd_T62 x33002003 x3).f0).size : Int) > 30 then (some false) else (guidevanelaw09_fewRules.l0 k (wrap64 (x3 + 1)) x33002000 x33002001 x33002002 x33002003)) else (none)) else (some true)
end
def guidevanelaw09_fewRules.f (k : Nat) (l0_0 : List Int) (l0_1 : List Int) (a0_2 : Int) (l0_3 : List (S62)) : Option (Bool) := if (l0_0.length : Int) > 7 then (guidevanelaw09_fewRules.j0 k true l0_0 l0_1 a0_2 l0_3) else (if (l0_1.length : Int) > 7 then (guidevanelaw09_fewRules.j0 k true l0_0 l0_1 a0_2 l0_3) else (guidevanelaw09_fewRules.j0 k (decide ((l0_3.length : Int) > 12)) l0_0 l0_1 a0_2 l0_3))
theorem guidevanelaw09_fewRules.mono_l : ∀ k, (∀ y0 y1 y2 y3 y4, LeO (guidevanelaw09_fewRules.j0 k y0 y1 y2 y3 y4) (guidevanelaw09_fewRules.j0 (k + 1) y0 y1 y2 y3 y4)) ∧ (∀ y0 y1 y2 y3 y4, LeO (guidevanelaw09_fewRules.l0 k y0 y1 y2 y3 y4) (guidevanelaw09_fewRules.l0 (k + 1) y0 y1 y2 y3 y4))
  | 0 => ⟨fun _ _ _ _ _ r h => by simp [guidevanelaw09_fewRules.j0] at h, fun _ _ _ _ _ r h => by simp [guidevanelaw09_fewRules.l0] at h⟩
  | k + 1 => by
    obtain ⟨ih0, ih1⟩ := guidevanelaw09_fewRules.mono_l k
    refine ⟨?_, ?_⟩
    · intro y0 y1 y2 y3 y4
      unfold guidevanelaw09_fewRules.j0
      repeat' first
      | (with_reducible exact ih0 _ _ _ _ _)
      | (with_reducible exact ih1 _ _ _ _ _)
      | (with_reducible exact LeO.refl _)
      | (with_reducible exact LeO.none _)
      | (with_reducible refine LeO.ite ?_ ?_)
      | (with_reducible refine LeO.bind ?_ (fun _ => ?_))
      | exact ih0 _ _ _ _ _
      | exact ih1 _ _ _ _ _
      | exact LeO.none _
      | refine LeO.ite ?_ ?_
      | refine LeO.bind ?_ (fun _ => ?_)
    · intro y0 y1 y2 y3 y4
      unfold guidevanelaw09_fewRules.l0
      repeat' first
      | (with_reducible exact ih0 _ _ _ _ _)
      | (with_reducible exact ih1 _ _ _ _ _)
      | (with_reducible exact LeO.refl _)
      | (with_reducible exact LeO.none _)
      | (with_reducible refine LeO.ite ?_ ?_)
      | (with_reducible refine LeO.bind ?_ (fun _ => ?_))
      | exact ih0 _ _ _ _ _
      | exact ih1 _ _ _ _ _
      | exact LeO.none _
      | refine LeO.ite ?_ ?_
      | refine LeO.bind ?_ (fun _ => ?_)
theorem guidevanelaw09_fewRules.mono : ∀ a0 a1 a2 a3 k, LeO (guidevanelaw09_fewRules.f k a0 a1 a2 a3) (guidevanelaw09_fewRules.f (k + 1) a0 a1 a2 a3) := by
  intro a0 a1 a2 a3 k
  obtain ⟨ih0, ih1⟩ := guidevanelaw09_fewRules.mono_l k
  unfold guidevanelaw09_fewRules.f
  repeat' first
      | (with_reducible exact ih0 _ _ _ _ _)
      | (with_reducible exact ih1 _ _ _ _ _)
      | (with_reducible exact LeO.refl _)
      | (with_reducible exact LeO.none _)
      | (with_reducible refine LeO.ite ?_ ?_)
      | (with_reducible refine LeO.bind ?_ (fun _ => ?_))
      | exact ih0 _ _ _ _ _
      | exact ih1 _ _ _ _ _
      | exact LeO.none _
      | refine LeO.ite ?_ ?_
      | refine LeO.bind ?_ (fun _ => ?_)
set_option maxHeartbeats 8000000 in
set_option maxRecDepth 100000 in
theorem guidevanelaw09_fewRules.calls (k : Nat) (A0_0 : Option Addr) (c0_0 : Nat) (l0_0 : List Int) (A0_1 : Option Addr) (c0_1 : Nat) (l0_1 : List Int) (a0_2 : Int) (A0_3 : Option Addr) (c0_3 : Nat) (l0_3 : List (S62)) (r : Bool) (w : World) (hr0_0 : Kd.C (Kd.int .i64) w A0_0 l0_0.length l0_0) (hc0_0 : l0_0.length ≤ c0_0) (hr0_1 : Kd.C (Kd.int .i64) w A0_1 l0_1.length l0_1) (hc0_1 : l0_1.length ≤ c0_1) (hr0_3 : Kd.C k62 w A0_3 l0_3.length l0_3) (hc0_3 : l0_3.length ≤ c0_3) (h : guidevanelaw09_fewRules.f k l0_0 l0_1 a0_2 l0_3 = some r) :
    Calls Tryz.prog 11 #[.agg #[.slice A0_0 l0_0.length c0_0, .slice A0_1 l0_1.length c0_1, .int .i64 a0_2, .slice A0_3 l0_3.length c0_3]] w fun e w' => e = .returned (.bool r) ∧ Below w.heap.size w w' := by
  have hu25 := Tryz.underlying25
  have HR0_0 := Aside0.mk hr0_0
  have HC0_0 := Aside0.mk hc0_0
  clear hr0_0 hc0_0
  have HR0_1 := Aside0.mk hr0_1
  have HC0_1 := Aside0.mk hc0_1
  clear hr0_1 hc0_1
  have HR0_3 := Aside0.mk hr0_3
  have HC0_3 := Aside0.mk hc0_3
  clear hr0_3 hc0_3
  have HB := Aside0.mk (Below.refl w.heap.size w)
  have H : (if (l0_0.length : Int) > 7 then (guidevanelaw09_fewRules.j0 k true l0_0 l0_1 a0_2 l0_3) else (if (l0_1.length : Int) > 7 then (guidevanelaw09_fewRules.j0 k true l0_0 l0_1 a0_2 l0_3) else (guidevanelaw09_fewRules.j0 k (decide ((l0_3.length : Int) > 12)) l0_0 l0_1 a0_2 l0_3))) = some r := h
  clear h
  have HC2 := Aside0.mk H
  clear H
  go_enter Tryz.func11, Tryz.ntmps11
  go_upto_region 1 with (first | ((with_reducible refine gate_dst (N := 1) rfl ?_); (try (refine gate_guard (by rfl) ?_; dsimp only)); refine box_event ?hg (N := 1) ?hd (cs := #[.slice A0_0 l0_0.length c0_0, .slice A0_1 l0_1.length c0_1, .int .i64 a0_2, .slice A0_3 l0_3.length c0_3]) (t := 25) ?hr ?_; (case hd => rfl); (case hg => rfl); (case hr => first | (go_simp; done) | (go_simp; rfl)); intro gb33001 hg w3 hbox hb; have n0_ := Aside0.mk (below_step (by repeat (first | (with_reducible first | exact HB.out | apply below_alloc | apply pw_below_drewN | apply below_drew1) | exact HB.out)) hb); have n1_ := Aside0.mk (hbox); have n2_ := Aside0.mk ((by rw [hg]; exact (below_size (by repeat (first | (with_reducible first | exact HB.out | apply below_alloc | apply pw_below_drewN | apply below_drew1) | exact HB.out))) : w.heap.size ≤ gb33001)); have n3_ := Aside0.mk ((by rw [hg]; exact (below_size (by repeat (first | (with_reducible first | exact HB.out | apply below_alloc | apply pw_below_drewN | apply below_drew1) | exact HB.out))) : w.heap.size ≤ gb33001)); clear HB; have HB := n0_; have BK33001 := n1_; have GW33001 := n2_; have GE33001 := n3_; clear n0_ n1_ n2_ n3_; clear hb hbox hg))
  (try simp only [Act.put, List.setIfInBounds_toArray, List.set_cons_zero, List.set_cons_succ])
  go_cut [19] (fun v19 wc => ∃ (kq : Nat) (x19_1 : Bool), v19 = .bool x19_1 ∧ Aside0 (guidevanelaw09_fewRules.j0 kq x19_1 l0_0 l0_1 a0_2 l0_3 = some r) ∧ Aside0 (kq ≤ k) ∧ Aside0 (wc.heap[gb33001]? = some (.cells #[(.slice A0_0 l0_0.length c0_0), (.slice A0_1 l0_1.length c0_1), .int .i64 a0_2, (.slice A0_3 l0_3.length c0_3)] 25 (0, 0))) ∧ Aside0 (Below w.heap.size w wc))
  case first =>
    have H := HC2.out
    clear HC2
    by_cases c4 : (l0_0.length : Int) > 7
    · rw [if_pos c4] at H
      have c4b0 : decide (7 < (l0_0.length : Int)) = true := decide_eq_true c4
      have c4b1 : decide (7 < l0_0.length) = true := decide_eq_true (by omega)
      clear c4
      (first | rw [c4b0] | (simp only [i64_w, i32_w]; rw [c4b0]) | skip)
      have H' := Aside0.mk H
      clear H
      have hcz5_0 : w3.cell? ⟨gb33001, 0, none⟩ = some (.slice A0_0 l0_0.length c0_0) := (blk_cell BK33001.out 0).trans rfl
      have hcz5_1 : w3.cell? ⟨gb33001, 1, none⟩ = some (.slice A0_1 l0_1.length c0_1) := (blk_cell BK33001.out 1).trans rfl
      have hcz5_2 : w3.cell? ⟨gb33001, 2, none⟩ = some (.int .i64 a0_2) := (blk_cell BK33001.out 2).trans rfl
      have hcz5_3 : w3.cell? ⟨gb33001, 3, none⟩ = some (.slice A0_3 l0_3.length c0_3) := (blk_cell BK33001.out 3).trans rfl
      have hfz5_0 := blk_frozen BK33001.out 0
      have hfz5_1 := blk_frozen BK33001.out 1
      have hfz5_2 := blk_frozen BK33001.out 2
      have hfz5_3 := blk_frozen BK33001.out 3
      go_wp2
      go_meet
      case rel => exact ⟨_, (true), (by first | rfl | (simp; done) | (simp [*]; done)), H', ⟨by first | omega | exact Nat.le_refl _⟩, ⟨by (with_reducible repeat (first | refine blk_drewN ?_ _ | refine blk_drew ?_ | refine blk_alloc ?_ _)); exact BK33001.out⟩, ⟨by repeat (first | (with_reducible first | exact HB.out | apply below_alloc | apply pw_below_drewN | apply below_drew1 | refine below_set ?_ GE33001.out) | exact HB.out)⟩⟩
    · rw [if_neg c4] at H
      have c4b0 : decide (7 < (l0_0.length : Int)) = false := decide_eq_false c4
      have c4b1 : decide (7 < l0_0.length) = false := decide_eq_false (by omega)
      clear c4
      (first | rw [c4b0] | (simp only [i64_w, i32_w]; rw [c4b0]) | skip)
      by_cases c6 : (l0_1.length : Int) > 7
      · rw [if_pos c6] at H
        have c6b0 : decide (7 < (l0_1.length : Int)) = true := decide_eq_true c6
        have c6b1 : decide (7 < l0_1.length) = true := decide_eq_true (by omega)
        clear c6
        have H' := Aside0.mk H
        clear H
        have hcz7_0 : w3.cell? ⟨gb33001, 0, none⟩ = some (.slice A0_0 l0_0.length c0_0) := (blk_cell BK33001.out 0).trans rfl
        have hcz7_1 : w3.cell? ⟨gb33001, 1, none⟩ = some (.slice A0_1 l0_1.length c0_1) := (blk_cell BK33001.out 1).trans rfl
        have hcz7_2 : w3.cell? ⟨gb33001, 2, none⟩ = some (.int .i64 a0_2) := (blk_cell BK33001.out 2).trans rfl
        have hcz7_3 : w3.cell? ⟨gb33001, 3, none⟩ = some (.slice A0_3 l0_3.length c0_3) := (blk_cell BK33001.out 3).trans rfl
        have hfz7_0 := blk_frozen BK33001.out 0
        have hfz7_1 := blk_frozen BK33001.out 1
        have hfz7_2 := blk_frozen BK33001.out 2
        have hfz7_3 := blk_frozen BK33001.out 3
        go_wp2
        go_meet
        case rel => exact ⟨_, (true), (by first | rfl | (simp; done) | (simp [*]; done)), H', ⟨by first | omega | exact Nat.le_refl _⟩, ⟨by (with_reducible repeat (first | refine blk_drewN ?_ _ | refine blk_drew ?_ | refine blk_alloc ?_ _)); exact BK33001.out⟩, ⟨by repeat (first | (with_reducible first | exact HB.out | apply below_alloc | apply pw_below_drewN | apply below_drew1 | refine below_set ?_ GE33001.out) | exact HB.out)⟩⟩
      · rw [if_neg c6] at H
        have c6b0 : decide (7 < (l0_1.length : Int)) = false := decide_eq_false c6
        have c6b1 : decide (7 < l0_1.length) = false := decide_eq_false (by omega)
        clear c6
        have H' := Aside0.mk H
        clear H
        have hcz8_0 : w3.cell? ⟨gb33001, 0, none⟩ = some (.slice A0_0 l0_0.length c0_0) := (blk_cell BK33001.out 0).trans rfl
        have hcz8_1 : w3.cell? ⟨gb33001, 1, none⟩ = some (.slice A0_1 l0_1.length c0_1) := (blk_cell BK33001.out 1).trans rfl
        have hcz8_2 : w3.cell? ⟨gb33001, 2, none⟩ = some (.int .i64 a0_2) := (blk_cell BK33001.out 2).trans rfl
        have hcz8_3 : w3.cell? ⟨gb33001, 3, none⟩ = some (.slice A0_3 l0_3.length c0_3) := (blk_cell BK33001.out 3).trans rfl
        have hfz8_0 := blk_frozen BK33001.out 0
        have hfz8_1 := blk_frozen BK33001.out 1
        have hfz8_2 := blk_frozen BK33001.out 2
        have hfz8_3 := blk_frozen BK33001.out 3
        go_wp2
        go_meet
        case rel => exact ⟨_, (decide ((l0_3.length : Int) > 12)), (by first | rfl | (simp; done) | (simp [*]; done)), H', ⟨by first | omega | exact Nat.le_refl _⟩, ⟨by (with_reducible repeat (first | refine blk_drewN ?_ _ | refine blk_drew ?_ | refine blk_alloc ?_ _)); exact BK33001.out⟩, ⟨by repeat (first | (with_reducible first | exact HB.out | apply below_alloc | apply pw_below_drewN | apply below_drew1 | refine below_set ?_ GE33001.out) | exact HB.out)⟩⟩
  case rest =>
    clear HC2
    try clear c1
    try clear p2
    try clear c4
    try clear c4b0
    try clear c4b1
    try clear c6
    try clear c6b0
    try clear c6b1
    try clear hcz5_0
    try clear hcz5_1
    try clear hcz5_2
    try clear hcz5_3
    try clear hcz7_0
    try clear hcz7_1
    try clear hcz7_2
    try clear hcz7_3
    try clear hcz8_0
    try clear hcz8_1
    try clear hcz8_2
    try clear hcz8_3
    try clear hfz5_0
    try clear hfz5_1
    try clear hfz5_2
    try clear hfz5_3
    try clear hfz7_0
    try clear hfz7_1
    try clear hfz7_2
    try clear hfz7_3
    try clear hfz8_0
    try clear hfz8_1
    try clear hfz8_2
    try clear hfz8_3
    obtain ⟨kq, x19_1, rfl, HA, HJ1, BK33001, HB⟩ := hcut
    cases kq with
    | zero => exact absurd HA.out (by simp [guidevanelaw09_fewRules.j0])
    | succ kj1 =>
      have H := HA.out
      clear HA
      simp only [guidevanelaw09_fewRules.j0] at H
      by_cases c9 : x19_1 = true
      · subst c9
        have H1 : (some false) = some r := by rw [if_pos rfl] at H; exact H
        clear H
        have H := H1
        clear H1
        obtain rfl := Option.some.inj H
        go_wp2
        go_ret
        exact ⟨by first | rfl | (simp [errW_none, errW_some] <;> rfl) | (simp [*, errW_none, errW_some] <;> rfl), by repeat (first | (with_reducible first | exact HB.out | apply below_alloc | apply pw_below_drewN | apply below_drew1 | refine below_set ?_ GE33001.out) | exact HB.out)⟩
      · replace c9 := Bool.eq_false_iff.mpr c9
        subst c9
        have H1 : (guidevanelaw09_fewRules.l0 kj1 0 l0_0 l0_1 a0_2 l0_3) = some r := by rw [if_neg (show ¬ (false = true) by decide)] at H; exact H
        clear H
        have H := H1
        clear H1
        have H' := Aside0.mk H
        clear H
        go_wp2
        go_loopg [3] kj1 (fun kq v3 w' => ∃ (x3_2 : Int), v3 = .int .i64 x3_2 ∧ Aside0 (guidevanelaw09_fewRules.l0 kq x3_2 l0_0 l0_1 a0_2 l0_3 = some r) ∧ Aside0 (kq ≤ kj1) ∧ Aside0 (w'.heap[gb33001]? = some (.cells #[(.slice A0_0 l0_0.length c0_0), (.slice A0_1 l0_1.length c0_1), .int .i64 a0_2, (.slice A0_3 l0_3.length c0_3)] 25 (0, 0))) ∧ Aside0 (Below w.heap.size w w'))
        case atStart => exact ⟨(0), (by first | rfl | (simp; done) | (simp [*]; done)), H', ⟨Nat.le_refl _⟩, ⟨by (with_reducible repeat (first | refine blk_drewN ?_ _ | refine blk_drew ?_ | refine blk_alloc ?_ _)); exact BK33001.out⟩, ⟨by repeat (first | (with_reducible first | exact HB.out | apply below_alloc | apply pw_below_drewN | apply below_drew1 | refine below_set ?_ GE33001.out) | exact HB.out)⟩⟩
        case round =>
          clear H'
          try clear c1
          try clear p2
          try clear c4
          try clear c4b0
          try clear c4b1
          try clear c6
          try clear c6b0
          try clear c6b1
          try clear c9
          try clear hcz5_0
          try clear hcz5_1
          try clear hcz5_2
          try clear hcz5_3
          try clear hcz7_0
          try clear hcz7_1
          try clear hcz7_2
          try clear hcz7_3
          try clear hcz8_0
          try clear hcz8_1
          try clear hcz8_2
          try clear hcz8_3
          try clear hfz5_0
          try clear hfz5_1
          try clear hfz5_2
          try clear hfz5_3
          try clear hfz7_0
          try clear hfz7_1
          try clear hfz7_2
          try clear hfz7_3
          try clear hfz8_0
          try clear hfz8_1
          try clear hfz8_2
          try clear hfz8_3
          try clear p2
          obtain ⟨x3_2, rfl, HA, HK2, BK33001, HB⟩ := hrel
          cases gk with
          | zero => exact absurd HA.out (by simp [guidevanelaw09_fewRules.l0])
          | succ k2 =>
            have H := HA.out
            clear HA
            simp only [guidevanelaw09_fewRules.l0] at H
            by_cases c10 : x3_2 < (l0_3.length : Int)
            · rw [if_pos c10] at H
              have c10b0 : decide (x3_2 < (l0_3.length : Int)) = true := decide_eq_true c10
              clear c10
              by_cases c11 : 0 ≤ x3_2
              · rw [if_pos c11] at H
                have c11b0 : decide (0 ≤ x3_2) = true := decide_eq_true c11
                clear c11
                by_cases c12 : (((rd_T62 l0_3 x3_2).f0).size : Int) > 30
                · rw [if_pos c12] at H
                  have c12b0 : decide (30 < (((rd_T62 l0_3 x3_2).f0).size : Int)) = true := decide_eq_true c12
                  have c12b1 : decide (30 < ((rd_T62 l0_3 x3_2).f0).size) = true := decide_eq_true (by omega)
                  clear c12
                  obtain rfl := Option.some.inj H
                  have hcz13_0 : wr.cell? ⟨gb33001, 0, none⟩ = some (.slice A0_0 l0_0.length c0_0) := (blk_cell BK33001.out 0).trans rfl
                  have hcz13_1 : wr.cell? ⟨gb33001, 1, none⟩ = some (.slice A0_1 l0_1.length c0_1) := (blk_cell BK33001.out 1).trans rfl
                  have hcz13_2 : wr.cell? ⟨gb33001, 2, none⟩ = some (.int .i64 a0_2) := (blk_cell BK33001.out 2).trans rfl
                  have hcz13_3 : wr.cell? ⟨gb33001, 3, none⟩ = some (.slice A0_3 l0_3.length c0_3) := (blk_cell BK33001.out 3).trans rfl
                  have hfz13_0 := blk_frozen BK33001.out 0
                  have hfz13_1 := blk_frozen BK33001.out 1
                  have hfz13_2 := blk_frozen BK33001.out 2
                  have hfz13_3 := blk_frozen BK33001.out 3
                  have p33002 : 0 ≤ (x3_2 : Int) := of_decide_eq_true (by first | (with_reducible assumption) | assumption)
                  have q33002 : x3_2 < (l0_3.length : Int) := of_decide_eq_true (by first | (with_reducible assumption) | assumption)
                  obtain ⟨ad33002, e33002, hx33002_0, hx33002_1⟩ := at_T62 HR0_3.out x3_2 p33002 q33002
                  cases e33002
                  replace hx33002_0 := (HB.out.cell (World.block_lt_of_cell? w _ hx33002_0)).trans hx33002_0
                  replace hx33002_1 := (HB.out.cell (World.block_lt_of_cell? w _ hx33002_1)).trans hx33002_1
                  replace p33002 := eq_true p33002
                  replace q33002 := eq_true q33002
                  go_wp2
                  go_ret
                  exact ⟨by first | rfl | (simp [errW_none, errW_some] <;> rfl) | (simp [*, errW_none, errW_some] <;> rfl), by repeat (first | (with_reducible first | exact HB.out | apply below_alloc | apply pw_below_drewN | apply below_drew1 | refine below_set ?_ GE33001.out) | exact HB.out)⟩
                · rw [if_neg c12] at H
                  have c12b0 : decide (30 < (((rd_T62 l0_3 x3_2).f0).size : Int)) = false := decide_eq_false c12
                  have c12b1 : decide (30 < ((rd_T62 l0_3 x3_2).f0).size) = false := decide_eq_false (by omega)
                  clear c12
                  have H' := Aside0.mk H
                  clear H
                  have hcz14_0 : wr.cell? ⟨gb33001, 0, none⟩ = some (.slice A0_0 l0_0.length c0_0) := (blk_cell BK33001.out 0).trans rfl
                  have hcz14_1 : wr.cell? ⟨gb33001, 1, none⟩ = some (.slice A0_1 l0_1.length c0_1) := (blk_cell BK33001.out 1).trans rfl
                  have hcz14_2 : wr.cell? ⟨gb33001, 2, none⟩ = some (.int .i64 a0_2) := (blk_cell BK33001.out 2).trans rfl
                  have hcz14_3 : wr.cell? ⟨gb33001, 3, none⟩ = some (.slice A0_3 l0_3.length c0_3) := (blk_cell BK33001.out 3).trans rfl
                  have hfz14_0 := blk_frozen BK33001.out 0
                  have hfz14_1 := blk_frozen BK33001.out 1
                  have hfz14_2 := blk_frozen BK33001.out 2
                  have hfz14_3 := blk_frozen BK33001.out 3
                  have p33002 : 0 ≤ (x3_2 : Int) := of_decide_eq_true (by first | (with_reducible assumption) | assumption)
                  have q33002 : x3_2 < (l0_3.length : Int) := of_decide_eq_true (by first | (with_reducible assumption) | assumption)
                  obtain ⟨ad33002, e33002, hx33002_0, hx33002_1⟩ := at_T62 HR0_3.out x3_2 p33002 q33002
                  cases e33002
                  replace hx33002_0 := (HB.out.cell (World.block_lt_of_cell? w _ hx33002_0)).trans hx33002_0
                  replace hx33002_1 := (HB.out.cell (World.block_lt_of_cell? w _ hx33002_1)).trans hx33002_1
                  replace p33002 := eq_true p33002
                  replace q33002 := eq_true q33002
                  go_wp2
                  go_roundg k2
                  case measure => have := HJ1.out; have := HK2.out; omega
                  case rel => exact ⟨(wrap64 (x3_2 + 1)), (by first | rfl | (simp; done) | (simp [*]; done)), H', ⟨by have := HJ1.out; have := HK2.out; omega⟩, ⟨by (with_reducible repeat (first | refine blk_drewN ?_ _ | refine blk_drew ?_ | refine blk_alloc ?_ _)); exact BK33001.out⟩, ⟨by repeat (first | (with_reducible first | exact HB.out | apply below_alloc | apply pw_below_drewN | apply below_drew1 | refine below_set ?_ GE33001.out) | exact HB.out)⟩⟩
              · rw [if_neg c11] at H
                exact absurd H (by simp)
            · rw [if_neg c10] at H
              have c10b0 : decide (x3_2 < (l0_3.length : Int)) = false := decide_eq_false c10
              clear c10
              obtain rfl := Option.some.inj H
              have hcz15_0 : wr.cell? ⟨gb33001, 0, none⟩ = some (.slice A0_0 l0_0.length c0_0) := (blk_cell BK33001.out 0).trans rfl
              have hcz15_1 : wr.cell? ⟨gb33001, 1, none⟩ = some (.slice A0_1 l0_1.length c0_1) := (blk_cell BK33001.out 1).trans rfl
              have hcz15_2 : wr.cell? ⟨gb33001, 2, none⟩ = some (.int .i64 a0_2) := (blk_cell BK33001.out 2).trans rfl
              have hcz15_3 : wr.cell? ⟨gb33001, 3, none⟩ = some (.slice A0_3 l0_3.length c0_3) := (blk_cell BK33001.out 3).trans rfl
              have hfz15_0 := blk_frozen BK33001.out 0
              have hfz15_1 := blk_frozen BK33001.out 1
              have hfz15_2 := blk_frozen BK33001.out 2
              have hfz15_3 := blk_frozen BK33001.out 3
              go_wp2
              go_ret
              exact ⟨by first | rfl | (simp [errW_none, errW_some] <;> rfl) | (simp [*, errW_none, errW_some] <;> rfl), by repeat (first | (with_reducible first | exact HB.out | apply below_alloc | apply pw_below_drewN | apply below_drew1 | refine below_set ?_ GE33001.out) | exact HB.out)⟩
end Go.Proofs.YteopooljohdoiaaGreat.Px
namespace Go.Proofs.YteopooljohdoiaaGreat.Px
open Go.RowKit Go.Proofs.YteopooljohdoiaaGreatW.PrintWords Go.Proofs.YteopooljohdoiaaGreatW.PrintLast Go.Proofs.YteopooljohdoiaaGreatW.PrintMore
attribute [local go_sem] max2_int min2_int max_two min_two max_three min_three max_four min_four
def guidevaneref09_CopyRules.f (l0_0 : List Int) (l0_1 : List Int) (a0_2 : Int) (l0_3 : List (S62)) : Option (List Int × List Int × Int × (List (S62))) := (guidevanebase_CopyInts.f l0_0).bind fun t39003 => ((guidevanebase_CopyInts.f l0_1).bind fun t39006 => ((some (([] : List (S62)) : List (S62))).bind fun y39009 => (if y39009.length + l0_3.length < 5864062014805 then (some (t39003, t39006, a0_2, (y39009 ++ l0_3))) else (none))))
def guidevaneref09_CopyRules.T1 : Bool × List (List Nat × List Nat) := (true, [([], []), ([0], [0]), ([1], [1]), ([], []), ([3], [3]), ([4, 2], [4]), ([], []), ([6], [6]), ([], []), ([], []), ([9], [9]), ([8, 10, 5], [8, 10]), ([2, 5, 7, 11], [2, 5, 7, 11]), ([12, 11, 0, 1, 2, 3, 4, 5, 6, 7, 8, 9, 10, 11, 12], [12])])
def guidevaneref09_CopyRules.B1 : List Nat := [0, 1, 3, 0, 8, 31, 0, 64, 0, 0, 512, 1855, 4095, 8191]
theorem guidevaneref09_CopyRules.tab1 : rtab .any (opsOf Tryz.f13 1) = guidevaneref09_CopyRules.T1 := by kernel_rfl
theorem guidevaneref09_CopyRules.bits1 : waitsOk guidevaneref09_CopyRules.T1.2 guidevaneref09_CopyRules.B1 = true := by kernel_rfl
set_option maxHeartbeats 8000000 in
set_option maxRecDepth 100000 in
theorem guidevaneref09_CopyRules.calls (A0_0 : Option Addr) (c0_0 : Nat) (l0_0 : List Int) (A0_1 : Option Addr) (c0_1 : Nat) (l0_1 : List Int) (a0_2 : Int) (A0_3 : Option Addr) (c0_3 : Nat) (l0_3 : List (S62)) (r1 : List Int) (r2 : List Int) (r3 : Int) (r4 : List (S62)) (w : World) (hr0_0 : Kd.C (Kd.int .i64) w A0_0 l0_0.length l0_0) (hc0_0 : l0_0.length ≤ c0_0) (hr0_1 : Kd.C (Kd.int .i64) w A0_1 l0_1.length l0_1) (hc0_1 : l0_1.length ≤ c0_1) (hr0_3 : Kd.C k62 w A0_3 l0_3.length l0_3) (hc0_3 : l0_3.length ≤ c0_3) (h : guidevaneref09_CopyRules.f l0_0 l0_1 a0_2 l0_3 = some (r1, r2, r3, r4)) :
    Calls Tryz.prog 13 #[.agg #[.slice A0_0 l0_0.length c0_0, .slice A0_1 l0_1.length c0_1, .int .i64 a0_2, .slice A0_3 l0_3.length c0_3]] w fun e w' => ∃ v0_ v1_ v3_ : Value, e = .returned (.agg #[v0_, v1_, .int .i64 r3, v3_]) ∧ Kd.R (Kd.int .i64) 3 w' w.heap.size (fun k_ => some k_ ≠ (v1_ : Value).ownBlock) v0_ r1 ∧ Kd.R (Kd.int .i64) 3 w' w.heap.size (fun k_ => some k_ ≠ (v0_ : Value).ownBlock) v1_ r2 ∧ Kd.R k62 62 w' w.heap.size (fun _ => True) v3_ r4 ∧ Below w.heap.size w w' := by
  have hu25 := Tryz.underlying25
  have HR0_0 := Aside0.mk hr0_0
  have HC0_0 := Aside0.mk hc0_0
  clear hr0_0 hc0_0
  have HR0_1 := Aside0.mk hr0_1
  have HC0_1 := Aside0.mk hc0_1
  clear hr0_1 hc0_1
  have HR0_3 := Aside0.mk hr0_3
  have HC0_3 := Aside0.mk hc0_3
  clear hr0_3 hc0_3
  have HB := Aside0.mk (Below.refl w.heap.size w)
  have H : ((guidevanebase_CopyInts.f l0_0).bind fun t39003 => ((guidevanebase_CopyInts.f l0_1).bind fun t39006 => ((some (([] : List (S62)) : List (S62))).bind fun y39009 => (if y39009.length + l0_3.length < 5864062014805 then (some (t39003, t39006, a0_2, (y39009 ++ l0_3))) else (none))))) = some (r1, r2, r3, r4) := h
  clear h
  replace H := Option.bind_eq_some_iff.mp H
  obtain ⟨t39003, A20, H⟩ := H
  replace H : ((guidevanebase_CopyInts.f l0_1).bind fun t39006 => ((some (([] : List (S62)) : List (S62))).bind fun y39009 => (if y39009.length + l0_3.length < 5864062014805 then (some (t39003, t39006, a0_2, (y39009 ++ l0_3))) else (none)))) = some (r1, r2, r3, r4) := H
  have A2 := Aside0.mk A20
  clear A20
  replace H := Option.bind_eq_some_iff.mp H
  obtain ⟨t39006, A30, H⟩ := H
  replace H : ((some (([] : List (S62)) : List (S62))).bind fun y39009 => (if y39009.length + l0_3.length < 5864062014805 then (some (t39003, t39006, a0_2, (y39009 ++ l0_3))) else (none))) = some (r1, r2, r3, r4) := H
  have A3 := Aside0.mk A30
  clear A30
  obtain ⟨y39009, hy39009⟩ : ∃ y_ : List (S62), y_ = (([] : List (S62))) := ⟨_, rfl⟩
  replace H : (if y39009.length + l0_3.length < 5864062014805 then (some (t39003, t39006, a0_2, (y39009 ++ l0_3))) else (none)) = some (r1, r2, r3, r4) := by first | (rw [hy39009]; with_reducible exact H) | (have H2_ := (Option.bind_some _ _).symm.trans H; rw [hy39009]; with_reducible exact H2_) | (have H2_ := (Option.bind_some _ _).symm.trans H; with_reducible exact H2_) | with_reducible exact H | (rw [hy39009]; exact H) | exact H
  have Ny39009 := Aside0.mk hy39009
  clear hy39009
  by_cases c4 : y39009.length + l0_3.length < 5864062014805
  · rw [if_pos c4] at H
    have LMc4 := Aside0.mk c4
    clear c4
    obtain ⟨y39012, hy39012⟩ : ∃ y_ : List (S62), y_ = (y39009 ++ l0_3) := ⟨_, rfl⟩
    replace H : (some (t39003, t39006, a0_2, y39012)) = some (r1, r2, r3, r4) := by first | (rw [hy39012]; with_reducible exact H) | (have H2_ := (Option.bind_some _ _).symm.trans H; rw [hy39012]; with_reducible exact H2_) | (have H2_ := (Option.bind_some _ _).symm.trans H; with_reducible exact H2_) | with_reducible exact H | (rw [hy39012]; exact H) | exact H
    have Ny39012 := Aside0.mk hy39012
    clear hy39012
    simp only [Option.some.injEq, Prod.mk.injEq] at H
    obtain ⟨rfl, rfl, rfl, rfl⟩ := H
    go_enter Tryz.func13, Tryz.ntmps13
    try go_wp2_with (first | ((with_reducible refine gate_dst (N := 1) rfl ?_); refine box_event ?hg (N := 1) ?hd (cs := #[.slice A0_0 l0_0.length c0_0, .slice A0_1 l0_1.length c0_1, .int .i64 a0_2, .slice A0_3 l0_3.length c0_3]) (t := 25) ?hr ?_; (case hd => rfl); (case hg => rfl); (case hr => first | (go_simp; done) | (go_simp; rfl)); intro gb39001 hg w5 hbox hb; have n0_ := Aside0.mk (below_step (by repeat (first | (with_reducible first | exact HB.out | apply below_alloc | apply pw_below_drewN | apply below_drew1) | exact HB.out)) hb); have n1_ := Aside0.mk (hbox); have n2_ := Aside0.mk ((by rw [hg]; exact (below_size (by repeat (first | (with_reducible first | exact HB.out | apply below_alloc | apply pw_below_drewN | apply below_drew1) | exact HB.out))) : w.heap.size ≤ gb39001)); have n3_ := Aside0.mk ((by rw [hg]; exact (below_size (by repeat (first | (with_reducible first | exact HB.out | apply below_alloc | apply pw_below_drewN | apply below_drew1) | exact HB.out))) : w.heap.size ≤ gb39001)); clear HB; have HB := n0_; have BK39001 := n1_; have GW39001 := n2_; have GE39001 := n3_; clear n0_ n1_ n2_ n3_; clear hb hbox hg) | ((with_reducible refine gate_dst (N := 2) rfl ?_); refine box_event ?hg (N := 2) ?hd (cs := #[.slice none 0 0, .slice none 0 0, .int .i64 0, .slice none 0 0]) (t := 25) ?hr ?_; (case hd => rfl); (case hg => rfl); (case hr => first | (go_simp; done) | (go_simp; rfl)); intro gb39002 hg w6 hbox hb; have n0_ := Aside0.mk (blk_below (g := gb39001) (o := .cells #[.slice A0_0 l0_0.length c0_0, .slice A0_1 l0_1.length c0_1, .int .i64 a0_2, .slice A0_3 l0_3.length c0_3] 25 (0, 0)) (by (with_reducible repeat (first | refine blk_drewN ?_ _ | refine blk_drew ?_ | refine blk_alloc ?_ _)); exact BK39001.out) hb); have n1_ := Aside0.mk (below_step (by repeat (first | (with_reducible first | exact HB.out | apply below_alloc | apply pw_below_drewN | apply below_drew1 | refine below_set ?_ GE39001.out) | exact HB.out)) hb); have n2_ := Aside0.mk (hbox); have n3_ := Aside0.mk ((by rw [hg]; exact (below_size (by repeat (first | (with_reducible first | exact HB.out | apply below_alloc | apply pw_below_drewN | apply below_drew1 | refine below_set ?_ GE39001.out) | exact HB.out))) : w.heap.size ≤ gb39002)); have n4_ := Aside0.mk ((by rw [hg]; exact (below_size (by repeat (first | (with_reducible first | exact HB.out | apply below_alloc | apply pw_below_drewN | apply below_drew1 | refine below_set ?_ GE39001.out) | exact HB.out))) : w.heap.size ≤ gb39002)); have n5_ := Aside0.mk ((by rw [hg]; exact Nat.ne_of_lt (blk_lt (g := gb39001) (o := .cells #[.slice A0_0 l0_0.length c0_0, .slice A0_1 l0_1.length c0_1, .int .i64 a0_2, .slice A0_3 l0_3.length c0_3] 25 (0, 0)) (by (with_reducible repeat (first | refine blk_drewN ?_ _ | refine blk_drew ?_ | refine blk_alloc ?_ _)); exact BK39001.out)) : gb39001 ≠ gb39002)); have n6_ := Aside0.mk ((by rw [hg]; exact Nat.ne_of_gt (blk_lt (g := gb39001) (o := .cells #[.slice A0_0 l0_0.length c0_0, .slice A0_1 l0_1.length c0_1, .int .i64 a0_2, .slice A0_3 l0_3.length c0_3] 25 (0, 0)) (by (with_reducible repeat (first | refine blk_drewN ?_ _ | refine blk_drew ?_ | refine blk_alloc ?_ _)); exact BK39001.out)) : gb39002 ≠ gb39001)); clear BK39001; clear HB; have BK39001 := n0_; have HB := n1_; have BK39002 := n2_; have GW39002 := n3_; have GE39002 := n4_; have NB39001_39002 := n5_; have NB39002_39001 := n6_; clear n0_ n1_ n2_ n3_ n4_ n5_ n6_; clear hb hbox hg))
    have n0_ := Aside0.mk (blk_drew BK39001.out)
    have n1_ := Aside0.mk (blk_drew BK39002.out)
    have n2_ := Aside0.mk (below_drew1 HB.out)
    clear BK39001
    clear BK39002
    clear HB
    have BK39001 := n0_
    have BK39002 := n1_
    have HB := n2_
    clear n0_ n1_ n2_
    refine start_ (n := 14) (S := fun w' => w'.cell? ⟨gb39001, 0, none⟩ = some (.slice A0_0 l0_0.length c0_0) ∧ w'.cell? ⟨gb39001, 1, none⟩ = some (.slice A0_1 l0_1.length c0_1) ∧ w'.cell? ⟨gb39001, 2, none⟩ = some (.int .i64 a0_2) ∧ w'.cell? ⟨gb39001, 3, none⟩ = some (.slice A0_3 l0_3.length c0_3)) (ds := []) #[false, false, false, false, false, false, false, false, false, false, false, false, false, false] (by kernel_rfl) rfl rfl ⟨(blk_cell BK39001.out 0).trans rfl, (blk_cell BK39001.out 1).trans rfl, (blk_cell BK39001.out 2).trans rfl, (blk_cell BK39001.out 3).trans rfl⟩ (fun hHeld => ?_); refine with_tabW guidevaneref09_CopyRules.tab1 guidevaneref09_CopyRules.bits1 (fun HT_ HW_ => ?_)
    generalize w6.drew = w7 at BK39001 BK39002 HB hHeld ⊢
    refine pure_ (i := 0) (N := some 3) (v := ?_) (a' := ?_) #[true, false, false, false, false, false, false, false, false, false, false, false, false, false] rfl rfl (any_of HT_.out (by kernel_rfl)) (fun _ _ _ h => h) (Or.inl ⟨by rfl, ?_⟩) ?_ ?_
    rotate_left
    · intro w'
      go_simp
      with_reducible rfl
    rotate_left
    · simp only [Act.put, List.setIfInBounds_toArray, List.set_cons_zero, List.set_cons_succ, i64_w, i32_w]
      rfl
    refine pure_ (i := 3) (N := some 6) (v := ?_) (a' := ?_) #[true, false, false, true, false, false, false, false, false, false, false, false, false, false] rfl rfl (any_of HT_.out (by kernel_rfl)) (fun _ _ _ h => h) (Or.inl ⟨by rfl, ?_⟩) ?_ ?_
    rotate_left
    · intro w'
      go_simp
      with_reducible rfl
    rotate_left
    · simp only [Act.put, List.setIfInBounds_toArray, List.set_cons_zero, List.set_cons_succ, i64_w, i32_w]
      rfl
    refine pure_ (i := 6) (N := some 9) (v := ?_) (a' := ?_) #[true, false, false, true, false, false, true, false, false, false, false, false, false, false] rfl rfl (any_of HT_.out (by kernel_rfl)) (fun _ _ _ h => h) (Or.inl ⟨by rfl, ?_⟩) ?_ ?_
    rotate_left
    · intro w'
      go_simp
      with_reducible rfl
    rotate_left
    · simp only [Act.put, List.setIfInBounds_toArray, List.set_cons_zero, List.set_cons_succ, i64_w, i32_w]
      rfl
    refine pure_ (i := 9) (N := some 12) (v := ?_) (a' := ?_) #[true, false, false, true, false, false, true, false, false, true, false, false, false, false] rfl rfl (any_of HT_.out (by kernel_rfl)) (fun _ _ _ h => h) (Or.inl ⟨by rfl, ?_⟩) ?_ ?_
    rotate_left
    · intro w'
      go_simp
      with_reducible rfl
    rotate_left
    · simp only [Act.put, List.setIfInBounds_toArray, List.set_cons_zero, List.set_cons_succ, i64_w, i32_w]
      rfl
    refine take_ (i := 1) (N := some 4) (v := ?_) (a' := ?_) #[true, true, false, true, false, false, true, false, false, true, false, false, false, false] rfl rfl (take_ofW HT_.out HW_.out (by kernel_rfl)) (fun _ _ _ h => h) (Or.inl ⟨by rfl, ?_⟩) hHeld ?_ ?_
    rotate_left
    · rintro w' ⟨s0, s1, s2, s3⟩
      go_simp
      with_reducible rfl
    rotate_left
    · simp only [Act.put, List.setIfInBounds_toArray, List.set_cons_zero, List.set_cons_succ, i64_w, i32_w]
      rfl
    refine take_ (i := 4) (N := some 7) (v := ?_) (a' := ?_) #[true, true, false, true, true, false, true, false, false, true, false, false, false, false] rfl rfl (take_ofW HT_.out HW_.out (by kernel_rfl)) (fun _ _ _ h => h) (Or.inl ⟨by rfl, ?_⟩) hHeld ?_ ?_
    rotate_left
    · rintro w' ⟨s0, s1, s2, s3⟩
      go_simp
      with_reducible rfl
    rotate_left
    · simp only [Act.put, List.setIfInBounds_toArray, List.set_cons_zero, List.set_cons_succ, i64_w, i32_w]
      rfl
    refine take_ (i := 7) (N := some 10) (v := ?_) (a' := ?_) #[true, true, false, true, true, false, true, true, false, true, false, false, false, false] rfl rfl (take_ofW HT_.out HW_.out (by kernel_rfl)) (fun _ _ _ h => h) (Or.inl ⟨by rfl, ?_⟩) hHeld ?_ ?_
    rotate_left
    · rintro w' ⟨s0, s1, s2, s3⟩
      go_simp
      with_reducible rfl
    rotate_left
    · simp only [Act.put, List.setIfInBounds_toArray, List.set_cons_zero, List.set_cons_succ, i64_w, i32_w]
      rfl
    refine take_ (i := 10) (N := some 13) (v := ?_) (a' := ?_) #[true, true, false, true, true, false, true, true, false, true, true, false, false, false] rfl rfl (take_ofW HT_.out HW_.out (by kernel_rfl)) (fun _ _ _ h => h) (Or.inl ⟨by rfl, ?_⟩) hHeld ?_ ?_
    rotate_left
    · rintro w' ⟨s0, s1, s2, s3⟩
      go_simp
      with_reducible rfl
    rotate_left
    · simp only [Act.put, List.setIfInBounds_toArray, List.set_cons_zero, List.set_cons_succ, i64_w, i32_w]
      rfl
    refine join_ (σ := Value × Value × Value) 3 #[true, true, true, true, true, true, true, true, true, true, true, false, false, false] (fun s_ => [(5, s_.1), (8, s_.2.1), (11, s_.2.2)]) (fun s_ w' => (w'.cell? ⟨gb39001, 0, none⟩ = some (.slice A0_0 l0_0.length c0_0) ∧ w'.cell? ⟨gb39001, 1, none⟩ = some (.slice A0_1 l0_1.length c0_1) ∧ w'.cell? ⟨gb39001, 2, none⟩ = some (.int .i64 a0_2) ∧ w'.cell? ⟨gb39001, 3, none⟩ = some (.slice A0_3 l0_3.length c0_3)) ∧ (Kd.R (Kd.int .i64) 3 w' w.heap.size (fun k_ => some k_ ≠ (s_.2.1 : Value).ownBlock) s_.1 t39003) ∧ (Kd.R (Kd.int .i64) 3 w' w.heap.size (fun k_ => some k_ ≠ (s_.1 : Value).ownBlock) s_.2.1 t39006) ∧ (Kd.R k62 62 w' w.heap.size (fun _ => True) s_.2.2 y39009) ∧ (w'.heap[gb39001]? = some (.cells #[.slice A0_0 l0_0.length c0_0, .slice A0_1 l0_1.length c0_1, .int .i64 a0_2, .slice A0_3 l0_3.length c0_3] 25 (0, 0))) ∧ (w'.heap[gb39002]? = some (.cells #[.slice none 0 0, .slice none 0 0, .int .i64 0, .slice none 0 0] 25 (0, 0))) ∧ (Below w.heap.size w w')) ?_ ?_
    rotate_left
    · intro hCont
      refine two_ (i := 2) (j := 8) (Ni := some 5) (Nj := some 11) #[true, true, true, true, true, false, true, true, false, true, true, false, false, false] #[true, true, false, true, true, false, true, true, true, true, true, false, false, false] rfl rfl rfl rfl (two_of HT_.out (by kernel_rfl)) (by decide) (by decide) (fun K hK => ?_) (fun K hK => ?_)
      · skip
        refine goes_ Tryz.func31 (by kernel_rfl) rfl #[.slice A0_0 l0_0.length c0_0] (by rfl) rfl rfl (by (try simp only [List.map_toArray, List.map_cons, List.map_nil]); first | done | rfl | (simp only [List.length_drop, List.length_take]; rfl)) ?_
        with_reducible refine (guidevanebase_CopyInts.calls _ _ l0_0 t39003 _ ?side1 ?side2 A2.out).mono ?_
        (case side1 => repeat (first | exact (Kd.C_below HR0_0.out HB.out) | (with_reducible refine Kd.C_alloc ?_ _) | (with_reducible refine Kd.C_drewN ?_ _) | (with_reducible refine Kd.C_drew ?_)))
        (case side2 => exact HC0_0.out)
        rintro e w8 ⟨v39004, rfl, ho0, hb⟩
        refine ⟨_, rfl, ?_⟩
        have n0_ := Aside0.mk (Kd.R_lower ho0 (below_size (by repeat (first | (with_reducible first | exact HB.out | apply below_alloc | apply pw_below_drewN | apply below_drew1 | refine below_set ?_ GE39001.out | refine below_set ?_ GE39002.out) | exact HB.out))))
        have n1_ := Aside0.mk (blk_below (g := gb39001) (o := .cells #[.slice A0_0 l0_0.length c0_0, .slice A0_1 l0_1.length c0_1, .int .i64 a0_2, .slice A0_3 l0_3.length c0_3] 25 (0, 0)) (by (with_reducible repeat (first | refine blk_drewN ?_ _ | refine blk_drew ?_ | refine blk_alloc ?_ _)); exact BK39001.out) hb)
        have n2_ := Aside0.mk (blk_below (g := gb39002) (o := .cells #[.slice none 0 0, .slice none 0 0, .int .i64 0, .slice none 0 0] 25 (0, 0)) (by (with_reducible repeat (first | refine blk_drewN ?_ _ | refine blk_drew ?_ | refine blk_alloc ?_ _)); exact BK39002.out) hb)
        have n3_ := Aside0.mk (below_step (by repeat (first | (with_reducible first | exact HB.out | apply below_alloc | apply pw_below_drewN | apply below_drew1 | refine below_set ?_ GE39001.out | refine below_set ?_ GE39002.out) | exact HB.out)) hb)
        clear BK39001
        clear BK39002
        clear HB
        have HO39005 := n0_
        have BK39001 := n1_
        have BK39002 := n2_
        have HB := n3_
        clear n0_ n1_ n2_ n3_
        (try clear hb)
        (try clear hb2)
        (try clear hk)
        (try clear hi)
        (try clear ho0)
        refine hK.out _ _ ⟨(blk_cell BK39001.out 0).trans rfl, (blk_cell BK39001.out 1).trans rfl, (blk_cell BK39001.out 2).trans rfl, (blk_cell BK39001.out 3).trans rfl⟩ (fun hHeld => ?_)
        clear hK K
        refine norm_ (a' := ?_) ?_ ?_
        rotate_left
        · show Act.put _ (some 5) _ = _
          simp only [Act.put, List.setIfInBounds_toArray, List.set_cons_zero, List.set_cons_succ, i64_w, i32_w]
          rfl
        refine two_ (i := 5) (j := 8) (Ni := some 8) (Nj := some 11) #[true, true, true, true, true, true, true, true, false, true, true, false, false, false] #[true, true, true, true, true, false, true, true, true, true, true, false, false, false] rfl rfl rfl rfl (two_of HT_.out (by kernel_rfl)) (by decide) (by decide) (fun K hK => ?_) (fun K hK => ?_)
        · skip
          refine goes_ Tryz.func31 (by kernel_rfl) rfl #[.slice A0_1 l0_1.length c0_1] (by rfl) rfl rfl (by (try simp only [List.map_toArray, List.map_cons, List.map_nil]); first | done | rfl | (simp only [List.length_drop, List.length_take]; rfl)) ?_
          with_reducible refine (guidevanebase_CopyInts.calls _ _ l0_1 t39006 _ ?side1 ?side2 A3.out).mono ?_
          (case side1 => repeat (first | exact (Kd.C_below HR0_1.out HB.out) | (with_reducible refine Kd.C_alloc ?_ _) | (with_reducible refine Kd.C_drewN ?_ _) | (with_reducible refine Kd.C_drew ?_)))
          (case side2 => exact HC0_1.out)
          rintro e w9 ⟨v39007, rfl, ho0, hb⟩
          refine ⟨_, rfl, ?_⟩
          have n0_ := Aside0.mk (Kd.R_elder' (by (with_reducible repeat (first | apply Kd.R_alloc | apply Kd.R_drewN | apply Kd.R_drew)); exact HO39005.out) (Kd.R_base ho0) hb)
          have n1_ := Aside0.mk (Kd.R_lower (Kd.R_new' ho0 (Kd.R_lt (by (with_reducible repeat (first | apply Kd.R_alloc | apply Kd.R_drewN | apply Kd.R_drew)); exact HO39005.out))) (below_size (by repeat (first | (with_reducible first | exact HB.out | apply below_alloc | apply pw_below_drewN | apply below_drew1 | refine below_set ?_ GE39001.out | refine below_set ?_ GE39002.out) | exact HB.out))))
          have n2_ := Aside0.mk (blk_below (g := gb39001) (o := .cells #[.slice A0_0 l0_0.length c0_0, .slice A0_1 l0_1.length c0_1, .int .i64 a0_2, .slice A0_3 l0_3.length c0_3] 25 (0, 0)) (by (with_reducible repeat (first | refine blk_drewN ?_ _ | refine blk_drew ?_ | refine blk_alloc ?_ _)); exact BK39001.out) hb)
          have n3_ := Aside0.mk (blk_below (g := gb39002) (o := .cells #[.slice none 0 0, .slice none 0 0, .int .i64 0, .slice none 0 0] 25 (0, 0)) (by (with_reducible repeat (first | refine blk_drewN ?_ _ | refine blk_drew ?_ | refine blk_alloc ?_ _)); exact BK39002.out) hb)
          have n4_ := Aside0.mk (below_step (by repeat (first | (with_reducible first | exact HB.out | apply below_alloc | apply pw_below_drewN | apply below_drew1 | refine below_set ?_ GE39001.out | refine below_set ?_ GE39002.out) | exact HB.out)) hb)
          clear HO39005
          clear BK39001
          clear BK39002
          clear HB
          have HO39005 := n0_
          have HO39008 := n1_
          have BK39001 := n2_
          have BK39002 := n3_
          have HB := n4_
          clear n0_ n1_ n2_ n3_ n4_
          (try clear hb)
          (try clear hb2)
          (try clear hk)
          (try clear hi)
          (try clear ho0)
          refine hK.out _ _ ⟨(blk_cell BK39001.out 0).trans rfl, (blk_cell BK39001.out 1).trans rfl, (blk_cell BK39001.out 2).trans rfl, (blk_cell BK39001.out 3).trans rfl⟩ (fun hHeld => ?_)
          clear hK K
          refine norm_ (a' := ?_) ?_ ?_
          rotate_left
          · show Act.put _ (some 8) _ = _
            simp only [Act.put, List.setIfInBounds_toArray, List.set_cons_zero, List.set_cons_succ, i64_w, i32_w]
            rfl
          refine one_ (i := 8) (N := some 11) #[true, true, true, true, true, true, true, true, true, true, true, false, false, false] rfl rfl (one_of HT_.out (by kernel_rfl)) (by decide) (fun K hK => ?_)
          refine Kd.R_lit_step k62 _ 62 ?hg (N := 11) ?hd (xs := ([] : List (S62))) (inner := []) (ok := fun _ => True) (okp := fun _ => True) ?hr ?hp (fun _ hk => hk) trivial (Below.refl _ _) (Nat.le_refl _) (by simp) ?_; (case hd => rfl); (case hg => rfl); (case hr => first | (go_simp; done) | (go_simp; rfl)); (case hp => exact (Reps.none _ _))
          intro v39010 w10 ho11 hb hg_ hnew_
          clear hg_ hnew_
          (first | rw [← Ny39009.out] at ho11 | (simp only [Int.reduceToNat] at ho11; rw [← Ny39009.out] at ho11))
          have n0_ := Aside0.mk (Kd.R_below (by (with_reducible repeat (first | apply Kd.R_alloc | apply Kd.R_drewN | apply Kd.R_drew)); exact HO39005.out) hb)
          have n1_ := Aside0.mk (Kd.R_below (by (with_reducible repeat (first | apply Kd.R_alloc | apply Kd.R_drewN | apply Kd.R_drew)); exact HO39008.out) hb)
          have n2_ := Aside0.mk (Kd.R_lower ho11 (below_size (by repeat (first | (with_reducible first | exact HB.out | apply below_alloc | apply pw_below_drewN | apply below_drew1 | refine below_set ?_ GE39001.out | refine below_set ?_ GE39002.out) | exact HB.out))))
          have n3_ := Aside0.mk (blk_below (g := gb39001) (o := .cells #[.slice A0_0 l0_0.length c0_0, .slice A0_1 l0_1.length c0_1, .int .i64 a0_2, .slice A0_3 l0_3.length c0_3] 25 (0, 0)) (by (with_reducible repeat (first | refine blk_drewN ?_ _ | refine blk_drew ?_ | refine blk_alloc ?_ _)); exact BK39001.out) hb)
          have n4_ := Aside0.mk (blk_below (g := gb39002) (o := .cells #[.slice none 0 0, .slice none 0 0, .int .i64 0, .slice none 0 0] 25 (0, 0)) (by (with_reducible repeat (first | refine blk_drewN ?_ _ | refine blk_drew ?_ | refine blk_alloc ?_ _)); exact BK39002.out) hb)
          have n5_ := Aside0.mk (below_step (by repeat (first | (with_reducible first | exact HB.out | apply below_alloc | apply pw_below_drewN | apply below_drew1 | refine below_set ?_ GE39001.out | refine below_set ?_ GE39002.out) | exact HB.out)) hb)
          clear HO39005
          clear HO39008
          clear BK39001
          clear BK39002
          clear HB
          have HO39005 := n0_
          have HO39008 := n1_
          have HO39011 := n2_
          have BK39001 := n3_
          have BK39002 := n4_
          have HB := n5_
          clear n0_ n1_ n2_ n3_ n4_ n5_
          clear hb ho11
          refine hK.out _ _ ⟨(blk_cell BK39001.out 0).trans rfl, (blk_cell BK39001.out 1).trans rfl, (blk_cell BK39001.out 2).trans rfl, (blk_cell BK39001.out 3).trans rfl⟩ (fun hHeld => ?_)
          clear hK K
          refine norm_ (a' := ?_) ?_ ?_
          rotate_left
          · show Act.put _ (some 11) _ = _
            simp only [Act.put, List.setIfInBounds_toArray, List.set_cons_zero, List.set_cons_succ, i64_w, i32_w]
            rfl
          exact norm_ (by simp only [putAll, Act.put, List.setIfInBounds_toArray, List.set_cons_zero, List.set_cons_succ]) (hCont (v39004, v39007, v39010) _ ⟨hHeld, (by (with_reducible repeat (first | apply Kd.R_alloc | apply Kd.R_drewN | apply Kd.R_drew)); exact Kd.R_mono HO39005.out (fun _ hk => hk.2)), (by (with_reducible repeat (first | apply Kd.R_alloc | apply Kd.R_drewN | apply Kd.R_drew)); exact Kd.R_mono HO39008.out (fun _ hk => hk.2)), (by (with_reducible repeat (first | apply Kd.R_alloc | apply Kd.R_drewN | apply Kd.R_drew)); exact HO39011.out), (by (with_reducible repeat (first | refine blk_drewN ?_ _ | refine blk_drew ?_ | refine blk_alloc ?_ _)); exact BK39001.out), (by (with_reducible repeat (first | refine blk_drewN ?_ _ | refine blk_drew ?_ | refine blk_alloc ?_ _)); exact BK39002.out), (by repeat (first | (with_reducible first | exact HB.out | apply below_alloc | apply pw_below_drewN | apply below_drew1 | refine below_set ?_ GE39001.out | refine below_set ?_ GE39002.out) | exact HB.out))⟩)
        · skip
          refine Kd.R_lit_step k62 _ 62 ?hg (N := 11) ?hd (xs := ([] : List (S62))) (inner := []) (ok := fun _ => True) (okp := fun _ => True) ?hr ?hp (fun _ hk => hk) trivial (Below.refl _ _) (Nat.le_refl _) (by simp) ?_; (case hd => rfl); (case hg => rfl); (case hr => first | (go_simp; done) | (go_simp; rfl)); (case hp => exact (Reps.none _ _))
          intro v39010 w9 ho10 hb hg_ hnew_
          clear hg_ hnew_
          (first | rw [← Ny39009.out] at ho10 | (simp only [Int.reduceToNat] at ho10; rw [← Ny39009.out] at ho10))
          have n0_ := Aside0.mk (Kd.R_below (by (with_reducible repeat (first | apply Kd.R_alloc | apply Kd.R_drewN | apply Kd.R_drew)); exact HO39005.out) hb)
          have n1_ := Aside0.mk (Kd.R_lower ho10 (below_size (by repeat (first | (with_reducible first | exact HB.out | apply below_alloc | apply pw_below_drewN | apply below_drew1 | refine below_set ?_ GE39001.out | refine below_set ?_ GE39002.out) | exact HB.out))))
          have n2_ := Aside0.mk (blk_below (g := gb39001) (o := .cells #[.slice A0_0 l0_0.length c0_0, .slice A0_1 l0_1.length c0_1, .int .i64 a0_2, .slice A0_3 l0_3.length c0_3] 25 (0, 0)) (by (with_reducible repeat (first | refine blk_drewN ?_ _ | refine blk_drew ?_ | refine blk_alloc ?_ _)); exact BK39001.out) hb)
          have n3_ := Aside0.mk (blk_below (g := gb39002) (o := .cells #[.slice none 0 0, .slice none 0 0, .int .i64 0, .slice none 0 0] 25 (0, 0)) (by (with_reducible repeat (first | refine blk_drewN ?_ _ | refine blk_drew ?_ | refine blk_alloc ?_ _)); exact BK39002.out) hb)
          have n4_ := Aside0.mk (below_step (by repeat (first | (with_reducible first | exact HB.out | apply below_alloc | apply pw_below_drewN | apply below_drew1 | refine below_set ?_ GE39001.out | refine below_set ?_ GE39002.out) | exact HB.out)) hb)
          clear HO39005
          clear BK39001
          clear BK39002
          clear HB
          have HO39005 := n0_
          have HO39011 := n1_
          have BK39001 := n2_
          have BK39002 := n3_
          have HB := n4_
          clear n0_ n1_ n2_ n3_ n4_
          clear hb ho10
          refine hK.out _ _ ⟨(blk_cell BK39001.out 0).trans rfl, (blk_cell BK39001.out 1).trans rfl, (blk_cell BK39001.out 2).trans rfl, (blk_cell BK39001.out 3).trans rfl⟩ (fun hHeld => ?_)
          clear hK K
          refine norm_ (a' := ?_) ?_ ?_
          rotate_left
          · show Act.put _ (some 11) _ = _
            simp only [Act.put, List.setIfInBounds_toArray, List.set_cons_zero, List.set_cons_succ, i64_w, i32_w]
            rfl
          refine one_ (i := 5) (N := some 8) #[true, true, true, true, true, true, true, true, true, true, true, false, false, false] rfl rfl (one_of HT_.out (by kernel_rfl)) (by decide) (fun K hK => ?_)
          refine goes_ Tryz.func31 (by kernel_rfl) rfl #[.slice A0_1 l0_1.length c0_1] (by rfl) rfl rfl (by (try simp only [List.map_toArray, List.map_cons, List.map_nil]); first | done | rfl | (simp only [List.length_drop, List.length_take]; rfl)) ?_
          with_reducible refine (guidevanebase_CopyInts.calls _ _ l0_1 t39006 _ ?side1 ?side2 A3.out).mono ?_
          (case side1 => repeat (first | exact (Kd.C_below HR0_1.out HB.out) | (with_reducible refine Kd.C_alloc ?_ _) | (with_reducible refine Kd.C_drewN ?_ _) | (with_reducible refine Kd.C_drew ?_)))
          (case side2 => exact HC0_1.out)
          rintro e w11 ⟨v39007, rfl, ho0, hb⟩
          refine ⟨_, rfl, ?_⟩
          have n0_ := Aside0.mk (Kd.R_elder' (by (with_reducible repeat (first | apply Kd.R_alloc | apply Kd.R_drewN | apply Kd.R_drew)); exact HO39005.out) (Kd.R_base ho0) hb)
          have n1_ := Aside0.mk (Kd.R_below (by (with_reducible repeat (first | apply Kd.R_alloc | apply Kd.R_drewN | apply Kd.R_drew)); exact HO39011.out) hb)
          have n2_ := Aside0.mk (Kd.R_lower (Kd.R_new' ho0 (Kd.R_lt (by (with_reducible repeat (first | apply Kd.R_alloc | apply Kd.R_drewN | apply Kd.R_drew)); exact HO39005.out))) (below_size (by repeat (first | (with_reducible first | exact HB.out | apply below_alloc | apply pw_below_drewN | apply below_drew1 | refine below_set ?_ GE39001.out | refine below_set ?_ GE39002.out) | exact HB.out))))
          have n3_ := Aside0.mk (blk_below (g := gb39001) (o := .cells #[.slice A0_0 l0_0.length c0_0, .slice A0_1 l0_1.length c0_1, .int .i64 a0_2, .slice A0_3 l0_3.length c0_3] 25 (0, 0)) (by (with_reducible repeat (first | refine blk_drewN ?_ _ | refine blk_drew ?_ | refine blk_alloc ?_ _)); exact BK39001.out) hb)
          have n4_ := Aside0.mk (blk_below (g := gb39002) (o := .cells #[.slice none 0 0, .slice none 0 0, .int .i64 0, .slice none 0 0] 25 (0, 0)) (by (with_reducible repeat (first | refine blk_drewN ?_ _ | refine blk_drew ?_ | refine blk_alloc ?_ _)); exact BK39002.out) hb)
          have n5_ := Aside0.mk (below_step (by repeat (first | (with_reducible first | exact HB.out | apply below_alloc | apply pw_below_drewN | apply below_drew1 | refine below_set ?_ GE39001.out | refine below_set ?_ GE39002.out) | exact HB.out)) hb)
          clear HO39005
          clear HO39011
          clear BK39001
          clear BK39002
          clear HB
          have HO39005 := n0_
          have HO39011 := n1_
          have HO39008 := n2_
          have BK39001 := n3_
          have BK39002 := n4_
          have HB := n5_
          clear n0_ n1_ n2_ n3_ n4_ n5_
          (try clear hb)
          (try clear hb2)
          (try clear hk)
          (try clear hi)
          (try clear ho0)
          refine hK.out _ _ ⟨(blk_cell BK39001.out 0).trans rfl, (blk_cell BK39001.out 1).trans rfl, (blk_cell BK39001.out 2).trans rfl, (blk_cell BK39001.out 3).trans rfl⟩ (fun hHeld => ?_)
          clear hK K
          refine norm_ (a' := ?_) ?_ ?_
          rotate_left
          · show Act.put _ (some 8) _ = _
            simp only [Act.put, List.setIfInBounds_toArray, List.set_cons_zero, List.set_cons_succ, i64_w, i32_w]
            rfl
          exact norm_ (by simp only [putAll, Act.put, List.setIfInBounds_toArray, List.set_cons_zero, List.set_cons_succ]) (hCont (v39004, v39007, v39010) _ ⟨hHeld, (by (with_reducible repeat (first | apply Kd.R_alloc | apply Kd.R_drewN | apply Kd.R_drew)); exact Kd.R_mono HO39005.out (fun _ hk => hk.2)), (by (with_reducible repeat (first | apply Kd.R_alloc | apply Kd.R_drewN | apply Kd.R_drew)); exact Kd.R_mono HO39008.out (fun _ hk => hk.2)), (by (with_reducible repeat (first | apply Kd.R_alloc | apply Kd.R_drewN | apply Kd.R_drew)); exact HO39011.out), (by (with_reducible repeat (first | refine blk_drewN ?_ _ | refine blk_drew ?_ | refine blk_alloc ?_ _)); exact BK39001.out), (by (with_reducible repeat (first | refine blk_drewN ?_ _ | refine blk_drew ?_ | refine blk_alloc ?_ _)); exact BK39002.out), (by repeat (first | (with_reducible first | exact HB.out | apply below_alloc | apply pw_below_drewN | apply below_drew1 | refine below_set ?_ GE39001.out | refine below_set ?_ GE39002.out) | exact HB.out))⟩)
      · skip
        refine Kd.R_lit_step k62 _ 62 ?hg (N := 11) ?hd (xs := ([] : List (S62))) (inner := []) (ok := fun _ => True) (okp := fun _ => True) ?hr ?hp (fun _ hk => hk) trivial (Below.refl _ _) (Nat.le_refl _) (by simp) ?_; (case hd => rfl); (case hg => rfl); (case hr => first | (go_simp; done) | (go_simp; rfl)); (case hp => exact (Reps.none _ _))
        intro v39010 w8 ho9 hb hg_ hnew_
        clear hg_ hnew_
        (first | rw [← Ny39009.out] at ho9 | (simp only [Int.reduceToNat] at ho9; rw [← Ny39009.out] at ho9))
        have n0_ := Aside0.mk (Kd.R_lower ho9 (below_size (by repeat (first | (with_reducible first | exact HB.out | apply below_alloc | apply pw_below_drewN | apply below_drew1 | refine below_set ?_ GE39001.out | refine below_set ?_ GE39002.out) | exact HB.out))))
        have n1_ := Aside0.mk (blk_below (g := gb39001) (o := .cells #[.slice A0_0 l0_0.length c0_0, .slice A0_1 l0_1.length c0_1, .int .i64 a0_2, .slice A0_3 l0_3.length c0_3] 25 (0, 0)) (by (with_reducible repeat (first | refine blk_drewN ?_ _ | refine blk_drew ?_ | refine blk_alloc ?_ _)); exact BK39001.out) hb)
        have n2_ := Aside0.mk (blk_below (g := gb39002) (o := .cells #[.slice none 0 0, .slice none 0 0, .int .i64 0, .slice none 0 0] 25 (0, 0)) (by (with_reducible repeat (first | refine blk_drewN ?_ _ | refine blk_drew ?_ | refine blk_alloc ?_ _)); exact BK39002.out) hb)
        have n3_ := Aside0.mk (below_step (by repeat (first | (with_reducible first | exact HB.out | apply below_alloc | apply pw_below_drewN | apply below_drew1 | refine below_set ?_ GE39001.out | refine below_set ?_ GE39002.out) | exact HB.out)) hb)
        clear BK39001
        clear BK39002
        clear HB
        have HO39011 := n0_
        have BK39001 := n1_
        have BK39002 := n2_
        have HB := n3_
        clear n0_ n1_ n2_ n3_
        clear hb ho9
        refine hK.out _ _ ⟨(blk_cell BK39001.out 0).trans rfl, (blk_cell BK39001.out 1).trans rfl, (blk_cell BK39001.out 2).trans rfl, (blk_cell BK39001.out 3).trans rfl⟩ (fun hHeld => ?_)
        clear hK K
        refine norm_ (a' := ?_) ?_ ?_
        rotate_left
        · show Act.put _ (some 11) _ = _
          simp only [Act.put, List.setIfInBounds_toArray, List.set_cons_zero, List.set_cons_succ, i64_w, i32_w]
          rfl
        refine one_ (i := 2) (N := some 5) #[true, true, true, true, true, false, true, true, true, true, true, false, false, false] rfl rfl (one_of HT_.out (by kernel_rfl)) (by decide) (fun K hK => ?_)
        refine goes_ Tryz.func31 (by kernel_rfl) rfl #[.slice A0_0 l0_0.length c0_0] (by rfl) rfl rfl (by (try simp only [List.map_toArray, List.map_cons, List.map_nil]); first | done | rfl | (simp only [List.length_drop, List.length_take]; rfl)) ?_
        with_reducible refine (guidevanebase_CopyInts.calls _ _ l0_0 t39003 _ ?side1 ?side2 A2.out).mono ?_
        (case side1 => repeat (first | exact (Kd.C_below HR0_0.out HB.out) | (with_reducible refine Kd.C_alloc ?_ _) | (with_reducible refine Kd.C_drewN ?_ _) | (with_reducible refine Kd.C_drew ?_)))
        (case side2 => exact HC0_0.out)
        rintro e w10 ⟨v39004, rfl, ho0, hb⟩
        refine ⟨_, rfl, ?_⟩
        have n0_ := Aside0.mk (Kd.R_below (by (with_reducible repeat (first | apply Kd.R_alloc | apply Kd.R_drewN | apply Kd.R_drew)); exact HO39011.out) hb)
        have n1_ := Aside0.mk (Kd.R_lower ho0 (below_size (by repeat (first | (with_reducible first | exact HB.out | apply below_alloc | apply pw_below_drewN | apply below_drew1 | refine below_set ?_ GE39001.out | refine below_set ?_ GE39002.out) | exact HB.out))))
        have n2_ := Aside0.mk (blk_below (g := gb39001) (o := .cells #[.slice A0_0 l0_0.length c0_0, .slice A0_1 l0_1.length c0_1, .int .i64 a0_2, .slice A0_3 l0_3.length c0_3] 25 (0, 0)) (by (with_reducible repeat (first | refine blk_drewN ?_ _ | refine blk_drew ?_ | refine blk_alloc ?_ _)); exact BK39001.out) hb)
        have n3_ := Aside0.mk (blk_below (g := gb39002) (o := .cells #[.slice none 0 0, .slice none 0 0, .int .i64 0, .slice none 0 0] 25 (0, 0)) (by (with_reducible repeat (first | refine blk_drewN ?_ _ | refine blk_drew ?_ | refine blk_alloc ?_ _)); exact BK39002.out) hb)
        have n4_ := Aside0.mk (below_step (by repeat (first | (with_reducible first | exact HB.out | apply below_alloc | apply pw_below_drewN | apply below_drew1 | refine below_set ?_ GE39001.out | refine below_set ?_ GE39002.out) | exact HB.out)) hb)
        clear HO39011
        clear BK39001
        clear BK39002
        clear HB
        have HO39011 := n0_
        have HO39005 := n1_
        have BK39001 := n2_
        have BK39002 := n3_
        have HB := n4_
        clear n0_ n1_ n2_ n3_ n4_
        (try clear hb)
        (try clear hb2)
        (try clear hk)
        (try clear hi)
        (try clear ho0)
        refine hK.out _ _ ⟨(blk_cell BK39001.out 0).trans rfl, (blk_cell BK39001.out 1).trans rfl, (blk_cell BK39001.out 2).trans rfl, (blk_cell BK39001.out 3).trans rfl⟩ (fun hHeld => ?_)
        clear hK K
        refine norm_ (a' := ?_) ?_ ?_
        rotate_left
        · show Act.put _ (some 5) _ = _
          simp only [Act.put, List.setIfInBounds_toArray, List.set_cons_zero, List.set_cons_succ, i64_w, i32_w]
          rfl
        refine one_ (i := 5) (N := some 8) #[true, true, true, true, true, true, true, true, true, true, true, false, false, false] rfl rfl (one_of HT_.out (by kernel_rfl)) (by decide) (fun K hK => ?_)
        refine goes_ Tryz.func31 (by kernel_rfl) rfl #[.slice A0_1 l0_1.length c0_1] (by rfl) rfl rfl (by (try simp only [List.map_toArray, List.map_cons, List.map_nil]); first | done | rfl | (simp only [List.length_drop, List.length_take]; rfl)) ?_
        with_reducible refine (guidevanebase_CopyInts.calls _ _ l0_1 t39006 _ ?side1 ?side2 A3.out).mono ?_
        (case side1 => repeat (first | exact (Kd.C_below HR0_1.out HB.out) | (with_reducible refine Kd.C_alloc ?_ _) | (with_reducible refine Kd.C_drewN ?_ _) | (with_reducible refine Kd.C_drew ?_)))
        (case side2 => exact HC0_1.out)
        rintro e w11 ⟨v39007, rfl, ho0, hb⟩
        refine ⟨_, rfl, ?_⟩
        have n0_ := Aside0.mk (Kd.R_below (by (with_reducible repeat (first | apply Kd.R_alloc | apply Kd.R_drewN | apply Kd.R_drew)); exact HO39011.out) hb)
        have n1_ := Aside0.mk (Kd.R_elder' (by (with_reducible repeat (first | apply Kd.R_alloc | apply Kd.R_drewN | apply Kd.R_drew)); exact HO39005.out) (Kd.R_base ho0) hb)
        have n2_ := Aside0.mk (Kd.R_lower (Kd.R_new' ho0 (Kd.R_lt (by (with_reducible repeat (first | apply Kd.R_alloc | apply Kd.R_drewN | apply Kd.R_drew)); exact HO39005.out))) (below_size (by repeat (first | (with_reducible first | exact HB.out | apply below_alloc | apply pw_below_drewN | apply below_drew1 | refine below_set ?_ GE39001.out | refine below_set ?_ GE39002.out) | exact HB.out))))
        have n3_ := Aside0.mk (blk_below (g := gb39001) (o := .cells #[.slice A0_0 l0_0.length c0_0, .slice A0_1 l0_1.length c0_1, .int .i64 a0_2, .slice A0_3 l0_3.length c0_3] 25 (0, 0)) (by (with_reducible repeat (first | refine blk_drewN ?_ _ | refine blk_drew ?_ | refine blk_alloc ?_ _)); exact BK39001.out) hb)
        have n4_ := Aside0.mk (blk_below (g := gb39002) (o := .cells #[.slice none 0 0, .slice none 0 0, .int .i64 0, .slice none 0 0] 25 (0, 0)) (by (with_reducible repeat (first | refine blk_drewN ?_ _ | refine blk_drew ?_ | refine blk_alloc ?_ _)); exact BK39002.out) hb)
        have n5_ := Aside0.mk (below_step (by repeat (first | (with_reducible first | exact HB.out | apply below_alloc | apply pw_below_drewN | apply below_drew1 | refine below_set ?_ GE39001.out | refine below_set ?_ GE39002.out) | exact HB.out)) hb)
        clear HO39011
        clear HO39005
        clear BK39001
        clear BK39002
        clear HB
        have HO39011 := n0_
        have HO39005 := n1_
        have HO39008 := n2_
        have BK39001 := n3_
        have BK39002 := n4_
        have HB := n5_
        clear n0_ n1_ n2_ n3_ n4_ n5_
        (try clear hb)
        (try clear hb2)
        (try clear hk)
        (try clear hi)
        (try clear ho0)
        refine hK.out _ _ ⟨(blk_cell BK39001.out 0).trans rfl, (blk_cell BK39001.out 1).trans rfl, (blk_cell BK39001.out 2).trans rfl, (blk_cell BK39001.out 3).trans rfl⟩ (fun hHeld => ?_)
        clear hK K
        refine norm_ (a' := ?_) ?_ ?_
        rotate_left
        · show Act.put _ (some 8) _ = _
          simp only [Act.put, List.setIfInBounds_toArray, List.set_cons_zero, List.set_cons_succ, i64_w, i32_w]
          rfl
        exact norm_ (by simp only [putAll, Act.put, List.setIfInBounds_toArray, List.set_cons_zero, List.set_cons_succ]) (hCont (v39004, v39007, v39010) _ ⟨hHeld, (by (with_reducible repeat (first | apply Kd.R_alloc | apply Kd.R_drewN | apply Kd.R_drew)); exact Kd.R_mono HO39005.out (fun _ hk => hk.2)), (by (with_reducible repeat (first | apply Kd.R_alloc | apply Kd.R_drewN | apply Kd.R_drew)); exact Kd.R_mono HO39008.out (fun _ hk => hk.2)), (by (with_reducible repeat (first | apply Kd.R_alloc | apply Kd.R_drewN | apply Kd.R_drew)); exact HO39011.out), (by (with_reducible repeat (first | refine blk_drewN ?_ _ | refine blk_drew ?_ | refine blk_alloc ?_ _)); exact BK39001.out), (by (with_reducible repeat (first | refine blk_drewN ?_ _ | refine blk_drew ?_ | refine blk_alloc ?_ _)); exact BK39002.out), (by repeat (first | (with_reducible first | exact HB.out | apply below_alloc | apply pw_below_drewN | apply below_drew1 | refine below_set ?_ GE39001.out | refine below_set ?_ GE39002.out) | exact HB.out))⟩)
    rintro ⟨v39004, v39007, v39010⟩ w12 ⟨hS_, h0_, h1_, h2_, h3_, h4_, h5_⟩
    have n0_ : Aside0 (Kd.R (Kd.int .i64) 3 w12 w.heap.size (fun k_ => some k_ ≠ (v39007 : Value).ownBlock) v39004 t39003) := ⟨h0_⟩
    have n1_ : Aside0 (Kd.R (Kd.int .i64) 3 w12 w.heap.size (fun k_ => some k_ ≠ (v39004 : Value).ownBlock) v39007 t39006) := ⟨h1_⟩
    have n2_ : Aside0 (Kd.R k62 62 w12 w.heap.size (fun _ => True) v39010 y39009) := ⟨h2_⟩
    have n3_ : Aside0 (w12.heap[gb39001]? = some (.cells #[.slice A0_0 l0_0.length c0_0, .slice A0_1 l0_1.length c0_1, .int .i64 a0_2, .slice A0_3 l0_3.length c0_3] 25 (0, 0))) := ⟨h3_⟩
    have n4_ : Aside0 (w12.heap[gb39002]? = some (.cells #[.slice none 0 0, .slice none 0 0, .int .i64 0, .slice none 0 0] 25 (0, 0))) := ⟨h4_⟩
    have n5_ : Aside0 (Below w.heap.size w w12) := ⟨h5_⟩
    clear BK39001
    clear BK39002
    clear HB
    clear h0_ h1_ h2_ h3_ h4_ h5_
    have HO39005 := n0_
    have HO39008 := n1_
    have HO39011 := n2_
    have BK39001 := n3_
    have BK39002 := n4_
    have HB := n5_
    clear n0_ n1_ n2_ n3_ n4_ n5_
    have hHeld : w12.cell? ⟨gb39001, 0, none⟩ = some (.slice A0_0 l0_0.length c0_0) ∧ w12.cell? ⟨gb39001, 1, none⟩ = some (.slice A0_1 l0_1.length c0_1) ∧ w12.cell? ⟨gb39001, 2, none⟩ = some (.int .i64 a0_2) ∧ w12.cell? ⟨gb39001, 3, none⟩ = some (.slice A0_3 l0_3.length c0_3) := hS_
    refine norm_ (a' := ?_) ?_ ?_
    rotate_left
    · simp only [putAll, Act.put, List.setIfInBounds_toArray, List.set_cons_zero, List.set_cons_succ]
      rfl
    refine one_ (i := 11) (N := some 14) #[true, true, true, true, true, true, true, true, true, true, true, true, false, false] rfl rfl (one_of HT_.out (by kernel_rfl)) (by decide) (fun K hK => ?_)
    refine Kd.R_append_rows_step k62 (w0 := w) w.heap.size (by rfl) (.tmp 11) (.tmp 13) 23 62 (.agg #[(.string ⟨#[]⟩), (.int .i64 0)]) 24 rfl Tryz.underlying23 info62 rfl (by decide) (by omega) v39010 y39009 l0_3 _ _ _ (fun _ => True) (fun _ => False) rfl rfl ?aO ?aR (fun _ _ h => h) (fun _ h => h.elim) ?aF ?aB ?aS ?aL ?_
    (case aR => repeat (first | exact (Kd.C_below HR0_3.out HB.out) | (with_reducible refine Kd.C_alloc ?_ _) | (with_reducible refine Kd.C_drewN ?_ _) | (with_reducible refine Kd.C_drew ?_)))
    (case aB => exact (by repeat (first | (with_reducible first | exact HB.out | apply below_alloc | apply pw_below_drewN | apply below_drew1 | refine below_set ?_ GE39001.out | refine below_set ?_ GE39002.out) | exact HB.out)))
    (case aF => exact (fun _ _ => trivial))
    (case aO => exact (by (with_reducible repeat (first | apply Kd.R_alloc | apply Kd.R_drewN | apply Kd.R_drew)); exact HO39011.out))
    (case aS => exact (below_size (by repeat (first | (with_reducible first | exact HB.out | apply below_alloc | apply pw_below_drewN | apply below_drew1 | refine below_set ?_ GE39001.out | refine below_set ?_ GE39002.out) | exact HB.out))))
    (case aL => have := LMc4.out; omega)
    intro v39013 w13 ho hb hg hat
    rw [← Ny39012.out] at ho
    have n0_ := Aside0.mk (blk_grown (g := gb39001) (o := .cells #[.slice A0_0 l0_0.length c0_0, .slice A0_1 l0_1.length c0_1, .int .i64 a0_2, .slice A0_3 l0_3.length c0_3] 25 (0, 0)) (by (with_reducible repeat (first | refine blk_drewN ?_ _ | refine blk_drew ?_ | refine blk_alloc ?_ _)); exact BK39001.out) hg (Kd.R_ne HO39011.out BK39001.out (by decide)))
    have n1_ := Aside0.mk (blk_grown (g := gb39002) (o := .cells #[.slice none 0 0, .slice none 0 0, .int .i64 0, .slice none 0 0] 25 (0, 0)) (by (with_reducible repeat (first | refine blk_drewN ?_ _ | refine blk_drew ?_ | refine blk_alloc ?_ _)); exact BK39002.out) hg (Kd.R_ne HO39011.out BK39002.out (by decide)))
    have n2_ := Aside0.mk (Kd.R_over' (by (with_reducible repeat (first | apply Kd.R_alloc | apply Kd.R_drewN | apply Kd.R_drew)); exact HO39005.out) (Kd.R_typed (by (with_reducible repeat (first | apply Kd.R_alloc | apply Kd.R_drewN | apply Kd.R_drew)); exact HO39011.out)) (by decide) hg)
    have n3_ := Aside0.mk (Kd.R_over' (by (with_reducible repeat (first | apply Kd.R_alloc | apply Kd.R_drewN | apply Kd.R_drew)); exact HO39008.out) (Kd.R_typed (by (with_reducible repeat (first | apply Kd.R_alloc | apply Kd.R_drewN | apply Kd.R_drew)); exact HO39011.out)) (by decide) hg)
    have n4_ := Aside0.mk (hb)
    have n5_ := Aside0.mk (ho)
    clear BK39001
    clear BK39002
    clear HO39005
    clear HO39008
    clear HB
    clear HO39011
    have BK39001 := n0_
    have BK39002 := n1_
    have HO39005 := n2_
    have HO39008 := n3_
    have HB := n4_
    have HO39014 := n5_
    clear n0_ n1_ n2_ n3_ n4_ n5_
    clear ho hb hg hat
    obtain ⟨Ao14, co14, eo14⟩ := Kd.R_slice HO39014.out
    (first | subst eo14 | (injection eo14 with f1_ f2_ f3_; have f4_ := f1_.symm; have f5_ := f3_.symm; clear f1_ f2_ f3_; subst f4_; subst f5_))
    obtain ⟨Ao15, co15, eo15⟩ := Kd.R_slice HO39008.out
    (first | subst eo15 | (injection eo15 with f1_ f2_ f3_; have f4_ := f1_.symm; have f5_ := f3_.symm; clear f1_ f2_ f3_; subst f4_; subst f5_))
    obtain ⟨Ao16, co16, eo16⟩ := Kd.R_slice HO39005.out
    (first | subst eo16 | (injection eo16 with f1_ f2_ f3_; have f4_ := f1_.symm; have f5_ := f3_.symm; clear f1_ f2_ f3_; subst f4_; subst f5_))
    refine hK.out _ _ ⟨(blk_cell BK39001.out 0).trans rfl, (blk_cell BK39001.out 1).trans rfl, (blk_cell BK39001.out 2).trans rfl, (blk_cell BK39001.out 3).trans rfl⟩ (fun hHeld => ?_)
    clear hK K
    refine norm_ (a' := ?_) ?_ ?_
    rotate_left
    · show Act.put _ (some 14) _ = _
      simp only [Act.put, List.setIfInBounds_toArray, List.set_cons_zero, List.set_cons_succ, i64_w, i32_w]
      rfl
    refine pure_ (i := 12) (N := some 15) (v := ?_) (a' := ?_) #[true, true, true, true, true, true, true, true, true, true, true, true, true, false] rfl rfl (any_of HT_.out (by kernel_rfl)) (fun _ _ _ h => h) (Or.inl ⟨by rfl, ?_⟩) ?_ ?_
    rotate_left
    · intro w'
      go_simp
      with_reducible rfl
    rotate_left
    · simp only [Act.put, List.setIfInBounds_toArray, List.set_cons_zero, List.set_cons_succ, i64_w, i32_w]
      rfl
    refine one_ (i := 13) (N := none) #[true, true, true, true, true, true, true, true, true, true, true, true, true, true] rfl rfl (one_of HT_.out (by kernel_rfl)) (by decide) (fun K hK => ?_)
    have hs17 : w13.cell? ⟨gb39002, 0, none⟩ = some (.slice none 0 0) := (blk_cell BK39002.out 0).trans rfl
    have hfs17 := blk_frozen BK39002.out 0
    have hns17_0 := NB39001_39002.out
    have hms17_0 := NB39002_39001.out
    have hs18 : w13.cell? ⟨gb39002, 1, none⟩ = some (.slice none 0 0) := (blk_cell BK39002.out 1).trans rfl
    have hfs18 := blk_frozen BK39002.out 1
    have hns18_0 := NB39001_39002.out
    have hms18_0 := NB39002_39001.out
    have hs19 : w13.cell? ⟨gb39002, 2, none⟩ = some (.int .i64 0) := (blk_cell BK39002.out 2).trans rfl
    have hfs19 := blk_frozen BK39002.out 2
    have hns19_0 := NB39001_39002.out
    have hms19_0 := NB39002_39001.out
    have hs20 : w13.cell? ⟨gb39002, 3, none⟩ = some (.slice none 0 0) := (blk_cell BK39002.out 3).trans rfl
    have hfs20 := blk_frozen BK39002.out 3
    have hns20_0 := NB39001_39002.out
    have hms20_0 := NB39002_39001.out
    refine skip_ (w1 := ?_) (by rfl) rfl ?_ ?_
    rotate_left
    · go_simp
      rfl
    refine hK.out _ _ ⟨((cell_far (p := ⟨gb39002, _, none⟩) NB39001_39002.out _).trans (((cell_far (p := ⟨gb39002, _, none⟩) NB39001_39002.out _).trans (((cell_far (p := ⟨gb39002, _, none⟩) NB39001_39002.out _).trans (((cell_far (p := ⟨gb39002, _, none⟩) NB39001_39002.out _).trans (hHeld.1)))))))), ((cell_far (p := ⟨gb39002, _, none⟩) NB39001_39002.out _).trans (((cell_far (p := ⟨gb39002, _, none⟩) NB39001_39002.out _).trans (((cell_far (p := ⟨gb39002, _, none⟩) NB39001_39002.out _).trans (((cell_far (p := ⟨gb39002, _, none⟩) NB39001_39002.out _).trans (hHeld.2.1)))))))), ((cell_far (p := ⟨gb39002, _, none⟩) NB39001_39002.out _).trans (((cell_far (p := ⟨gb39002, _, none⟩) NB39001_39002.out _).trans (((cell_far (p := ⟨gb39002, _, none⟩) NB39001_39002.out _).trans (((cell_far (p := ⟨gb39002, _, none⟩) NB39001_39002.out _).trans (hHeld.2.2.1)))))))), ((cell_far (p := ⟨gb39002, _, none⟩) NB39001_39002.out _).trans (((cell_far (p := ⟨gb39002, _, none⟩) NB39001_39002.out _).trans (((cell_far (p := ⟨gb39002, _, none⟩) NB39001_39002.out _).trans (((cell_far (p := ⟨gb39002, _, none⟩) NB39001_39002.out _).trans (hHeld.2.2.2))))))))⟩ (fun hHeld => ?_)
    clear hK K
    refine done_ (done_of HT_.out (by kernel_rfl)) ?_
    try go_wp2
    refine bodyPost_ret (results_cell_row rfl _ _ gb39002 25 #[.slice Ao16 t39003.length co16, .slice Ao15 t39006.length co15, .int .i64 a0_2, .slice Ao14 y39012.length co14] (0, 0) _ rfl (by (with_reducible repeat (first | refine blk_drewN ?_ _ | refine blk_drew ?_ | refine blk_alloc ?_ _)); refine blk_put (cs := #[.slice Ao16 t39003.length co16, .slice Ao15 t39006.length co15, .int .i64 a0_2, .slice none 0 0]) ?_ 3 _ rfl; (with_reducible repeat (first | refine blk_drewN ?_ _ | refine blk_drew ?_ | refine blk_alloc ?_ _)); refine blk_put (cs := #[.slice Ao16 t39003.length co16, .slice Ao15 t39006.length co15, .int .i64 0, .slice none 0 0]) ?_ 2 _ rfl; (with_reducible repeat (first | refine blk_drewN ?_ _ | refine blk_drew ?_ | refine blk_alloc ?_ _)); refine blk_put (cs := #[.slice Ao16 t39003.length co16, .slice none 0 0, .int .i64 0, .slice none 0 0]) ?_ 1 _ rfl; (with_reducible repeat (first | refine blk_drewN ?_ _ | refine blk_drew ?_ | refine blk_alloc ?_ _)); refine blk_put (cs := #[.slice none 0 0, .slice none 0 0, .int .i64 0, .slice none 0 0]) ?_ 0 _ rfl; (with_reducible repeat (first | refine blk_drewN ?_ _ | refine blk_drew ?_ | refine blk_alloc ?_ _)); exact BK39002.out) Tryz.underlying25 rfl (by kernel_rfl)) rfl ?_
    exact ⟨_, _, _, by first | rfl | (simp [errW_none, errW_some] <;> rfl) | (simp [*, errW_none, errW_some] <;> rfl), by (with_reducible repeat (first | apply Kd.R_alloc | apply Kd.R_drewN | apply Kd.R_drew)); exact Kd.R_mono (Kd.R_far (p := ⟨gb39002, 3, none⟩) (Kd.R_far (p := ⟨gb39002, 2, none⟩) (Kd.R_far (p := ⟨gb39002, 1, none⟩) (Kd.R_far (p := ⟨gb39002, 0, none⟩) (Kd.R_types HO39005.out BK39002.out (by decide)) (fun _ hk => hk.2) (.slice Ao16 t39003.length co16)) (fun _ hk => hk.2) (.slice Ao15 t39006.length co15)) (fun _ hk => hk.2) (.int .i64 a0_2)) (fun _ hk => hk.2) (.slice Ao14 y39012.length co14)) (fun _ hk => hk.1), by (with_reducible repeat (first | apply Kd.R_alloc | apply Kd.R_drewN | apply Kd.R_drew)); exact Kd.R_mono (Kd.R_far (p := ⟨gb39002, 3, none⟩) (Kd.R_far (p := ⟨gb39002, 2, none⟩) (Kd.R_far (p := ⟨gb39002, 1, none⟩) (Kd.R_far (p := ⟨gb39002, 0, none⟩) (Kd.R_types HO39008.out BK39002.out (by decide)) (fun _ hk => hk.2) (.slice Ao16 t39003.length co16)) (fun _ hk => hk.2) (.slice Ao15 t39006.length co15)) (fun _ hk => hk.2) (.int .i64 a0_2)) (fun _ hk => hk.2) (.slice Ao14 y39012.length co14)) (fun _ hk => hk.1), by (with_reducible repeat (first | apply Kd.R_alloc | apply Kd.R_drewN | apply Kd.R_drew)); exact Kd.R_mono (Kd.R_far (p := ⟨gb39002, 3, none⟩) (Kd.R_far (p := ⟨gb39002, 2, none⟩) (Kd.R_far (p := ⟨gb39002, 1, none⟩) (Kd.R_far (p := ⟨gb39002, 0, none⟩) (Kd.R_types HO39014.out BK39002.out (by decide)) (fun _ hk => hk.2) (.slice Ao16 t39003.length co16)) (fun _ hk => hk.2) (.slice Ao15 t39006.length co15)) (fun _ hk => hk.2) (.int .i64 a0_2)) (fun _ hk => hk.2) (.slice Ao14 y39012.length co14)) (fun _ hk => trivial), by repeat (first | (with_reducible first | exact HB.out | apply below_alloc | apply pw_below_drewN | apply below_drew1 | refine below_set ?_ GE39001.out | refine below_set ?_ GE39002.out) | exact HB.out)⟩
  · rw [if_neg c4] at H
    exact absurd H (by simp)
end Go.Proofs.YteopooljohdoiaaGreat.Px
namespace Go.Proofs.YteopooljohdoiaaGreat.Px
open Go.RowKit Go.Proofs.YteopooljohdoiaaGreatW.PrintWords Go.Proofs.YteopooljohdoiaaGreatW.PrintLast
abbrev Pers := S62
theorem rdP (l : List Pers) (i : Nat) : rd_T62 l (i : Int) = l.getD i z62 := by show l.getD (i : Int).toNat _ = _; rw [Int.toNat_natCast]
def fewR (ups downs : List Int) (ps : List Pers) : Prop := ups.length ≤ 7 ∧ downs.length ≤ 7 ∧ ps.length ≤ 12 ∧ ∀ p ∈ ps, p.f0.size ≤ 30
theorem few_go (ups downs : List Int) (hold : Int) (ps : List Pers) (hl : ps.length ≤ 1000) : ∀ (d i k : Nat), i + d = ps.length → d < k → (∀ j, j < i → (ps.getD j z62).f0.size ≤ 30) → ∃ b, guidevanelaw09_fewRules.l0 k (i : Int) ups downs hold ps = some b ∧ (b = true → ∀ j, j < ps.length → (ps.getD j z62).f0.size ≤ 30) := by
  intro d
  induction d with
  | zero =>
    intro i k hi hk h0
    obtain ⟨k, rfl⟩ : ∃ m, k = m + 1 := ⟨k - 1, by omega⟩
    simp only [guidevanelaw09_fewRules.l0]
    rw [if_neg (by omega)]
    exact ⟨true, rfl, fun _ j hj => h0 j (by omega)⟩
  | succ d ih =>
    intro i k hi hk h0
    obtain ⟨k, rfl⟩ : ∃ m, k = m + 1 := ⟨k - 1, by omega⟩
    simp only [guidevanelaw09_fewRules.l0]
    rw [if_pos (by omega), if_pos (by omega), rdP]
    by_cases h : ((ps.getD i z62).f0.size : Int) > 30
    · rw [if_pos h]; exact ⟨false, rfl, fun hh => by cases hh⟩
    · rw [if_neg h, pw64 (by omega) (by omega), show ((i : Int) + 1) = ((i + 1 : Nat) : Int) from rfl]
      refine ih (i + 1) k (by omega) (by omega) fun j hj => ?_
      by_cases e : j = i
      · subst e; omega
      · exact h0 j (by omega)
theorem few_f (ups downs : List Int) (hold : Int) (ps : List Pers) (k : Nat) (hk : 20 < k) : ∃ b, guidevanelaw09_fewRules.f k ups downs hold ps = some b ∧ (b = true → fewR ups downs ps) := by
  obtain ⟨k, rfl⟩ : ∃ m, k = m + 1 := ⟨k - 1, by omega⟩
  unfold guidevanelaw09_fewRules.f
  simp only [guidevanelaw09_fewRules.j0]
  by_cases h1 : 7 < ups.length
  · rw [if_pos (by omega), if_pos (by trivial)]; exact ⟨false, rfl, fun hh => by cases hh⟩
  rw [if_neg (by omega)]
  by_cases h2 : 7 < downs.length
  · rw [if_pos (by omega), if_pos (by trivial)]; exact ⟨false, rfl, fun hh => by cases hh⟩
  rw [if_neg (by omega)]
  by_cases h3 : 12 < ps.length
  · rw [show decide ((ps.length : Int) > 12) = true from decide_eq_true (by omega), if_pos rfl]; exact ⟨false, rfl, fun hh => by cases hh⟩
  rw [show decide ((ps.length : Int) > 12) = false from decide_eq_false (by omega), if_neg (by decide)]
  obtain ⟨b, hb, hh⟩ := few_go ups downs hold ps (by omega) ps.length 0 k (by omega) (by omega) (fun j hj => absurd hj (by omega))
  refine ⟨b, hb, fun h => ⟨by omega, by omega, by omega, fun p hp => ?_⟩⟩
  obtain ⟨j, hj, rfl⟩ := List.getElem_of_mem hp
  have := hh h j hj
  rwa [List.getD_eq_getElem?_getD, List.getElem?_eq_getElem hj] at this
theorem copyRules_f (ups downs : List Int) (hold : Int) (ps : List Pers) (h : fewR ups downs ps) : guidevaneref09_CopyRules.f ups downs hold ps = some (ups, downs, hold, ps) := by
  have h1 := h.1
  have h2 := h.2.1
  have h3 := h.2.2.1
  unfold guidevaneref09_CopyRules.f
  rw [copyInts_f _ (by omega), copyInts_f _ (by omega)]
  simp only [Option.bind_some, List.length_nil, List.nil_append]
  rw [if_pos (by omega)]
theorem dcheck_f (ups downs : List Int) (hold : Int) (ps : List Pers) (h : fewR ups downs ps) : dam_CheckRules.f ups downs hold ps = some (rulesOut ups downs hold ps) := by
  unfold dam_CheckRules.f
  rw [if_pos (fun p hp => by have := h.2.2.2 p hp; omega)]
theorem rcheck_f (ups downs : List Int) (hold : Int) (ps : List Pers) (h : fewR ups downs ps) : guidevaneref09_CheckRules.f ups downs hold ps = some (rulesOut ups downs hold ps) := by
  have h1 := h.1
  have h3 := h.2.2.1
  unfold guidevaneref09_CheckRules.f
  rw [if_pos ⟨by omega, by omega, fun p hp => by have := h.2.2.2 p hp; omega⟩]
end Go.Proofs.YteopooljohdoiaaGreat.Px
namespace Go.Proofs.YteopooljohdoiaaGreat.Px
open Go.RowKit Go.Proofs.YteopooljohdoiaaGreatW.PrintWords Go.Proofs.YteopooljohdoiaaGreatW.PrintLast Go.Proofs.YteopooljohdoiaaGreatW.PrintMore
attribute [local go_sem] max2_int min2_int max_two min_two max_three min_three max_four min_four
def guidevaneref09_DeviationErr.f (a0 : Int) : Option (Int) := (guidevanebase_Within.f a0 0 1000000).bind fun t81001 => (if t81001 = true then (some 0) else (some 2))
set_option maxHeartbeats 8000000 in
set_option maxRecDepth 100000 in
theorem guidevaneref09_DeviationErr.calls (a0 : Int) (r : Int) (w : World) (h : guidevaneref09_DeviationErr.f a0 = some r) :
    Calls Tryz.prog 27 #[.int .i64 a0] w fun e w' => e = .returned (.int .i64 r) ∧ Drawn0 w w' := by
  have H : ((guidevanebase_Within.f a0 0 1000000).bind fun t81001 => (if t81001 = true then (some 0) else (some 2))) = some r := h
  clear h
  replace H := Option.bind_eq_some_iff.mp H
  obtain ⟨t81001, A20, H⟩ := H
  replace H : (if t81001 = true then (some 0) else (some 2)) = some r := H
  have A2 := Aside0.mk A20
  clear A20
  by_cases c3 : t81001 = true
  · subst c3
    have H1 : (some 0) = some r := by rw [if_pos rfl] at H; exact H
    clear H
    have H := H1
    clear H1
    obtain rfl := Option.some.inj H
    go_enter Tryz.func27, Tryz.ntmps27
    go_wp2_with (first | ((with_reducible refine gate_callee (f := 29) rfl ?_); refine goesL_ (some 4) rfl rfl Tryz.func29 (by kernel_rfl) rfl #[.int .i64 a0, .int .i64 0, .int .i64 1000000] rfl (by (try simp only [List.map_toArray, List.map_cons, List.map_nil]); first | done | rfl | (simp only [List.length_drop, List.length_take]; rfl)) ?_; (with_reducible refine (guidevanebase_Within.calls a0 0 1000000 true _ A2.out).mono ?_); rintro e w' ⟨rfl, ⟨nd, rfl⟩⟩; refine ⟨_, rfl, ?_⟩))
    go_ret
    exact ⟨by first | rfl | (simp; done) | (simp [*]; done), by repeat (first | exact Drawn0.refl _ | apply Drawn0.step)⟩
  · replace c3 := Bool.eq_false_iff.mpr c3
    subst c3
    have H1 : (some 2) = some r := by rw [if_neg (show ¬ (false = true) by decide)] at H; exact H
    clear H
    have H := H1
    clear H1
    obtain rfl := Option.some.inj H
    go_enter Tryz.func27, Tryz.ntmps27
    go_wp2_with (first | ((with_reducible refine gate_callee (f := 29) rfl ?_); refine goesL_ (some 4) rfl rfl Tryz.func29 (by kernel_rfl) rfl #[.int .i64 a0, .int .i64 0, .int .i64 1000000] rfl (by (try simp only [List.map_toArray, List.map_cons, List.map_nil]); first | done | rfl | (simp only [List.length_drop, List.length_take]; rfl)) ?_; (with_reducible refine (guidevanebase_Within.calls a0 0 1000000 false _ A2.out).mono ?_); rintro e w' ⟨rfl, ⟨nd, rfl⟩⟩; refine ⟨_, rfl, ?_⟩))
    go_ret
    exact ⟨by first | rfl | (simp; done) | (simp [*]; done), by repeat (first | exact Drawn0.refl _ | apply Drawn0.step)⟩
end Go.Proofs.YteopooljohdoiaaGreat.Px
namespace Go.Proofs.YteopooljohdoiaaGreat.Px
open Go.RowKit Go.Proofs.YteopooljohdoiaaGreatW.PrintWords Go.Proofs.YteopooljohdoiaaGreatW.PrintLast
structure OkRules (ups downs : List Int) : Prop where
  n1 : 1 ≤ ups.length
  n5 : ups.length ≤ 5
  dl : downs.length = ups.length
  up : ∀ i, i < ups.length → 1 ≤ ups.getD i 0 ∧ ups.getD i 0 ≤ 1000000
  dn : ∀ i, i < ups.length → 1 ≤ downs.getD i 0 ∧ downs.getD i 0 ≤ ups.getD i 0
  asc : ∀ i, i + 1 < ups.length → ups.getD i 0 < ups.getD (i + 1) 0
  nds : ∀ i, i + 1 < ups.length → downs.getD i 0 ≤ downs.getD (i + 1) 0
theorem firstBad_zero {n : Nat} {p : Nat → Int} (h : firstBad n p = none) : ∀ j, j < n → p j = 0 := by
  intro j hj
  unfold firstBad at h
  rw [List.find?_eq_none] at h
  simpa using h j (List.mem_range.2 hj)
theorem firstBad_ne {n : Nat} {p : Nat → Int} {i : Nat} (h : firstBad n p = some i) : ¬ p i = 0 := by
  unfold firstBad at h
  have := List.find?_some h
  simpa using this
theorem firstI3 {a b c : Int} (h : firstI [a, b, c] = 0) : a = 0 ∧ b = 0 ∧ c = 0 := by
  by_cases ha : a = 0
  · by_cases hb : b = 0
    · by_cases hc : c = 0
      · exact ⟨ha, hb, hc⟩
      · simp [firstI, ha, hb, hc] at h
    · simp [firstI, ha, hb] at h
  · simp [firstI, ha] at h
theorem firstI2 {a b : Int} (h : firstI [a, b] = 0) : a = 0 ∧ b = 0 := by
  by_cases ha : a = 0
  · by_cases hb : b = 0
    · exact ⟨ha, hb⟩
    · simp [firstI, ha, hb] at h
  · simp [firstI, ha] at h
theorem unlessI_zero {b : Bool} {e : Int} (he : ¬ e = 0) (h : unlessI b e = 0) : b = true := by
  cases b
  · exact absurd h he
  · rfl
theorem okRules_of {ups downs : List Int} {hold : Int} {ps : List Pers} (h : (rulesOut ups downs hold ps).2 = 0) : OkRules ups downs := by
  rw [rulesOut_eq] at h
  by_cases h0 : ups.length = 0 ∨ downs.length ≠ ups.length
  · rw [if_pos h0] at h; exact absurd h (by decide)
  rw [if_neg h0] at h
  by_cases h5 : 5 < ups.length
  · rw [if_pos h5] at h; exact absurd h (by decide)
  rw [if_neg h5] at h
  unfold rulesSteps at h
  cases hb : firstBad ups.length (stepErr ups downs) with
  | some i =>
    rw [hb] at h
    exact absurd h (firstBad_ne hb)
  | none =>
    have hz := firstBad_zero hb
    have key : ∀ i, i < ups.length → (isThr (ups.getD i 0) = true ∧ isThr (downs.getD i 0) = true) ∧ downs.getD i 0 ≤ ups.getD i 0 ∧ (i = 0 ∨ (ups.getD i 0 > ups.getD (i - 1) 0 ∧ downs.getD i 0 ≥ downs.getD (i - 1) 0)) := by
      intro i hi
      have := hz i hi
      unfold stepErr at this
      obtain ⟨h1, h2, h3⟩ := firstI3 this
      have h1 := unlessI_zero (by decide) h1
      have h2 := unlessI_zero (by decide) h2
      have h3 := unlessI_zero (by decide) h3
      simp only [Bool.and_eq_true, Bool.or_eq_true, decide_eq_true_eq, beq_iff_eq] at h1 h2 h3
      exact ⟨h1, h2, h3⟩
    have thr : ∀ x, isThr x = true → 1 ≤ x ∧ x ≤ 1000000 := by
      intro x hx
      unfold isThr at hx
      simpa only [Bool.and_eq_true, decide_eq_true_eq] using hx
    refine ⟨by omega, by omega, by omega, fun i hi => thr _ (key i hi).1.1, fun i hi => ⟨(thr _ (key i hi).1.2).1, (key i hi).2.1⟩, fun i hi => ?_, fun i hi => ?_⟩
    · rcases (key (i + 1) hi).2.2 with h | h
      · omega
      · exact h.1
    · rcases (key (i + 1) hi).2.2 with h | h
      · omega
      · exact h.2
theorem OkRules.lt {ups downs : List Int} (h : OkRules ups downs) : ∀ d i, i + d + 1 < ups.length → ups.getD i 0 < ups.getD (i + d + 1) 0
  | 0, i, hi => h.asc i hi
  | d + 1, i, hi => Int.lt_trans (h.lt d i (by omega)) (h.asc (i + d + 1) hi)
theorem OkRules.ltj {ups downs : List Int} (h : OkRules ups downs) (i j : Nat) (hij : i < j) (hj : j < ups.length) : ups.getD i 0 < ups.getD j 0 := by
  have := h.lt (j - i - 1) i (by omega)
  rwa [show i + (j - i - 1) + 1 = j by omega] at this
theorem OkRules.dnj {ups downs : List Int} (h : OkRules ups downs) : ∀ d i, i + d < ups.length → downs.getD i 0 ≤ downs.getD (i + d) 0
  | 0, i, hi => Int.le_refl _
  | d + 1, i, hi => Int.le_trans (h.dnj d i (by omega)) (h.nds (i + d) hi)
def IsStep (ups : List Int) (d : Int) (c : Nat) : Prop := c ≤ ups.length ∧ (∀ j, j < c → ups.getD j 0 ≤ d) ∧ (∀ j, c ≤ j → j < ups.length → d < ups.getD j 0)
theorem IsStep.uniq {ups : List Int} {d : Int} {a b : Nat} (ha : IsStep ups d a) (hb : IsStep ups d b) : a = b := by
  rcases Nat.lt_trichotomy a b with h | h | h
  · have h1 := hb.2.1 a h
    have h2 := ha.2.2 a (Nat.le_refl _) (by have := hb.1; omega)
    omega
  · exact h
  · have h1 := ha.2.1 b h
    have h2 := hb.2.2 b (Nat.le_refl _) (by have := ha.1; omega)
    omega
theorem bsearch_go (ups downs : List Int) (h : OkRules ups downs) (d : Int) : ∀ (m lo hi k : Nat), hi - lo ≤ m → lo ≤ hi → hi ≤ ups.length → m < k → (∀ j, j < lo → ups.getD j 0 < d) → (∀ j, hi ≤ j → j < ups.length → d ≤ ups.getD j 0) →
    ∃ (p : Nat) (b : Bool), slices_BinarySearch_int_int.l0 k ups d (ups.length : Int) (lo : Int) (hi : Int) = some ((p : Int), b) ∧ IsStep ups d (if b = true then p + 1 else p) := by
  have hn := h.n5
  intro m
  induction m with
  | zero =>
    intro lo hi k hm hlh hhn hk h1 h2
    obtain ⟨k, rfl⟩ : ∃ m, k = m + 1 := ⟨k - 1, by omega⟩
    obtain rfl : lo = hi := by omega
    simp only [slices_BinarySearch_int_int.l0]
    rw [if_neg (by omega)]
    by_cases hlt : lo < ups.length
    · rw [if_pos (by omega), if_pos (by omega), if_pos (by omega), rd_nat]
      by_cases he : ups.getD lo 0 = d
      · rw [if_pos he]
        refine ⟨lo, true, rfl, by rw [if_pos rfl]; omega, fun j hj => ?_, fun j hj hjn => ?_⟩
        · rw [if_pos rfl] at hj
          by_cases e : j = lo
          · subst e; omega
          · have := h1 j (by omega); omega
        · rw [if_pos rfl] at hj
          have := h.ltj lo j (by omega) hjn
          omega
      · rw [if_neg he, show slices_isNaN_int.f (ups.getD lo 0) = some false by simp [slices_isNaN_int.f]]
        simp only [Option.bind_some]
        refine ⟨lo, false, by simp, by simp; omega, fun j hj => ?_, fun j hj hjn => ?_⟩
        · have := h1 j (by simpa using hj); omega
        · have hj' : lo ≤ j := by simpa using hj
          by_cases e : j = lo
          · subst e; have := h2 j (Nat.le_refl _) hjn; omega
          · have h3 := h.ltj lo j (by omega) hjn
            have h4 := h2 lo (Nat.le_refl _) hlt
            omega
    · rw [if_neg (by omega)]
      refine ⟨lo, false, rfl, by simp; omega, fun j hj => ?_, fun j hj hjn => ?_⟩
      · have := h1 j (by simpa using hj); omega
      · have hj' : lo ≤ j := by simpa using hj
        omega
  | succ m ih =>
    intro lo hi k hm hlh hhn hk h1 h2
    by_cases hlt : lo < hi
    · obtain ⟨k, rfl⟩ : ∃ m, k = m + 1 := ⟨k - 1, by omega⟩
      simp only [slices_BinarySearch_int_int.l0]
      have hmid : wrap64 ((IntKind.u64.wrap (wrap64 ((lo : Int) + (hi : Int)))) / 2) = (((lo + hi) / 2 : Nat) : Int) := by
        rw [pw64 (n := (lo : Int) + (hi : Int)) (by omega) (by omega)]
        have : IntKind.u64.wrap ((lo : Int) + (hi : Int)) = ((lo + hi : Nat) : Int) := by
          simp [IntKind.wrap, IntKind.signed, IntKind.bits]; omega
        rw [this, pw64 (by omega) (by omega)]
        omega
      rw [hmid, if_pos (by omega), if_pos (by omega), if_pos (by omega), rd_nat]
      have hl : cmp_Less_int.f (ups.getD ((lo + hi) / 2) 0) d = some (decide (ups.getD ((lo + hi) / 2) 0 < d)) := by
        unfold cmp_Less_int.f cmp_isNaN_int.f
        by_cases hh : ups.getD ((lo + hi) / 2) 0 < d <;> simp [hh]
      rw [hl]
      simp only [Option.bind_some]
      by_cases hh : ups.getD ((lo + hi) / 2) 0 < d
      · rw [if_pos (decide_eq_true hh), pw64 (by omega) (by omega), show ((((lo + hi) / 2 : Nat) : Int) + 1) = (((lo + hi) / 2 + 1 : Nat) : Int) from rfl]
        refine ih _ hi k (by omega) (by omega) hhn (by omega) (fun j hj => ?_) h2
        by_cases e : j = (lo + hi) / 2
        · subst e; exact hh
        · have := h.ltj j ((lo + hi) / 2) (by omega) (by omega); omega
      · rw [if_neg (fun hh2 => hh (of_decide_eq_true hh2))]
        refine ih lo _ k (by omega) (by omega) (by omega) (by omega) h1 (fun j hj hjn => ?_)
        by_cases e : j = (lo + hi) / 2
        · subst e; omega
        · have := h.ltj ((lo + hi) / 2) j (by omega) hjn; omega
    · exact ih lo hi k (by omega) hlh hhn (by omega) h1 h2
theorem dasked_f (ups downs : List Int) (hold : Int) (ps : List Pers) (d : Int) (k : Nat) (h : OkRules ups downs) (hk : 20 < k) : ∃ c : Nat, dam_rules_asked.f k ups downs hold ps d = some (c : Int) ∧ IsStep ups d c := by
  have hn := h.n5
  obtain ⟨p, b, he, hs⟩ := bsearch_go ups downs h d ups.length 0 ups.length k (by omega) (by omega) (Nat.le_refl _) (by omega) (fun j hj => absurd hj (by omega)) (fun j hj hjn => absurd hj (by omega))
  refine ⟨_, ?_, hs⟩
  unfold dam_rules_asked.f slices_BinarySearch_int_int.f
  rw [show slices_BinarySearch_int_int.l0 k ups d (ups.length : Int) 0 (ups.length : Int) = _ from he]
  simp only [Option.bind_some]
  cases b
  · rfl
  · rw [if_pos rfl, if_pos rfl]
    have := hs.1
    rw [if_pos rfl] at this
    rw [pw64 (by omega) (by omega)]; rfl
def watchS (downs : List Int) (c : Nat) (a b d : Int) : Int × Int × Int :=
  if (c : Int) > a then ((c : Int), 0, d) else if a > 0 then (if d < rd downs (a - 1) then (a, mn (wrap64 (b + 1)) 1000000, d) else (a, 0, d)) else (a, 0, d)
theorem dwatched_f (ups downs : List Int) (hold : Int) (ps : List Pers) (a b x d : Int) (k : Nat) (h : OkRules ups downs) (ha : 0 ≤ a ∧ a ≤ ups.length) (hk : 20 < k) (c : Nat) (hc : IsStep ups d c) : dam_rules_watched.f k ups downs hold ps a b x d = some (watchS downs c a b d) := by
  have hn := h.n5
  have hd := h.dl
  obtain ⟨c2, he, hs⟩ := dasked_f ups downs hold ps d k h hk
  obtain rfl := hc.uniq hs
  unfold dam_rules_watched.f watchS
  rw [he]
  simp only [Option.bind_some]
  by_cases h1 : (c : Int) > a
  · rw [if_pos h1, if_pos h1]
  · rw [if_neg h1, if_neg h1]
    by_cases h2 : a > 0
    · rw [if_pos h2, if_pos h2, pw64 (n := a - 1) (by omega) (by omega), if_pos (by omega), if_pos (by omega)]
      by_cases h3 : d < rd downs (a - 1)
      · rw [if_pos h3, if_pos h3]
      · rw [if_neg h3, if_neg h3]
    · rw [if_neg h2, if_neg h2]
abbrev devOk (n : Int) : Bool := isDev n
theorem isDev_f (n : Int) : dam_isDeviation.f n = some (devOk n) := by
  unfold dam_isDeviation.f
  rw [dwithin_f]; rfl
theorem devErr_f (n : Int) : guidevaneref09_DeviationErr.f n = some (if devOk n = true then 0 else 2) := by
  unfold guidevaneref09_DeviationErr.f
  rw [bwithin_f]
  show (((some (isDev n)).bind fun t1 => if t1 = true then (some 0 : Option Int) else some 2) = some (if isDev n = true then 0 else 2))
  cases isDev n <;> rfl
theorem step_ex (ups downs : List Int) (h : OkRules ups downs) (d : Int) : ∃ c, IsStep ups d c := by
  obtain ⟨c, _, hc⟩ := dasked_f ups downs 0 [] d 100 h (by omega)
  exact ⟨c, hc⟩
theorem firstI_ne {a : Int} {l : List Int} (h : ¬ a = 0) : firstI (a :: l) = a := by simp [firstI, h]
theorem firstI_z {l : List Int} : firstI (0 :: l) = firstI l := by simp [firstI]
end Go.Proofs.YteopooljohdoiaaGreat.Px
namespace Go.Proofs.YteopooljohdoiaaGreat.Px
open Go.RowKit Go.Proofs.YteopooljohdoiaaGreatW.PrintWords Go.Proofs.YteopooljohdoiaaGreatW.PrintLast Go.Proofs.YteopooljohdoiaaGreatW.PrintMore
attribute [local go_sem] max2_int min2_int max_two min_two max_three min_three max_four min_four
def guidevaneref09_StateErr.j0 : Nat → Bool → Int → Int → Int → Option (Int)
  | 0, _, _, _, _ => none
  | k + 1, x18, x45003000, x45003001, x45003002 => if x18 = true then (some 2) else ((guidevaneref09_DeviationErr.f x45003002).bind fun t45005 => (if t45005 = 0 then (if x45003000 = 0 then (if x45003001 = 0 then (some 0) else (some 13)) else (some 0)) else (some t45005)))
def guidevaneref09_StateErr.f (k : Nat) (l0_0 : List Int) (l0_1 : List Int) (a0_2 : Int) (l0_3 : List (S62)) (a1_0 : Int) (a1_1 : Int) (a1_2 : Int) : Option (Int) := (guidevanebase_Within.f a1_0 0 (l0_0.length : Int)).bind fun t45003 => (if t45003 = true then ((guidevanebase_Within.f a1_1 0 1000000).bind fun t45004 => (guidevaneref09_StateErr.j0 k (!t45004) a1_0 a1_1 a1_2)) else (guidevaneref09_StateErr.j0 k true a1_0 a1_1 a1_2))
theorem guidevaneref09_StateErr.mono_l : ∀ k, (∀ y0 y1 y2 y3, LeO (guidevaneref09_StateErr.j0 k y0 y1 y2 y3) (guidevaneref09_StateErr.j0 (k + 1) y0 y1 y2 y3))
  | 0 => fun _ _ _ _ r h => by simp [guidevaneref09_StateErr.j0] at h
  | k + 1 => by
    have ih0 := guidevaneref09_StateErr.mono_l k
    · intro y0 y1 y2 y3
      unfold guidevaneref09_StateErr.j0
      repeat' first
      | (with_reducible exact ih0 _ _ _ _)
      | (with_reducible exact LeO.refl _)
      | (with_reducible exact LeO.none _)
      | (with_reducible refine LeO.ite ?_ ?_)
      | (with_reducible refine LeO.bind ?_ (fun _ => ?_))
      | exact ih0 _ _ _ _
      | exact LeO.none _
      | refine LeO.ite ?_ ?_
      | refine LeO.bind ?_ (fun _ => ?_)
theorem guidevaneref09_StateErr.mono : ∀ a0 a1 a2 a3 a4 a5 a6 k, LeO (guidevaneref09_StateErr.f k a0 a1 a2 a3 a4 a5 a6) (guidevaneref09_StateErr.f (k + 1) a0 a1 a2 a3 a4 a5 a6) := by
  intro a0 a1 a2 a3 a4 a5 a6 k
  have ih0 := guidevaneref09_StateErr.mono_l k
  unfold guidevaneref09_StateErr.f
  repeat' first
      | (with_reducible exact ih0 _ _ _ _)
      | (with_reducible exact LeO.refl _)
      | (with_reducible exact LeO.none _)
      | (with_reducible refine LeO.ite ?_ ?_)
      | (with_reducible refine LeO.bind ?_ (fun _ => ?_))
      | exact ih0 _ _ _ _
      | exact LeO.none _
      | refine LeO.ite ?_ ?_
      | refine LeO.bind ?_ (fun _ => ?_)
set_option maxHeartbeats 8000000 in
set_option maxRecDepth 100000 in
theorem guidevaneref09_StateErr.calls (k : Nat) (A0_0 : Option Addr) (c0_0 : Nat) (l0_0 : List Int) (A0_1 : Option Addr) (c0_1 : Nat) (l0_1 : List Int) (a0_2 : Int) (A0_3 : Option Addr) (c0_3 : Nat) (l0_3 : List (S62)) (a1_0 : Int) (a1_1 : Int) (a1_2 : Int) (r : Int) (w : World) (hr0_0 : Kd.C (Kd.int .i64) w A0_0 l0_0.length l0_0) (hc0_0 : l0_0.length ≤ c0_0) (hr0_1 : Kd.C (Kd.int .i64) w A0_1 l0_1.length l0_1) (hc0_1 : l0_1.length ≤ c0_1) (hr0_3 : Kd.C k62 w A0_3 l0_3.length l0_3) (hc0_3 : l0_3.length ≤ c0_3) (h : guidevaneref09_StateErr.f k l0_0 l0_1 a0_2 l0_3 a1_0 a1_1 a1_2 = some r) :
    Calls Tryz.prog 15 #[.agg #[.slice A0_0 l0_0.length c0_0, .slice A0_1 l0_1.length c0_1, .int .i64 a0_2, .slice A0_3 l0_3.length c0_3], .agg #[.int .i64 a1_0, .int .i64 a1_1, .int .i64 a1_2]] w fun e w' => e = .returned (.int .i64 r) ∧ Below w.heap.size w w' := by
  have hu25 := Tryz.underlying25
  have hu27 := Tryz.underlying27
  have HR0_0 := Aside0.mk hr0_0
  have HC0_0 := Aside0.mk hc0_0
  clear hr0_0 hc0_0
  have HR0_1 := Aside0.mk hr0_1
  have HC0_1 := Aside0.mk hc0_1
  clear hr0_1 hc0_1
  have HR0_3 := Aside0.mk hr0_3
  have HC0_3 := Aside0.mk hc0_3
  clear hr0_3 hc0_3
  have HB := Aside0.mk (Below.refl w.heap.size w)
  have H : ((guidevanebase_Within.f a1_0 0 (l0_0.length : Int)).bind fun t45003 => (if t45003 = true then ((guidevanebase_Within.f a1_1 0 1000000).bind fun t45004 => (guidevaneref09_StateErr.j0 k (!t45004) a1_0 a1_1 a1_2)) else (guidevaneref09_StateErr.j0 k true a1_0 a1_1 a1_2))) = some r := h
  clear h
  have HC3 := Aside0.mk H
  clear H
  go_enter Tryz.func15, Tryz.ntmps15
  go_upto_region 1 with (first | ((with_reducible refine gate_dst (N := 2) rfl ?_); refine box_event ?hg (N := 2) ?hd (cs := #[.slice A0_0 l0_0.length c0_0, .slice A0_1 l0_1.length c0_1, .int .i64 a0_2, .slice A0_3 l0_3.length c0_3]) (t := 25) ?hr ?_; (case hd => rfl); (case hg => rfl); (case hr => first | (go_simp; done) | (go_simp; rfl)); intro gb45001 hg w4 hbox hb; have n0_ := Aside0.mk (below_step (by repeat (first | (with_reducible first | exact HB.out | apply below_alloc | apply pw_below_drewN | apply below_drew1) | exact HB.out)) hb); have n1_ := Aside0.mk (hbox); have n2_ := Aside0.mk ((by rw [hg]; exact (below_size (by repeat (first | (with_reducible first | exact HB.out | apply below_alloc | apply pw_below_drewN | apply below_drew1) | exact HB.out))) : w.heap.size ≤ gb45001)); have n3_ := Aside0.mk ((by rw [hg]; exact (below_size (by repeat (first | (with_reducible first | exact HB.out | apply below_alloc | apply pw_below_drewN | apply below_drew1) | exact HB.out))) : w.heap.size ≤ gb45001)); clear HB; have HB := n0_; have BK45001 := n1_; have GW45001 := n2_; have GE45001 := n3_; clear n0_ n1_ n2_ n3_; clear hb hbox hg) | ((with_reducible refine gate_dst (N := 3) rfl ?_); refine box_event ?hg (N := 3) ?hd (cs := #[.int .i64 a1_0, .int .i64 a1_1, .int .i64 a1_2]) (t := 27) ?hr ?_; (case hd => rfl); (case hg => rfl); (case hr => first | (go_simp; done) | (go_simp; rfl)); intro gb45002 hg w5 hbox hb; have n0_ := Aside0.mk (blk_below (g := gb45001) (o := .cells #[.slice A0_0 l0_0.length c0_0, .slice A0_1 l0_1.length c0_1, .int .i64 a0_2, .slice A0_3 l0_3.length c0_3] 25 (0, 0)) (by (with_reducible repeat (first | refine blk_drewN ?_ _ | refine blk_drew ?_ | refine blk_alloc ?_ _)); exact BK45001.out) hb); have n1_ := Aside0.mk (below_step (by repeat (first | (with_reducible first | exact HB.out | apply below_alloc | apply pw_below_drewN | apply below_drew1 | refine below_set ?_ GE45001.out) | exact HB.out)) hb); have n2_ := Aside0.mk (hbox); have n3_ := Aside0.mk ((by rw [hg]; exact (below_size (by repeat (first | (with_reducible first | exact HB.out | apply below_alloc | apply pw_below_drewN | apply below_drew1 | refine below_set ?_ GE45001.out) | exact HB.out))) : w.heap.size ≤ gb45002)); have n4_ := Aside0.mk ((by rw [hg]; exact (below_size (by repeat (first | (with_reducible first | exact HB.out | apply below_alloc | apply pw_below_drewN | apply below_drew1 | refine below_set ?_ GE45001.out) | exact HB.out))) : w.heap.size ≤ gb45002)); have n5_ := Aside0.mk ((by rw [hg]; exact Nat.ne_of_lt (blk_lt (g := gb45001) (o := .cells #[.slice A0_0 l0_0.length c0_0, .slice A0_1 l0_1.length c0_1, .int .i64 a0_2, .slice A0_3 l0_3.length c0_3] 25 (0, 0)) (by (with_reducible repeat (first | refine blk_drewN ?_ _ | refine blk_drew ?_ | refine blk_alloc ?_ _)); exact BK45001.out)) : gb45001 ≠ gb45002)); have n6_ := Aside0.mk ((by rw [hg]; exact Nat.ne_of_gt (blk_lt (g := gb45001) (o := .cells #[.slice A0_0 l0_0.length c0_0, .slice A0_1 l0_1.length c0_1, .int .i64 a0_2, .slice A0_3 l0_3.length c0_3] 25 (0, 0)) (by (with_reducible repeat (first | refine blk_drewN ?_ _ | refine blk_drew ?_ | refine blk_alloc ?_ _)); exact BK45001.out)) : gb45002 ≠ gb45001)); clear BK45001; clear HB; have BK45001 := n0_; have HB := n1_; have BK45002 := n2_; have GW45002 := n3_; have GE45002 := n4_; have NB45001_45002 := n5_; have NB45002_45001 := n6_; clear n0_ n1_ n2_ n3_ n4_ n5_ n6_; clear hb hbox hg))
  (try simp only [Act.put, List.setIfInBounds_toArray, List.set_cons_zero, List.set_cons_succ])
  go_cut [18] (fun v18 wc => ∃ (kq : Nat) (x18_2 : Bool), v18 = .bool x18_2 ∧ Aside0 (guidevaneref09_StateErr.j0 kq x18_2 a1_0 a1_1 a1_2 = some r) ∧ Aside0 (kq ≤ k) ∧ Aside0 (wc.heap[gb45001]? = some (.cells #[(.slice A0_0 l0_0.length c0_0), (.slice A0_1 l0_1.length c0_1), .int .i64 a0_2, (.slice A0_3 l0_3.length c0_3)] 25 (0, 0))) ∧ Aside0 (wc.heap[gb45002]? = some (.cells #[.int .i64 a1_0, .int .i64 a1_1, .int .i64 a1_2] 27 (0, 0))) ∧ Aside0 (Below w.heap.size w wc))
  case first =>
    have H := HC3.out
    clear HC3
    replace H := Option.bind_eq_some_iff.mp H
    obtain ⟨t45003, A60, H⟩ := H
    replace H : (if t45003 = true then ((guidevanebase_Within.f a1_1 0 1000000).bind fun t45004 => (guidevaneref09_StateErr.j0 k (!t45004) a1_0 a1_1 a1_2)) else (guidevaneref09_StateErr.j0 k true a1_0 a1_1 a1_2)) = some r := H
    have A6 := Aside0.mk A60
    clear A60
    by_cases c7 : t45003 = true
    · subst c7
      have H1 : ((guidevanebase_Within.f a1_1 0 1000000).bind fun t45004 => (guidevaneref09_StateErr.j0 k (!t45004) a1_0 a1_1 a1_2)) = some r := by rw [if_pos rfl] at H; exact H
      clear H
      have H := H1
      clear H1
      replace H := Option.bind_eq_some_iff.mp H
      obtain ⟨t45004, A80, H⟩ := H
      replace H : (guidevaneref09_StateErr.j0 k (!t45004) a1_0 a1_1 a1_2) = some r := H
      have A8 := Aside0.mk A80
      clear A80
      have H' := Aside0.mk H
      clear H
      have hnb9 := NB45002_45001.out
      have hnc9 := NB45001_45002.out
      have hcz10_0 : w5.cell? ⟨gb45002, 0, none⟩ = some (.int .i64 a1_0) := (blk_cell BK45002.out 0).trans rfl
      have hcz10_1 : w5.cell? ⟨gb45002, 1, none⟩ = some (.int .i64 a1_1) := (blk_cell BK45002.out 1).trans rfl
      have hcz10_2 : w5.cell? ⟨gb45002, 2, none⟩ = some (.int .i64 a1_2) := (blk_cell BK45002.out 2).trans rfl
      have hfz10_0 := blk_frozen BK45002.out 0
      have hfz10_1 := blk_frozen BK45002.out 1
      have hfz10_2 := blk_frozen BK45002.out 2
      have hcz11_0 : w5.cell? ⟨gb45001, 0, none⟩ = some (.slice A0_0 l0_0.length c0_0) := (blk_cell BK45001.out 0).trans rfl
      have hcz11_1 : w5.cell? ⟨gb45001, 1, none⟩ = some (.slice A0_1 l0_1.length c0_1) := (blk_cell BK45001.out 1).trans rfl
      have hcz11_2 : w5.cell? ⟨gb45001, 2, none⟩ = some (.int .i64 a0_2) := (blk_cell BK45001.out 2).trans rfl
      have hcz11_3 : w5.cell? ⟨gb45001, 3, none⟩ = some (.slice A0_3 l0_3.length c0_3) := (blk_cell BK45001.out 3).trans rfl
      have hfz11_0 := blk_frozen BK45001.out 0
      have hfz11_1 := blk_frozen BK45001.out 1
      have hfz11_2 := blk_frozen BK45001.out 2
      have hfz11_3 := blk_frozen BK45001.out 3
      go_wp2_with (first | ((with_reducible refine gate_callee (f := 29) rfl ?_); refine goesL_ (some 11) rfl rfl Tryz.func29 (by kernel_rfl) rfl #[.int .i64 a1_0, .int .i64 0, .int .i64 (l0_0.length : Int)] rfl (by (try simp only [List.map_toArray, List.map_cons, List.map_nil]); first | done | rfl | (simp only [List.length_drop, List.length_take]; rfl)) ?_; (with_reducible refine (guidevanebase_Within.calls a1_0 0 (l0_0.length : Int) true _ A6.out).mono ?_); rintro e w' ⟨rfl, ⟨nd, rfl⟩⟩; refine ⟨_, rfl, ?_⟩) | (go_at_call 29; (with_reducible refine (guidevanebase_Within.calls a1_1 0 1000000 t45004 _ A8.out).mono ?_); rintro e w' ⟨rfl, ⟨nd, rfl⟩⟩))
      go_meet
      case rel => exact ⟨_, (!t45004), (by first | rfl | (simp; done) | (simp [*]; done)), H', ⟨by first | omega | exact Nat.le_refl _⟩, ⟨by (with_reducible repeat (first | refine blk_drewN ?_ _ | refine blk_drew ?_ | refine blk_alloc ?_ _)); exact BK45001.out⟩, ⟨by (with_reducible repeat (first | refine blk_drewN ?_ _ | refine blk_drew ?_ | refine blk_alloc ?_ _)); exact BK45002.out⟩, ⟨by repeat (first | (with_reducible first | exact HB.out | apply below_alloc | apply pw_below_drewN | apply below_drew1 | refine below_set ?_ GE45001.out | refine below_set ?_ GE45002.out) | exact HB.out)⟩⟩
    · replace c7 := Bool.eq_false_iff.mpr c7
      subst c7
      have H1 : (guidevaneref09_StateErr.j0 k true a1_0 a1_1 a1_2) = some r := by rw [if_neg (show ¬ (false = true) by decide)] at H; exact H
      clear H
      have H := H1
      clear H1
      have H' := Aside0.mk H
      clear H
      have hnb12 := NB45002_45001.out
      have hnc12 := NB45001_45002.out
      have hcz13_0 : w5.cell? ⟨gb45002, 0, none⟩ = some (.int .i64 a1_0) := (blk_cell BK45002.out 0).trans rfl
      have hcz13_1 : w5.cell? ⟨gb45002, 1, none⟩ = some (.int .i64 a1_1) := (blk_cell BK45002.out 1).trans rfl
      have hcz13_2 : w5.cell? ⟨gb45002, 2, none⟩ = some (.int .i64 a1_2) := (blk_cell BK45002.out 2).trans rfl
      have hfz13_0 := blk_frozen BK45002.out 0
      have hfz13_1 := blk_frozen BK45002.out 1
      have hfz13_2 := blk_frozen BK45002.out 2
      have hcz14_0 : w5.cell? ⟨gb45001, 0, none⟩ = some (.slice A0_0 l0_0.length c0_0) := (blk_cell BK45001.out 0).trans rfl
      have hcz14_1 : w5.cell? ⟨gb45001, 1, none⟩ = some (.slice A0_1 l0_1.length c0_1) := (blk_cell BK45001.out 1).trans rfl
      have hcz14_2 : w5.cell? ⟨gb45001, 2, none⟩ = some (.int .i64 a0_2) := (blk_cell BK45001.out 2).trans rfl
      have hcz14_3 : w5.cell? ⟨gb45001, 3, none⟩ = some (.slice A0_3 l0_3.length c0_3) := (blk_cell BK45001.out 3).trans rfl
      have hfz14_0 := blk_frozen BK45001.out 0
      have hfz14_1 := blk_frozen BK45001.out 1
      have hfz14_2 := blk_frozen BK45001.out 2
      have hfz14_3 := blk_frozen BK45001.out 3
      go_wp2_with (first | ((with_reducible refine gate_callee (f := 29) rfl ?_); refine goesL_ (some 11) rfl rfl Tryz.func29 (by kernel_rfl) rfl #[.int .i64 a1_0, .int .i64 0, .int .i64 (l0_0.length : Int)] rfl (by (try simp only [List.map_toArray, List.map_cons, List.map_nil]); first | done | rfl | (simp only [List.length_drop, List.length_take]; rfl)) ?_; (with_reducible refine (guidevanebase_Within.calls a1_0 0 (l0_0.length : Int) false _ A6.out).mono ?_); rintro e w' ⟨rfl, ⟨nd, rfl⟩⟩; refine ⟨_, rfl, ?_⟩))
      go_meet
      case rel => exact ⟨_, (true), (by first | rfl | (simp; done) | (simp [*]; done)), H', ⟨by first | omega | exact Nat.le_refl _⟩, ⟨by (with_reducible repeat (first | refine blk_drewN ?_ _ | refine blk_drew ?_ | refine blk_alloc ?_ _)); exact BK45001.out⟩, ⟨by (with_reducible repeat (first | refine blk_drewN ?_ _ | refine blk_drew ?_ | refine blk_alloc ?_ _)); exact BK45002.out⟩, ⟨by repeat (first | (with_reducible first | exact HB.out | apply below_alloc | apply pw_below_drewN | apply below_drew1 | refine below_set ?_ GE45001.out | refine below_set ?_ GE45002.out) | exact HB.out)⟩⟩
  case rest =>
    clear HC3
    try clear c1
    try clear c2
    try clear p2
    try clear c7
    try clear c9
    try clear c12
    try clear hcz10_0
    try clear hcz10_1
    try clear hcz10_2
    try clear hcz11_0
    try clear hcz11_1
    try clear hcz11_2
    try clear hcz11_3
    try clear hcz13_0
    try clear hcz13_1
    try clear hcz13_2
    try clear hcz14_0
    try clear hcz14_1
    try clear hcz14_2
    try clear hcz14_3
    try clear hfz10_0
    try clear hfz10_1
    try clear hfz10_2
    try clear hfz11_0
    try clear hfz11_1
    try clear hfz11_2
    try clear hfz11_3
    try clear hfz13_0
    try clear hfz13_1
    try clear hfz13_2
    try clear hfz14_0
    try clear hfz14_1
    try clear hfz14_2
    try clear hfz14_3
    obtain ⟨kq, x18_2, rfl, HA, HJ2, BK45001, BK45002, HB⟩ := hcut
    cases kq with
    | zero => exact absurd HA.out (by simp [guidevaneref09_StateErr.j0])
    | succ kj2 =>
      have H := HA.out
      clear HA
      simp only [guidevaneref09_StateErr.j0] at H
      by_cases c15 : x18_2 = true
      · subst c15
        have H1 : (some 2) = some r := by rw [if_pos rfl] at H; exact H
        clear H
        have H := H1
        clear H1
        obtain rfl := Option.some.inj H
        go_wp2
        go_ret
        exact ⟨by first | rfl | (simp [errW_none, errW_some] <;> rfl) | (simp [*, errW_none, errW_some] <;> rfl), by repeat (first | (with_reducible first | exact HB.out | apply below_alloc | apply pw_below_drewN | apply below_drew1 | refine below_set ?_ GE45001.out | refine below_set ?_ GE45002.out) | exact HB.out)⟩
      · replace c15 := Bool.eq_false_iff.mpr c15
        subst c15
        have H1 : ((guidevaneref09_DeviationErr.f a1_2).bind fun t45005 => (if t45005 = 0 then (if a1_0 = 0 then (if a1_1 = 0 then (some 0) else (some 13)) else (some 0)) else (some t45005))) = some r := by rw [if_neg (show ¬ (false = true) by decide)] at H; exact H
        clear H
        have H := H1
        clear H1
        replace H := Option.bind_eq_some_iff.mp H
        obtain ⟨t45005, A160, H⟩ := H
        replace H : (if t45005 = 0 then (if a1_0 = 0 then (if a1_1 = 0 then (some 0) else (some 13)) else (some 0)) else (some t45005)) = some r := H
        have A16 := Aside0.mk A160
        clear A160
        by_cases c17 : t45005 = 0
        · rw [if_pos c17] at H
          have c17b0 : (t45005 == 0) = true := beq_iff_eq.mpr c17
          have c17b1 : (t45005 != 0) = false := bne_eq_false_iff_eq.mpr c17
          clear c17
          by_cases c18 : a1_0 = 0
          · rw [if_pos c18] at H
            have c18b0 : (a1_0 == 0) = true := beq_iff_eq.mpr c18
            have c18b1 : (a1_0 != 0) = false := bne_eq_false_iff_eq.mpr c18
            clear c18
            by_cases c19 : a1_1 = 0
            · rw [if_pos c19] at H
              have c19b0 : (a1_1 == 0) = true := beq_iff_eq.mpr c19
              have c19b1 : (a1_1 != 0) = false := bne_eq_false_iff_eq.mpr c19
              clear c19
              obtain rfl := Option.some.inj H
              have hnb20 := NB45002_45001.out
              have hnc20 := NB45001_45002.out
              have hcz21_0 : wc.cell? ⟨gb45002, 0, none⟩ = some (.int .i64 a1_0) := (blk_cell BK45002.out 0).trans rfl
              have hcz21_1 : wc.cell? ⟨gb45002, 1, none⟩ = some (.int .i64 a1_1) := (blk_cell BK45002.out 1).trans rfl
              have hcz21_2 : wc.cell? ⟨gb45002, 2, none⟩ = some (.int .i64 a1_2) := (blk_cell BK45002.out 2).trans rfl
              have hfz21_0 := blk_frozen BK45002.out 0
              have hfz21_1 := blk_frozen BK45002.out 1
              have hfz21_2 := blk_frozen BK45002.out 2
              go_wp2_with (first | ((with_reducible refine gate_callee (f := 27) rfl ?_); refine goesL_ (some 21) rfl rfl Tryz.func27 (by kernel_rfl) rfl #[.int .i64 a1_2] rfl (by (try simp only [List.map_toArray, List.map_cons, List.map_nil]); first | done | rfl | (simp only [List.length_drop, List.length_take]; rfl)) ?_; (with_reducible refine (guidevaneref09_DeviationErr.calls a1_2 t45005 _ A16.out).mono ?_); rintro e w' ⟨rfl, ⟨nd, rfl⟩⟩; refine ⟨_, rfl, ?_⟩))
              go_ret
              exact ⟨by first | rfl | (simp [errW_none, errW_some] <;> rfl) | (simp [*, errW_none, errW_some] <;> rfl), by repeat (first | (with_reducible first | exact HB.out | apply below_alloc | apply pw_below_drewN | apply below_drew1 | refine below_set ?_ GE45001.out | refine below_set ?_ GE45002.out) | exact HB.out)⟩
            · rw [if_neg c19] at H
              have c19b0 : (a1_1 == 0) = false := beq_eq_false_iff_ne.mpr c19
              have c19b1 : (a1_1 != 0) = true := bne_iff_ne.mpr c19
              obtain rfl := Option.some.inj H
              have hnb22 := NB45002_45001.out
              have hnc22 := NB45001_45002.out
              have hcz23_0 : wc.cell? ⟨gb45002, 0, none⟩ = some (.int .i64 a1_0) := (blk_cell BK45002.out 0).trans rfl
              have hcz23_1 : wc.cell? ⟨gb45002, 1, none⟩ = some (.int .i64 a1_1) := (blk_cell BK45002.out 1).trans rfl
              have hcz23_2 : wc.cell? ⟨gb45002, 2, none⟩ = some (.int .i64 a1_2) := (blk_cell BK45002.out 2).trans rfl
              have hfz23_0 := blk_frozen BK45002.out 0
              have hfz23_1 := blk_frozen BK45002.out 1
              have hfz23_2 := blk_frozen BK45002.out 2
              go_wp2_with (first | ((with_reducible refine gate_callee (f := 27) rfl ?_); refine goesL_ (some 21) rfl rfl Tryz.func27 (by kernel_rfl) rfl #[.int .i64 a1_2] rfl (by (try simp only [List.map_toArray, List.map_cons, List.map_nil]); first | done | rfl | (simp only [List.length_drop, List.length_take]; rfl)) ?_; (with_reducible refine (guidevaneref09_DeviationErr.calls a1_2 t45005 _ A16.out).mono ?_); rintro e w' ⟨rfl, ⟨nd, rfl⟩⟩; refine ⟨_, rfl, ?_⟩))
              go_ret
              exact ⟨by first | rfl | (simp [errW_none, errW_some] <;> rfl) | (simp [*, errW_none, errW_some] <;> rfl), by repeat (first | (with_reducible first | exact HB.out | apply below_alloc | apply pw_below_drewN | apply below_drew1 | refine below_set ?_ GE45001.out | refine below_set ?_ GE45002.out) | exact HB.out)⟩
          · rw [if_neg c18] at H
            have c18b0 : (a1_0 == 0) = false := beq_eq_false_iff_ne.mpr c18
            have c18b1 : (a1_0 != 0) = true := bne_iff_ne.mpr c18
            obtain rfl := Option.some.inj H
            have hnb24 := NB45002_45001.out
            have hnc24 := NB45001_45002.out
            have hcz25_0 : wc.cell? ⟨gb45002, 0, none⟩ = some (.int .i64 a1_0) := (blk_cell BK45002.out 0).trans rfl
            have hcz25_1 : wc.cell? ⟨gb45002, 1, none⟩ = some (.int .i64 a1_1) := (blk_cell BK45002.out 1).trans rfl
            have hcz25_2 : wc.cell? ⟨gb45002, 2, none⟩ = some (.int .i64 a1_2) := (blk_cell BK45002.out 2).trans rfl
            have hfz25_0 := blk_frozen BK45002.out 0
            have hfz25_1 := blk_frozen BK45002.out 1
            have hfz25_2 := blk_frozen BK45002.out 2
            go_wp2_with (first | ((with_reducible refine gate_callee (f := 27) rfl ?_); refine goesL_ (some 21) rfl rfl Tryz.func27 (by kernel_rfl) rfl #[.int .i64 a1_2] rfl (by (try simp only [List.map_toArray, List.map_cons, List.map_nil]); first | done | rfl | (simp only [List.length_drop, List.length_take]; rfl)) ?_; (with_reducible refine (guidevaneref09_DeviationErr.calls a1_2 t45005 _ A16.out).mono ?_); rintro e w' ⟨rfl, ⟨nd, rfl⟩⟩; refine ⟨_, rfl, ?_⟩))
            go_ret
            exact ⟨by first | rfl | (simp [errW_none, errW_some] <;> rfl) | (simp [*, errW_none, errW_some] <;> rfl), by repeat (first | (with_reducible first | exact HB.out | apply below_alloc | apply pw_below_drewN | apply below_drew1 | refine below_set ?_ GE45001.out | refine below_set ?_ GE45002.out) | exact HB.out)⟩
        · rw [if_neg c17] at H
          have c17b0 : (t45005 == 0) = false := beq_eq_false_iff_ne.mpr c17
          have c17b1 : (t45005 != 0) = true := bne_iff_ne.mpr c17
          obtain rfl := Option.some.inj H
          have hnb26 := NB45002_45001.out
          have hnc26 := NB45001_45002.out
          have hcz27_0 : wc.cell? ⟨gb45002, 0, none⟩ = some (.int .i64 a1_0) := (blk_cell BK45002.out 0).trans rfl
          have hcz27_1 : wc.cell? ⟨gb45002, 1, none⟩ = some (.int .i64 a1_1) := (blk_cell BK45002.out 1).trans rfl
          have hcz27_2 : wc.cell? ⟨gb45002, 2, none⟩ = some (.int .i64 a1_2) := (blk_cell BK45002.out 2).trans rfl
          have hfz27_0 := blk_frozen BK45002.out 0
          have hfz27_1 := blk_frozen BK45002.out 1
          have hfz27_2 := blk_frozen BK45002.out 2
          go_wp2_with (first | ((with_reducible refine gate_callee (f := 27) rfl ?_); refine goesL_ (some 21) rfl rfl Tryz.func27 (by kernel_rfl) rfl #[.int .i64 a1_2] rfl (by (try simp only [List.map_toArray, List.map_cons, List.map_nil]); first | done | rfl | (simp only [List.length_drop, List.length_take]; rfl)) ?_; (with_reducible refine (guidevaneref09_DeviationErr.calls a1_2 t45005 _ A16.out).mono ?_); rintro e w' ⟨rfl, ⟨nd, rfl⟩⟩; refine ⟨_, rfl, ?_⟩))
          go_ret
          exact ⟨by first | rfl | (simp [errW_none, errW_some] <;> rfl) | (simp [*, errW_none, errW_some] <;> rfl), by repeat (first | (with_reducible first | exact HB.out | apply below_alloc | apply pw_below_drewN | apply below_drew1 | refine below_set ?_ GE45001.out | refine below_set ?_ GE45002.out) | exact HB.out)⟩
end Go.Proofs.YteopooljohdoiaaGreat.Px
namespace Go.Proofs.YteopooljohdoiaaGreat.Px
open Go.RowKit Go.Proofs.YteopooljohdoiaaGreatW.PrintWords Go.Proofs.YteopooljohdoiaaGreatW.PrintLast
def stErr (n : Nat) (a b d : Int) : Int := if (decide (0 ≤ a) && decide (a ≤ (n : Int))) = true ∧ (decide (0 ≤ b) && decide (b ≤ 1000000)) = true ∧ devOk d = true then (if a = 0 ∧ ¬ b = 0 then 13 else 0) else 2
theorem dstErr_f (ups downs : List Int) (hold : Int) (ps : List Pers) (a b d : Int) (k : Nat) (hk : 10 < k) : dam_rules_stateErr.f k ups downs hold ps a b d = some (stErr ups.length a b d) := by
  unfold dam_rules_stateErr.f stErr
  rw [dwithin_f, dwithin_f, isDev_f]
  simp only [Option.bind_some, dunless_f]
  cases h1 : (decide (0 ≤ a) && decide (a ≤ (ups.length : Int)))
  · rw [if_neg (show ¬ (false = true) by decide), if_neg (show ¬ (false = true ∧ (decide (0 ≤ b) && decide (b ≤ 1000000)) = true ∧ devOk d = true) from fun hh => by cases hh.1)]
    by_cases ha : a > 0
    · rw [if_pos ha, dfirst_f _ _ (by simp) (by simp; omega)]; simp [firstE]
    · rw [if_neg ha, dfirst_f _ _ (by simp) (by simp; omega)]; simp [firstE]
  · rw [if_pos rfl]
    cases h2 : (decide (0 ≤ b) && decide (b ≤ 1000000))
    · rw [if_neg (show ¬ (false = true) by decide), if_neg (show ¬ (true = true ∧ false = true ∧ devOk d = true) from fun hh => by cases hh.2.1)]
      by_cases ha : a > 0
      · rw [if_pos ha, dfirst_f _ _ (by simp) (by simp; omega)]; simp [firstE]
      · rw [if_neg ha, dfirst_f _ _ (by simp) (by simp; omega)]; simp [firstE]
    · rw [if_pos rfl]
      have ha0 : 0 ≤ a := by
        rw [Bool.and_eq_true] at h1
        exact of_decide_eq_true h1.1
      cases devOk d
      · rw [if_neg (show ¬ (true = true ∧ true = true ∧ false = true) from fun hh => by cases hh.2.2)]
        by_cases ha : a > 0
        · rw [if_pos ha, dfirst_f _ _ (by simp) (by simp; omega)]; simp [firstE]
        · rw [if_neg ha, dfirst_f _ _ (by simp) (by simp; omega)]; simp [firstE]
      · rw [if_pos (show true = true ∧ true = true ∧ true = true from ⟨rfl, rfl, rfl⟩)]
        by_cases ha : a > 0
        · rw [if_pos ha, dfirst_f _ _ (by simp) (by simp; omega), if_neg (show ¬ (a = 0 ∧ ¬ b = 0) by omega)]; simp [firstE]
        · rw [if_neg ha, dfirst_f _ _ (by simp) (by simp; omega)]
          obtain rfl : a = 0 := by omega
          by_cases hb : b = 0
          · subst hb; simp [firstE]
          · simp [firstE, hb]
theorem rstErr_f (ups downs : List Int) (hold : Int) (ps : List Pers) (a b d : Int) (k : Nat) (hk : 10 < k) : guidevaneref09_StateErr.f k ups downs hold ps a b d = some (stErr ups.length a b d) := by
  obtain ⟨k, rfl⟩ : ∃ m, k = m + 1 := ⟨k - 1, by omega⟩
  unfold guidevaneref09_StateErr.f stErr
  rw [bwithin_f, bwithin_f]
  simp only [Option.bind_some, guidevaneref09_StateErr.j0, devErr_f]
  cases h1 : (decide (0 ≤ a) && decide (a ≤ (ups.length : Int)))
  · simp
  · rw [if_pos rfl]
    cases h2 : (decide (0 ≤ b) && decide (b ≤ 1000000))
    · simp
    · rw [show (!true) = false from rfl, if_neg (by decide)]
      cases devOk d
      · simp
      · by_cases ha : a = 0
        · by_cases hb : b = 0 <;> simp [ha, hb]
        · simp [ha]
end Go.Proofs.YteopooljohdoiaaGreat.Px
namespace Go.Proofs.YteopooljohdoiaaGreat.Px
open Go.RowKit Go.Proofs.YteopooljohdoiaaGreatW.PrintWords Go.Proofs.YteopooljohdoiaaGreatW.PrintLast Go.Proofs.YteopooljohdoiaaGreatW.PrintMore
attribute [local go_sem] max2_int min2_int max_two min_two max_three min_three max_four min_four
def lowEnd (a : Int) (rank : Int) (calm : Bool) (st d : Int) : Int × Int × Int × Int :=
  if firstI [unlessI (decide (rank ≥ a)) 18, unlessI calm 24] = 0 then (st, 0, d, 0) else (0, 0, 0, firstI [unlessI (decide (rank ≥ a)) 18, unlessI calm 24])
def lowOut (downs : List Int) (hold : Int) (ps : List S62) (a b d : Int) (nm : ByteArray) (st : Int) : Option (Int × Int × Int × Int) :=
  if idxF (fun p : S62 => p.f0.toList == nm.toList) ps < 0 then some (0, 0, 0, 6)
  else if 0 ≤ st ∧ st ≤ wrap64 (a - 1) then
    (if b ≥ hold then (if st < downs.length then some (lowEnd a (ps.getD (idxF (fun p : S62 => p.f0.toList == nm.toList) ps).toNat z62).f1 (decide (d < downs.getD st.toNat 0)) st d) else none)
     else some (lowEnd a (ps.getD (idxF (fun p : S62 => p.f0.toList == nm.toList) ps).toNat z62).f1 false st d))
  else some (0, 0, 0, 2)
def dam_Lowered.f (k : Nat) (l0_0 : List Int) (l0_1 : List Int) (a0_2 : Int) (l0_3 : List S62) (a1_0 : Int) (a1_1 : Int) (a1_2 : Int) (a2_0 : ByteArray) (a2_1 : Int) : Option (Int × Int × Int × Int) :=
  (dam_openState.f k l0_0 l0_1 a0_2 l0_3 a1_0 a1_1 a1_2).bind fun c => if a2_0.size ≤ 4611686018427387904 then (if firstI [c, unlessI (nameOk a2_0) 4] = 0 then lowOut l0_1 a0_2 l0_3 a1_0 a1_1 a1_2 a2_0 a2_1 else some (0, 0, 0, firstI [c, unlessI (nameOk a2_0) 4])) else none
theorem dam_Lowered.mono : ∀ a0 a1 a2 a3 a4 a5 a6 a7 a8 k, LeO (dam_Lowered.f k a0 a1 a2 a3 a4 a5 a6 a7 a8) (dam_Lowered.f (k + 1) a0 a1 a2 a3 a4 a5 a6 a7 a8) := by
  intro a0 a1 a2 a3 a4 a5 a6 a7 a8 k
  unfold dam_Lowered.f
  exact LeO.bind (dam_openState.mono _ _ _ _ _ _ _ _) fun _ => LeO.refl _
set_option maxHeartbeats 8000000 in
set_option maxRecDepth 100000 in
theorem lowered1_calls (x : S62) (P : Nat) (nm : ByteArray) (st : Int) (w : World) (hc : w.heap[P]? = some (.cells #[.string nm, .int .i64 st] 29 (0, 0))) :
    Calls Tryz.prog 64 #[.agg #[.string x.f0, .int .i64 x.f1], .pointer (some ⟨P, 0, none⟩)] w fun e w' => e = .returned (.bool (x.f0.toList == nm.toList)) ∧ Below w.heap.size w w' := by
  have hu2 := Tryz.underlying62
  have hu3 := Tryz.underlying29
  have h0 : w.cell? ⟨P, 0, none⟩ = some (.string nm) := (blk_cell hc 0).trans rfl
  have hcc : ∀ o, (w.alloc o).cell? ⟨P, 0, none⟩ = some (.string nm) := fun o => ((below_alloc (Below.refl _ w) o).cell (World.block_lt_of_cell? w _ h0)).trans h0
  have hn := World.new_ne w _ h0
  clear hc
  go_enter Tryz.func64, Tryz.ntmps64
  go_wp2
  go_ret
  exact ⟨rfl, below_alloc (Below.refl _ _) _⟩
theorem alloc4 (w : World) (a b c d : Array Value) (ta tb tc td : TypeId) : ∃ w1, w1 = (((w.alloc (.cells a ta)).alloc (.cells b tb)).alloc (.cells c tc)).alloc (.cells d td) ∧ w1.heap[w.heap.size]? = some (.cells a ta (0, 0)) ∧ w1.heap[w.heap.size + 1]? = some (.cells b tb (0, 0)) ∧ w1.heap[w.heap.size + 1 + 1]? = some (.cells c tc (0, 0)) ∧ w1.heap[w.heap.size + 1 + 1 + 1]? = some (.cells d td (0, 0)) ∧ Below w.heap.size w w1 := by
  obtain ⟨w2, rfl, h1, h2, h3, hb⟩ := alloc3 w a b c ta tb tc
  refine ⟨_, rfl, blk_alloc h1 _, blk_alloc h2 _, blk_alloc h3 _, ?_, below_alloc hb _⟩
  have h := blk_new (((w.alloc (.cells a ta)).alloc (.cells b tb)).alloc (.cells c tc)) (.cells d td)
  rwa [show (((w.alloc (.cells a ta)).alloc (.cells b tb)).alloc (.cells c tc)).heap.size = w.heap.size + 1 + 1 + 1 from (Array.size_push _).trans (congrArg (· + 1) ((Array.size_push _).trans (congrArg (· + 1) (Array.size_push _))))] at h
theorem cells2 {w : World} {g : Nat} {t : TypeId} {a b : Value} (h : w.heap[g]? = some (.cells #[a, b] t (0, 0))) : w.cell? ⟨g, 0, none⟩ = some a ∧ w.cell? ⟨g, 1, none⟩ = some b :=
  ⟨(blk_cell h 0).trans rfl, (blk_cell h 1).trans rfl⟩
theorem idxF_lt {α : Type} (p : α → Bool) (l : List α) : idxF p l < (l.length : Int) ∧ -1 ≤ idxF p l := by
  unfold idxF
  cases h : l.findIdx? p with
  | none => simp only; omega
  | some i =>
    rw [List.findIdx?_eq_some_iff_getElem] at h
    obtain ⟨hi, _⟩ := h
    simp only; omega
set_option maxHeartbeats 8000000 in
set_option maxRecDepth 100000 in
theorem dam_Lowered.calls (k : Nat) (A0_0 : Option Addr) (c0_0 : Nat) (l0_0 : List Int) (A0_1 : Option Addr) (c0_1 : Nat) (l0_1 : List Int) (a0_2 : Int) (A0_3 : Option Addr) (c0_3 : Nat) (l0_3 : List S62) (a1_0 : Int) (a1_1 : Int) (a1_2 : Int) (a2_0 : ByteArray) (a2_1 : Int) (r1 : Int) (r2 : Int) (r3 : Int) (r4 : Int) (w : World) (hr0_0 : Kd.C (Kd.int .i64) w A0_0 l0_0.length l0_0) (hc0_0 : l0_0.length ≤ c0_0) (hr0_1 : Kd.C (Kd.int .i64) w A0_1 l0_1.length l0_1) (hc0_1 : l0_1.length ≤ c0_1) (hr0_3 : Kd.C k62 w A0_3 l0_3.length l0_3) (hc0_3 : l0_3.length ≤ c0_3) (h : dam_Lowered.f k l0_0 l0_1 a0_2 l0_3 a1_0 a1_1 a1_2 a2_0 a2_1 = some (r1, r2, r3, r4)) :
    Calls Tryz.prog 12 #[.agg #[.slice A0_0 l0_0.length c0_0, .slice A0_1 l0_1.length c0_1, .int .i64 a0_2, .slice A0_3 l0_3.length c0_3], .agg #[.int .i64 a1_0, .int .i64 a1_1, .int .i64 a1_2], .agg #[.string a2_0, .int .i64 a2_1]] w fun e w' => e = .returned (.tuple #[.agg #[.int .i64 r1, .int .i64 r2, .int .i64 r3], .int .i64 r4]) ∧ Below w.heap.size w w' := by
  have hu := Tryz.underlying123
  have hu1 := Tryz.underlying25
  have hu2 := Tryz.underlying27
  have hu3 := Tryz.underlying29
  have HR0 := Aside0.mk hr0_0
  have HR1 := Aside0.mk hr0_1
  have HR3 := Aside0.mk hr0_3
  have HC := Aside0.mk (And.intro hc0_0 (And.intro hc0_1 hc0_3))
  clear hr0_0 hr0_1 hr0_3 hc0_0 hc0_1 hc0_3
  unfold dam_Lowered.f at h
  replace h := Option.bind_eq_some_iff.mp h
  obtain ⟨e1, hck, h⟩ := h
  have HK := Aside0.mk hck
  have hh : a2_0.size ≤ 4611686018427387904 ∧ (if firstI [e1, unlessI (nameOk a2_0) 4] = 0 then lowOut l0_1 a0_2 l0_3 a1_0 a1_1 a1_2 a2_0 a2_1 else some (0, 0, 0, firstI [e1, unlessI (nameOk a2_0) 4])) = some (r1, r2, r3, r4) := by
    split at h
    · exact ⟨by assumption, h⟩
    · exact absurd h (by simp)
  clear h
  obtain ⟨hsz, h⟩ := hh
  have HN := Aside0.mk (show dam_isName.f a2_0 = some (nameOk a2_0) from by unfold dam_isName.f; rw [if_pos hsz])
  obtain ⟨bn, hbn⟩ : ∃ bn, bn = nameOk a2_0 := ⟨_, rfl⟩
  rw [← hbn] at h HN
  obtain ⟨es, hes⟩ : ∃ es, es = firstI [e1, unlessI bn 4] := ⟨_, rfl⟩
  rw [← hes] at h
  have HOUT := Aside0.mk h
  have HF := Aside0.mk (show dam_first.f 9 [e1, unlessI bn 4] = some es from (first_f2 _ _).trans (by rw [hes]))
  clear hck h hes hbn hsz
  go_enter Tryz.func12, Tryz.ntmps12
  go_upto_region 1 with fail
  obtain ⟨w1, hw, hX, hS, hO, hZ, hb1⟩ := alloc4 w #[.slice A0_0 l0_0.length c0_0, .slice A0_1 l0_1.length c0_1, .int .i64 a0_2, .slice A0_3 l0_3.length c0_3] #[.int .i64 a1_0, .int .i64 a1_1, .int .i64 a1_2] #[.string a2_0, .int .i64 a2_1] #[.int .i64 0, .int .i64 0, .int .i64 0] 25 27 29 27
  rw [← hw]
  obtain ⟨hx0, hx1, hx2, hx3⟩ := cells4 hX
  obtain ⟨hs0, hs1, hs2⟩ := cells3 hS
  have HS := Aside0.mk hS
  have HO := Aside0.mk hO
  have HZ := Aside0.mk hZ
  have HB1 := Aside0.mk hb1
  clear hX hS hO hZ hb1 hw
  go_upto_region 2 with (go_at_call 59; refine (dam_openState.calls k A0_0 c0_0 l0_0 A0_1 c0_1 l0_1 a0_2 A0_3 c0_3 l0_3 a1_0 a1_1 a1_2 e1 _ (Kd.C_below HR0.out HB1.out) HC.out.1 (Kd.C_below HR1.out HB1.out) HC.out.2.1 (Kd.C_below HR3.out HB1.out) HC.out.2.2 HK.out).mono ?_; rintro e w2 ⟨rfl, hb2⟩; have HB2 := Aside0.mk hb2; clear hb2)
  clear hx0 hx1 hx2 hx3 hs0 hs1 hs2
  obtain ⟨w3, hw, hX, hb3⟩ := alloc1 w2 #[.slice A0_0 l0_0.length c0_0, .slice A0_1 l0_1.length c0_1, .int .i64 a0_2, .slice A0_3 l0_3.length c0_3] 123
  rw [← hw]
  have HB3 := Aside0.mk (below_step (below_step HB1.out HB2.out) hb3)
  have HS3 := Aside0.mk (blk_below (blk_below HS.out HB2.out) hb3)
  have HO3 := Aside0.mk (blk_below (blk_below HO.out HB2.out) hb3)
  have HZ3 := Aside0.mk (blk_below (blk_below HZ.out HB2.out) hb3)
  generalize w2.heap.size = G at *
  have HX := Aside0.mk hX
  have HBc := Aside0.mk (Below.refl w3.heap.size w3)
  clear hX hb3 hw
  obtain ⟨ho0, ho1⟩ := cells2 HO3.out
  go_upto_region 3 with (first | (go_at_call 62; refine (dam_isName.calls _ _ _ HN.out).mono ?_; rintro e w5 ⟨rfl, hb3⟩; have hb4 := below_step (show Below w3.heap.size w3 _ by repeat (first | exact HBc.out | apply below_alloc | apply below_drew | apply pw_below_drewN)) hb3; clear HBc; have HBc := Aside0.mk hb4; clear hb4 hb3) | (go_at_call 61; refine (dam_unless.calls _ _ _ _ (unless_f _ _)).mono ?_; rintro e w5 ⟨rfl, hb3⟩; have hb4 := below_step (show Below w3.heap.size w3 _ by repeat (first | exact HBc.out | apply below_alloc | apply below_drew | apply pw_below_drewN)) hb3.below; clear HBc; have HBc := Aside0.mk hb4; clear hb4 hb3) | (go_at_call 60; refine (dam_first.calls 9 _ _ _ es _ (litC _ 32 _ (by simp)) (Nat.le_refl _) HF.out).mono ?_; rintro e w5 ⟨rfl, hb3⟩; have hb4 := below_step (show Below w3.heap.size w3 _ by repeat (first | exact HBc.out | apply below_alloc | apply below_drew | apply pw_below_drewN)) hb3.below; clear HBc; have HBc := Aside0.mk hb4; clear hb4 hb3))
  clear ho0 ho1
  have HB5 := Aside0.mk (below_step HB3.out HBc.out)
  have HZZ := Aside0.mk (blk_below HZ3.out HBc.out)
  have ho := HOUT.out
  by_cases hz : es = 0
  case neg =>
    rw [if_neg hz] at ho
    simp only [Option.some.injEq, Prod.mk.injEq] at ho
    obtain ⟨rfl, rfl, rfl, rfl⟩ := ho
    have hzb : (es != 0) = true := bne_iff_ne.2 hz
    obtain ⟨hz0, hz1, hz2⟩ := cells3 HZZ.out
    obtain ⟨hf0, hf1, hf2, _⟩ := free4 HZZ.out
    clear hz HOUT
    go_wp2
    refine bodyPost_ret (results_ct rfl _ _ (w.heap.size + 1 + 1 + 1) 27 #[.int .i64 _, .int .i64 _, .int .i64 _] (0, 0) _ rfl (blk_put (cs := #[.int .i64 _, .int .i64 _, .int .i64 0]) (blk_put (cs := #[.int .i64 _, .int .i64 0, .int .i64 0]) (blk_put HZZ.out 0 _ rfl) 1 _ rfl) 2 _ rfl) Tryz.underlying27 (by rfl) (by rfl)) rfl ⟨rfl, ?_⟩
    exact below_set (below_set (below_set HB5.out (by omega)) (by omega)) (by omega)
  case pos =>
    subst hz
    rw [if_pos rfl] at ho
    have HL := Aside0.mk ho
    clear ho HOUT
    have hO5 := blk_below HO3.out HBc.out
    have HCL := Aside0.mk (hIndexPerson 64 #[.pointer (some ⟨w.heap.size + 1 + 1, 0, none⟩)] (fun p : S62 => p.f0.toList == a2_0.toList) (fun args w => by rfl) A0_3 c0_3 l0_3 _ (Kd.C_below HR3.out HB5.out) (fun W y hy hb => lowered1_calls y (w.heap.size + 1 + 1) a2_0 a2_1 W (blk_below hO5 hb)))
    obtain ⟨ix, hix⟩ : ∃ ix, ix = idxF (fun p : S62 => p.f0.toList == a2_0.toList) l0_3 := ⟨_, rfl⟩
    have hlt := idxF_lt (fun p : S62 => p.f0.toList == a2_0.toList) l0_3
    rw [← hix] at HCL hlt
    have ho := HL.out
    unfold lowOut at ho
    rw [← hix] at ho
    have HO5 := Aside0.mk hO5
    clear hix HL hO5
    obtain ⟨hx0, hx1, hx2, hx3⟩ := cells4 (blk_below HX.out HBc.out)
    go_upto_region 6 with (go_at_call 63; refine HCL.out.mono ?_; rintro e w6 ⟨rfl, hb6⟩; have HB6 := Aside0.mk hb6; clear hb6)
    have HB7 := Aside0.mk (below_step HB5.out HB6.out)
    have HX7 := Aside0.mk (blk_below (blk_below HX.out HBc.out) HB6.out)
    have HS7 := Aside0.mk (blk_below (blk_below HS3.out HBc.out) HB6.out)
    have HO7 := Aside0.mk (blk_below HO5.out HB6.out)
    have HZ7 := Aside0.mk (blk_below HZZ.out HB6.out)
    clear hx0 hx1 hx2 hx3
    by_cases hneg : ix < 0
    case pos =>
      rw [if_pos hneg] at ho
      simp only [Option.some.injEq, Prod.mk.injEq] at ho
      obtain ⟨rfl, rfl, rfl, rfl⟩ := ho
      obtain ⟨hz0, hz1, hz2⟩ := cells3 HZ7.out
      obtain ⟨hf0, hf1, hf2, _⟩ := free4 HZ7.out
      clear hlt
      go_wp2
      refine bodyPost_ret (results_ct rfl _ _ (w.heap.size + 1 + 1 + 1) 27 #[.int .i64 _, .int .i64 _, .int .i64 _] (0, 0) _ rfl (blk_put (cs := #[.int .i64 _, .int .i64 _, .int .i64 0]) (blk_put (cs := #[.int .i64 _, .int .i64 0, .int .i64 0]) (blk_put HZ7.out 0 _ rfl) 1 _ rfl) 2 _ rfl) Tryz.underlying27 (by rfl) (by rfl)) rfl ⟨rfl, ?_⟩
      exact below_set (below_set (below_set HB7.out (by omega)) (by omega)) (by omega)
    case neg =>
      rw [if_neg hneg] at ho
      obtain ⟨n, rfl⟩ : ∃ n : Nat, ix = (n : Int) := ⟨ix.toNat, by omega⟩
      obtain ⟨q, hq⟩ : ∃ q, q = (decide (0 ≤ a2_1) && decide (a2_1 ≤ wrap64 (a1_0 - 1))) := ⟨_, rfl⟩
      have HW := Aside0.mk (show dam_within.f a2_1 0 (wrap64 (a1_0 - 1)) = some q from by rw [hq]; exact within_f _ _ _)
      obtain ⟨hs0, hs1, hs2⟩ := cells3 HS7.out
      obtain ⟨ho0, ho1⟩ := cells2 HO7.out
      have hnl : n < l0_3.length := by omega
      clear hneg hlt
      cases q
      case false =>
        rw [if_neg (by intro hh; rw [decide_eq_true hh.1, decide_eq_true hh.2] at hq; cases hq)] at ho
        simp only [Option.some.injEq, Prod.mk.injEq] at ho
        obtain ⟨rfl, rfl, rfl, rfl⟩ := ho
        obtain ⟨hz0, hz1, hz2⟩ := cells3 HZ7.out
        obtain ⟨hf0, hf1, hf2, _⟩ := free4 HZ7.out
        clear hq
        have hnn : ¬ ((n : Int) < 0) := by omega
        go_wp2_with (go_at_call 65; refine (dam_within.calls _ _ _ _ _ HW.out).mono ?_; rintro e w8 ⟨rfl, hd⟩; have hb := hd.below; have nb := Aside0.mk (below_step HB7.out hb); have nz := Aside0.mk (blk_below HZ7.out hb); clear hb hd hz0 hz1 hz2 hf0 hf1 hf2 HB7 HZ7; have HB7 := nb; have HZ7 := nz; clear nb nz; obtain ⟨hz0, hz1, hz2⟩ := cells3 HZ7.out; obtain ⟨hf0, hf1, hf2, _⟩ := free4 HZ7.out)
        refine bodyPost_ret (results_ct rfl _ _ (w.heap.size + 1 + 1 + 1) 27 #[.int .i64 _, .int .i64 _, .int .i64 _] (0, 0) _ rfl (blk_put (cs := #[.int .i64 _, .int .i64 _, .int .i64 0]) (blk_put (cs := #[.int .i64 _, .int .i64 0, .int .i64 0]) (blk_put HZ7.out 0 _ rfl) 1 _ rfl) 2 _ rfl) Tryz.underlying27 (by rfl) (by rfl)) rfl ⟨rfl, ?_⟩
        exact below_set (below_set (below_set HB7.out (by omega)) (by omega)) (by omega)
      case true =>
        have hst : 0 ≤ a2_1 ∧ a2_1 ≤ wrap64 (a1_0 - 1) := by
          have h2 := hq.symm
          rw [Bool.and_eq_true, decide_eq_true_eq, decide_eq_true_eq] at h2
          exact h2
        rw [if_pos hst] at ho
        obtain ⟨st, rfl⟩ : ∃ st : Nat, a2_1 = (st : Int) := ⟨a2_1.toNat, by omega⟩
        have hnn : ¬ ((n : Int) < 0) := by omega
        have hnb : (n : Int) < (l0_3.length : Int) := by omega
        have HST := Aside0.mk hst
        clear hq hst
        go_upto_region 10 with (go_at_call 65; refine (dam_within.calls _ _ _ _ _ HW.out).mono ?_; rintro e w8 ⟨rfl, hd⟩; have hb := hd.below; have HB8 := Aside0.mk hb; clear hb hd)
        have HBB := Aside0.mk (below_step HB7.out HB8.out)
        have HXX := Aside0.mk (blk_below HX7.out HB8.out)
        have HSS := Aside0.mk (blk_below HS7.out HB8.out)
        have HOO := Aside0.mk (blk_below HO7.out HB8.out)
        have HZB := Aside0.mk (blk_below HZ7.out HB8.out)
        clear hs0 hs1 hs2 ho0 ho1 HW
        obtain ⟨hs0, hs1, hs2⟩ := cells3 HSS.out
        obtain ⟨ho0, ho1⟩ := cells2 HOO.out
        obtain ⟨hx0, hx1, hx2, hx3⟩ := cells4 HXX.out
        obtain ⟨ad3, e3, hp0, hp1⟩ := at_T62 (Kd.C_below HR3.out HBB.out) (n : Int) (by omega) (by omega)
        cases e3
        rw [show rd_T62 l0_3 (n : Int) = l0_3.getD n z62 from rfl, Int.toNat_natCast] at hp0 hp1
        rw [Int.toNat_natCast] at ho
        obtain ⟨pn, hpn⟩ : ∃ pn, pn = (l0_3.getD n z62).f0 := ⟨_, rfl⟩
        obtain ⟨rk, hrk⟩ : ∃ rk, rk = (l0_3.getD n z62).f1 := ⟨_, rfl⟩
        rw [← hpn] at hp0
        rw [← hrk] at hp1 ho
        have key : ∃ cb : Bool, lowEnd a1_0 rk cb (st : Int) a1_2 = (r1, r2, r3, r4) ∧ ((a0_2 ≤ a1_1 ∧ st < l0_1.length ∧ cb = decide (a1_2 < l0_1.getD st 0)) ∨ (¬ a0_2 ≤ a1_1 ∧ cb = false)) := by
          by_cases hh : a1_1 ≥ a0_2
          · rw [if_pos hh] at ho
            by_cases hl : (st : Int) < (l0_1.length : Int)
            · rw [if_pos hl] at ho
              exact ⟨_, Option.some.inj ho, .inl ⟨hh, by omega, by rw [Int.toNat_natCast]⟩⟩
            · rw [if_neg hl] at ho
              exact absurd ho (by simp)
          · rw [if_neg hh] at ho
            exact ⟨_, Option.some.inj ho, .inr ⟨hh, rfl⟩⟩
        clear ho hpn hrk
        obtain ⟨cb, hend, hcase⟩ := key
        have HEND := Aside0.mk hend
        clear hend
        have HCASE := Aside0.mk hcase
        clear hcase
        go_cut [11] (fun v wx => v = .bool cb ∧ Aside0 (Below w8.heap.size w8 wx))
        case first =>
          rcases HCASE.out with ⟨h1, h2, h3⟩ | ⟨h1, h2⟩
          · have hd1 : decide (a0_2 ≤ a1_1) = true := decide_eq_true h1
            obtain ⟨ad1, e1', hy⟩ := Kd.at_int (Kd.C_below HR1.out HBB.out) (st : Int) (by omega) (by omega)
            cases e1'
            rw [show rd l0_1 (st : Int) = l0_1.getD st 0 from rfl, Int.toNat_natCast] at hy
            generalize l0_1.getD st 0 = dv at *
            have hi0 : (0 : Int) ≤ (st : Int) := by omega
            have hi1 : (st : Int) < (l0_1.length : Int) := by omega
            have H3 := Aside0.mk h3
            clear h1 h2 h3 HCASE
            go_quiet (fail)
            go_wp2
            go_meet
            exact ⟨by rw [H3.out], ⟨pw_below_drewN (Below.refl _ _) _⟩⟩
          · have hd1 : decide (a0_2 ≤ a1_1) = false := decide_eq_false h1
            have H3 := Aside0.mk h2
            clear h1 h2 HCASE
            go_quiet (fail)
            go_wp2
            go_meet
            exact ⟨by rw [H3.out], ⟨pw_below_drewN (Below.refl _ _) _⟩⟩
        case rest =>
          obtain ⟨rfl, HBw⟩ := hcut
          clear hs0 hs1 hs2 ho0 ho1 hx0 hx1 hx2 hx3 hp0 HCASE
          have hp1 := (HBw.out.cell (World.block_lt_of_cell? _ _ hp1)).trans hp1
          obtain ⟨hs0, hs1, hs2⟩ := cells3 (blk_below HSS.out HBw.out)
          obtain ⟨ho0, ho1⟩ := cells2 (blk_below HOO.out HBw.out)
          obtain ⟨hx0, hx1, hx2, hx3⟩ := cells4 (blk_below HXX.out HBw.out)
          have HZC := Aside0.mk (blk_below HZB.out HBw.out)
          have HSC := Aside0.mk (blk_below HSS.out HBw.out)
          have HOC := Aside0.mk (blk_below HOO.out HBw.out)
          have HBC := Aside0.mk (below_step HBB.out HBw.out)
          clear HBB HXX HSS HOO HZB HBw
          have hend := HEND.out
          unfold lowEnd at hend
          obtain ⟨es, hes⟩ : ∃ es, es = firstI [unlessI (decide (a1_0 ≤ rk)) 18, unlessI cb 24] := ⟨_, rfl⟩
          have HF2 := Aside0.mk (show dam_first.f 9 [unlessI (decide (a1_0 ≤ rk)) 18, unlessI cb 24] = some es from (first_f2 _ _).trans (by rw [hes]))
          rw [show firstI [unlessI (decide (rk ≥ a1_0)) 18, unlessI cb 24] = es from hes.symm] at hend
          clear hes HEND
          have HE2 := Aside0.mk hend
          clear hend
          go_upto_region 11 with fail
          refine wp_region_still_tail 13 (by kernel_rfl) (by kernel_rfl) ?_
          simp only [List.take_succ_cons, List.take_zero, List.drop_succ_cons, List.drop_zero]
          repeat (first | still_step | still_call (unless_same _ _ _))
          refine wpStill_nil ?_
          clear hs0 hs1 hs2 ho0 ho1 hx0 hx1 hx2 hx3 hp1
          change wpList _ _ _ _ _ (World.drew _)
          have hd1 := below_drew (Below.refl wc.heap.size wc)
          generalize World.drew wc = wd at *
          have hbd := below_alloc hd1 (.cells (nums .i64 [unlessI (decide (a1_0 ≤ rk)) 18, unlessI cb 24]).toArray 32)
          have HBD := Aside0.mk hbd
          clear hbd hd1
          go_upto_region 12 with (go_at_call 60; refine (dam_first.calls 9 _ _ _ es _ (litC _ 32 _ (by simp)) (Nat.le_refl _) HF2.out).mono ?_; rintro e we ⟨rfl, hb3⟩; have HBE := Aside0.mk (below_step HBD.out hb3.below); clear hb3)
          have HZE := Aside0.mk (blk_below HZC.out HBE.out)
          have HBF := Aside0.mk (below_step HBC.out HBE.out)
          obtain ⟨hz0, hz1, hz2⟩ := cells3 HZE.out
          obtain ⟨hf0, hf1, hf2, _⟩ := free4 HZE.out
          obtain ⟨hs0, hs1, hs2⟩ := cells3 (blk_below HSC.out HBE.out)
          obtain ⟨ho0, ho1⟩ := cells2 (blk_below HOC.out HBE.out)
          have hend := HE2.out
          by_cases hz : es = 0
          case neg =>
            rw [if_neg hz] at hend
            simp only [Prod.mk.injEq] at hend
            obtain ⟨rfl, rfl, rfl, rfl⟩ := hend
            have hzb : (es != 0) = true := bne_iff_ne.2 hz
            clear hz HE2 HF2
            go_wp2
            refine bodyPost_ret (results_ct rfl _ _ (w.heap.size + 1 + 1 + 1) 27 #[.int .i64 _, .int .i64 _, .int .i64 _] (0, 0) _ rfl (blk_put (cs := #[.int .i64 _, .int .i64 _, .int .i64 0]) (blk_put (cs := #[.int .i64 _, .int .i64 0, .int .i64 0]) (blk_put HZE.out 0 _ rfl) 1 _ rfl) 2 _ rfl) Tryz.underlying27 (by rfl) (by rfl)) rfl ⟨rfl, ?_⟩
            exact below_set (below_set (below_set HBF.out (by omega)) (by omega)) (by omega)
          case pos =>
            subst hz
            rw [if_pos rfl] at hend
            simp only [Prod.mk.injEq] at hend
            obtain ⟨rfl, rfl, rfl, rfl⟩ := hend
            clear HE2 HF2
            go_wp2
            refine bodyPost_ret (results_ct rfl _ _ (w.heap.size + 1 + 1 + 1) 27 #[.int .i64 _, .int .i64 _, .int .i64 _] (0, 0) _ rfl (blk_put (cs := #[.int .i64 _, .int .i64 _, .int .i64 0]) (blk_put (cs := #[.int .i64 _, .int .i64 0, .int .i64 0]) (blk_put HZE.out 0 _ rfl) 1 _ rfl) 2 _ rfl) Tryz.underlying27 (by rfl) (by rfl)) rfl ⟨rfl, ?_⟩
            exact below_set (below_set (below_set HBF.out (by omega)) (by omega)) (by omega)
def guidevaneref09_LowerErr.l0 : Nat → Int → List Int → List Int → Int → List (S62) → Int → Int → Int → Option (Int)
  | 0, _, _, _, _, _, _, _, _ => none
  | k + 1, x8, x48002000, x48002001, x48002002, x48002003, x48003000, x48003001, x48003002 => if x8 < x48003000 then (if 0 ≤ x8 then (if x8 < (x48002001.length : Int) then (if x48003002 ≥ (rd x48002001 x8) then (some 24) else (guidevaneref09_LowerErr.l0 k (wrap64 (x8 + 1)) x48002000 x48002001 x48002002 x48002003 x48003000 x48003001 x48003002)) else (none)) else (none)) else (some 0)
def guidevaneref09_LowerErr.f (k : Nat) (l0_0 : List Int) (l0_1 : List Int) (a0_2 : Int) (l0_3 : List (S62)) (a1_0 : Int) (a1_1 : Int) (a1_2 : Int) (a2_0 : ByteArray) (a2_1 : Int) : Option (Int) := (guidevanebase_IsName.f a2_0).bind fun t48004 => (if t48004 = true then ((guidevaneref09_find.f k l0_3 a2_0).bind fun t48005 => (if t48005 < 0 then (some 6) else ((guidevanebase_Within.f a2_1 0 (wrap64 (a1_0 - 1))).bind fun t48006 => (if t48006 = true then (if 0 ≤ t48005 then (if t48005 < (l0_3.length : Int) then (if ((rd_T62 l0_3 t48005).f1) < a1_0 then (some 18) else (if a1_1 < a0_2 then (some 24) else (guidevaneref09_LowerErr.l0 k a2_1 l0_0 l0_1 a0_2 l0_3 a1_0 a1_1 a1_2))) else (none)) else (none)) else (some 2))))) else (some 4))
theorem guidevaneref09_LowerErr.mono_l : ∀ k, (∀ y0 y1 y2 y3 y4 y5 y6 y7, LeO (guidevaneref09_LowerErr.l0 k y0 y1 y2 y3 y4 y5 y6 y7) (guidevaneref09_LowerErr.l0 (k + 1) y0 y1 y2 y3 y4 y5 y6 y7))
  | 0 => fun _ _ _ _ _ _ _ _ r h => by simp [guidevaneref09_LowerErr.l0] at h
  | k + 1 => by
    have ih0 := guidevaneref09_LowerErr.mono_l k
    · intro y0 y1 y2 y3 y4 y5 y6 y7
      unfold guidevaneref09_LowerErr.l0
      repeat' first
      | (with_reducible exact ih0 _ _ _ _ _ _ _ _)
      | (with_reducible exact guidevaneref09_find.mono _ _ _)
      | (with_reducible exact LeO.refl _)
      | (with_reducible exact LeO.none _)
      | (with_reducible refine LeO.ite ?_ ?_)
      | (with_reducible refine LeO.bind ?_ (fun _ => ?_))
      | exact ih0 _ _ _ _ _ _ _ _
      | exact guidevaneref09_find.mono _ _ _
      | exact LeO.none _
      | refine LeO.ite ?_ ?_
      | refine LeO.bind ?_ (fun _ => ?_)
theorem guidevaneref09_LowerErr.mono : ∀ a0 a1 a2 a3 a4 a5 a6 a7 a8 k, LeO (guidevaneref09_LowerErr.f k a0 a1 a2 a3 a4 a5 a6 a7 a8) (guidevaneref09_LowerErr.f (k + 1) a0 a1 a2 a3 a4 a5 a6 a7 a8) := by
  intro a0 a1 a2 a3 a4 a5 a6 a7 a8 k
  have ih0 := guidevaneref09_LowerErr.mono_l k
  unfold guidevaneref09_LowerErr.f
  repeat' first
      | (with_reducible exact ih0 _ _ _ _ _ _ _ _)
      | (with_reducible exact guidevaneref09_find.mono _ _ _)
      | (with_reducible exact LeO.refl _)
      | (with_reducible exact LeO.none _)
      | (with_reducible refine LeO.ite ?_ ?_)
      | (with_reducible refine LeO.bind ?_ (fun _ => ?_))
      | exact ih0 _ _ _ _ _ _ _ _
      | exact guidevaneref09_find.mono _ _ _
      | exact LeO.none _
      | refine LeO.ite ?_ ?_
      | refine LeO.bind ?_ (fun _ => ?_)
set_option maxHeartbeats 8000000 in
set_option maxRecDepth 100000 in
theorem guidevaneref09_LowerErr.calls (k : Nat) (A0_0 : Option Addr) (c0_0 : Nat) (l0_0 : List Int) (A0_1 : Option Addr) (c0_1 : Nat) (l0_1 : List Int) (a0_2 : Int) (A0_3 : Option Addr) (c0_3 : Nat) (l0_3 : List (S62)) (a1_0 : Int) (a1_1 : Int) (a1_2 : Int) (a2_0 : ByteArray) (a2_1 : Int) (r : Int) (w : World) (hr0_0 : Kd.C (Kd.int .i64) w A0_0 l0_0.length l0_0) (hc0_0 : l0_0.length ≤ c0_0) (hr0_1 : Kd.C (Kd.int .i64) w A0_1 l0_1.length l0_1) (hc0_1 : l0_1.length ≤ c0_1) (hr0_3 : Kd.C k62 w A0_3 l0_3.length l0_3) (hc0_3 : l0_3.length ≤ c0_3) (h : guidevaneref09_LowerErr.f k l0_0 l0_1 a0_2 l0_3 a1_0 a1_1 a1_2 a2_0 a2_1 = some r) :
    Calls Tryz.prog 16 #[.agg #[.slice A0_0 l0_0.length c0_0, .slice A0_1 l0_1.length c0_1, .int .i64 a0_2, .slice A0_3 l0_3.length c0_3], .agg #[.int .i64 a1_0, .int .i64 a1_1, .int .i64 a1_2], .agg #[.string a2_0, .int .i64 a2_1]] w fun e w' => e = .returned (.int .i64 r) ∧ Below w.heap.size w w' := by
  have hu1 := Tryz.underlying25
  have hu2 := Tryz.underlying27
  have hu3 := Tryz.underlying29
  have HR1 := Aside0.mk hr0_1
  have HR3 := Aside0.mk hr0_3
  have HC := Aside0.mk (And.intro hc0_0 (And.intro hc0_1 hc0_3))
  clear hr0_0 hr0_1 hr0_3 hc0_0 hc0_1 hc0_3
  unfold guidevaneref09_LowerErr.f at h
  replace h := Option.bind_eq_some_iff.mp h
  obtain ⟨t4, hn, h⟩ := h
  have HN := Aside0.mk hn
  clear hn
  go_enter Tryz.func16, Tryz.ntmps16
  have HH := Aside0.mk h
  clear h
  go_upto_region 1 with fail
  obtain ⟨w1, hw, hX, hS, hO, hb1⟩ := alloc3 w #[.slice A0_0 l0_0.length c0_0, .slice A0_1 l0_1.length c0_1, .int .i64 a0_2, .slice A0_3 l0_3.length c0_3] #[.int .i64 a1_0, .int .i64 a1_1, .int .i64 a1_2] #[.string a2_0, .int .i64 a2_1] 25 27 29
  rw [← hw]
  have HX := Aside0.mk hX
  have HS := Aside0.mk hS
  have HO := Aside0.mk hO
  have HB := Aside0.mk hb1
  clear hX hS hO hb1 hw
  obtain ⟨hx0, hx1, hx2, hx3⟩ := cells4 HX.out
  obtain ⟨hs0, hs1, hs2⟩ := cells3 HS.out
  obtain ⟨ho0, ho1⟩ := cells2 HO.out
  have h := HH.out
  clear HH
  cases t4
  case false =>
    rw [if_neg (by decide)] at h
    obtain rfl := Option.some.inj h
    clear h
    go_wp2_with (go_at_call 67; refine (guidevanebase_IsName.calls _ _ _ HN.out).mono ?_; rintro e_ wa ⟨rfl, hb⟩; have nb := Aside0.mk (below_step HB.out hb); have nx := Aside0.mk (blk_below HX.out hb); have ns := Aside0.mk (blk_below HS.out hb); have no := Aside0.mk (blk_below HO.out hb); clear HB HX HS HO hb hx0 hx1 hx2 hx3 hs0 hs1 hs2 ho0 ho1; have HB := nb; have HX := nx; have HS := ns; have HO := no; clear nb nx ns no; obtain ⟨hx0, hx1, hx2, hx3⟩ := cells4 HX.out; obtain ⟨hs0, hs1, hs2⟩ := cells3 HS.out; obtain ⟨ho0, ho1⟩ := cells2 HO.out)
    go_ret
    exact ⟨rfl, HB.out⟩
  case true =>
  rw [if_pos rfl] at h
  replace h := Option.bind_eq_some_iff.mp h
  obtain ⟨t5, hi, h⟩ := h
  have HI := Aside0.mk hi
  clear hi
  by_cases hneg : t5 < 0
  case pos =>
    rw [if_pos hneg] at h
    obtain rfl := Option.some.inj h
    clear h
    go_wp2_with (first | (go_at_call 67; refine (guidevanebase_IsName.calls _ _ _ HN.out).mono ?_; rintro e_ wa ⟨rfl, hb⟩; have nb := Aside0.mk (below_step HB.out hb); have nx := Aside0.mk (blk_below HX.out hb); have ns := Aside0.mk (blk_below HS.out hb); have no := Aside0.mk (blk_below HO.out hb); clear HB HX HS HO hb hx0 hx1 hx2 hx3 hs0 hs1 hs2 ho0 ho1; have HB := nb; have HX := nx; have HS := ns; have HO := no; clear nb nx ns no; obtain ⟨hx0, hx1, hx2, hx3⟩ := cells4 HX.out; obtain ⟨hs0, hs1, hs2⟩ := cells3 HS.out; obtain ⟨ho0, ho1⟩ := cells2 HO.out) | (go_at_call 68; refine (guidevaneref09_find.calls k A0_3 c0_3 l0_3 a2_0 _ _ (Kd.C_below HR3.out HB.out) HC.out.2.2 HI.out).mono ?_; rintro e_ wa ⟨rfl, hdr⟩; have hb := hdr.below; clear hdr; have nb := Aside0.mk (below_step HB.out hb); have nx := Aside0.mk (blk_below HX.out hb); have ns := Aside0.mk (blk_below HS.out hb); have no := Aside0.mk (blk_below HO.out hb); clear HB HX HS HO hb hx0 hx1 hx2 hx3 hs0 hs1 hs2 ho0 ho1; have HB := nb; have HX := nx; have HS := ns; have HO := no; clear nb nx ns no; obtain ⟨hx0, hx1, hx2, hx3⟩ := cells4 HX.out; obtain ⟨hs0, hs1, hs2⟩ := cells3 HS.out; obtain ⟨ho0, ho1⟩ := cells2 HO.out))
    go_ret
    exact ⟨rfl, HB.out⟩
  case neg =>
  rw [if_neg hneg] at h
  replace h := Option.bind_eq_some_iff.mp h
  obtain ⟨t6, hwi, h⟩ := h
  have HW := Aside0.mk hwi
  clear hwi
  cases t6
  case false =>
    rw [if_neg (by decide)] at h
    obtain rfl := Option.some.inj h
    clear h
    go_wp2_with (first | (go_at_call 67; refine (guidevanebase_IsName.calls _ _ _ HN.out).mono ?_; rintro e_ wa ⟨rfl, hb⟩; have nb := Aside0.mk (below_step HB.out hb); have nx := Aside0.mk (blk_below HX.out hb); have ns := Aside0.mk (blk_below HS.out hb); have no := Aside0.mk (blk_below HO.out hb); clear HB HX HS HO hb hx0 hx1 hx2 hx3 hs0 hs1 hs2 ho0 ho1; have HB := nb; have HX := nx; have HS := ns; have HO := no; clear nb nx ns no; obtain ⟨hx0, hx1, hx2, hx3⟩ := cells4 HX.out; obtain ⟨hs0, hs1, hs2⟩ := cells3 HS.out; obtain ⟨ho0, ho1⟩ := cells2 HO.out) | (go_at_call 68; refine (guidevaneref09_find.calls k A0_3 c0_3 l0_3 a2_0 _ _ (Kd.C_below HR3.out HB.out) HC.out.2.2 HI.out).mono ?_; rintro e_ wa ⟨rfl, hdr⟩; have hb := hdr.below; clear hdr; have nb := Aside0.mk (below_step HB.out hb); have nx := Aside0.mk (blk_below HX.out hb); have ns := Aside0.mk (blk_below HS.out hb); have no := Aside0.mk (blk_below HO.out hb); clear HB HX HS HO hb hx0 hx1 hx2 hx3 hs0 hs1 hs2 ho0 ho1; have HB := nb; have HX := nx; have HS := ns; have HO := no; clear nb nx ns no; obtain ⟨hx0, hx1, hx2, hx3⟩ := cells4 HX.out; obtain ⟨hs0, hs1, hs2⟩ := cells3 HS.out; obtain ⟨ho0, ho1⟩ := cells2 HO.out) | (go_at_call 29; refine (guidevanebase_Within.calls _ _ _ _ _ HW.out).mono ?_; rintro e_ wa ⟨rfl, hdr⟩; have hb := hdr.below; clear hdr; have nb := Aside0.mk (below_step HB.out hb); have nx := Aside0.mk (blk_below HX.out hb); have ns := Aside0.mk (blk_below HS.out hb); have no := Aside0.mk (blk_below HO.out hb); clear HB HX HS HO hb hx0 hx1 hx2 hx3 hs0 hs1 hs2 ho0 ho1; have HB := nb; have HX := nx; have HS := ns; have HO := no; clear nb nx ns no; obtain ⟨hx0, hx1, hx2, hx3⟩ := cells4 HX.out; obtain ⟨hs0, hs1, hs2⟩ := cells3 HS.out; obtain ⟨ho0, ho1⟩ := cells2 HO.out))
    go_ret
    exact ⟨rfl, HB.out⟩
  case true =>
  rw [if_pos rfl, if_pos (show 0 ≤ t5 by omega)] at h
  by_cases hlen : t5 < (l0_3.length : Int)
  case neg => rw [if_neg hlen] at h; exact absurd h (by simp)
  case pos =>
  rw [if_pos hlen] at h
  obtain ⟨n, rfl⟩ : ∃ n : Nat, t5 = (n : Int) := ⟨t5.toNat, by omega⟩
  obtain ⟨rk, hrk⟩ : ∃ rk, rk = (rd_T62 l0_3 (n : Int)).f1 := ⟨_, rfl⟩
  rw [← hrk] at h
  have HRK := Aside0.mk hrk
  have HH := Aside0.mk h
  clear h hrk
  go_upto_region 8 with (first | (go_at_call 67; refine (guidevanebase_IsName.calls _ _ _ HN.out).mono ?_; rintro e_ wa ⟨rfl, hb⟩; have nb := Aside0.mk (below_step HB.out hb); have nx := Aside0.mk (blk_below HX.out hb); have ns := Aside0.mk (blk_below HS.out hb); have no := Aside0.mk (blk_below HO.out hb); clear HB HX HS HO hb hx0 hx1 hx2 hx3 hs0 hs1 hs2 ho0 ho1; have HB := nb; have HX := nx; have HS := ns; have HO := no; clear nb nx ns no; obtain ⟨hx0, hx1, hx2, hx3⟩ := cells4 HX.out; obtain ⟨hs0, hs1, hs2⟩ := cells3 HS.out; obtain ⟨ho0, ho1⟩ := cells2 HO.out) | (go_at_call 68; refine (guidevaneref09_find.calls k A0_3 c0_3 l0_3 a2_0 _ _ (Kd.C_below HR3.out HB.out) HC.out.2.2 HI.out).mono ?_; rintro e_ wa ⟨rfl, hdr⟩; have hb := hdr.below; clear hdr; have nb := Aside0.mk (below_step HB.out hb); have nx := Aside0.mk (blk_below HX.out hb); have ns := Aside0.mk (blk_below HS.out hb); have no := Aside0.mk (blk_below HO.out hb); clear HB HX HS HO hb hx0 hx1 hx2 hx3 hs0 hs1 hs2 ho0 ho1; have HB := nb; have HX := nx; have HS := ns; have HO := no; clear nb nx ns no; obtain ⟨hx0, hx1, hx2, hx3⟩ := cells4 HX.out; obtain ⟨hs0, hs1, hs2⟩ := cells3 HS.out; obtain ⟨ho0, ho1⟩ := cells2 HO.out) | (go_at_call 29; refine (guidevanebase_Within.calls _ _ _ _ _ HW.out).mono ?_; rintro e_ wa ⟨rfl, hdr⟩; have hb := hdr.below; clear hdr; have nb := Aside0.mk (below_step HB.out hb); have nx := Aside0.mk (blk_below HX.out hb); have ns := Aside0.mk (blk_below HS.out hb); have no := Aside0.mk (blk_below HO.out hb); clear HB HX HS HO hb hx0 hx1 hx2 hx3 hs0 hs1 hs2 ho0 ho1; have HB := nb; have HX := nx; have HS := ns; have HO := no; clear nb nx ns no; obtain ⟨hx0, hx1, hx2, hx3⟩ := cells4 HX.out; obtain ⟨hs0, hs1, hs2⟩ := cells3 HS.out; obtain ⟨ho0, ho1⟩ := cells2 HO.out))
  obtain ⟨ad3, e3, hp0, hp1⟩ := at_T62 (Kd.C_below HR3.out HB.out) (n : Int) (by omega) (by omega)
  cases e3
  rw [← HRK.out] at hp1
  rw [Int.toNat_natCast] at hp0 hp1
  have h := HH.out
  have hn0 : (0 : Int) ≤ (n : Int) := by omega
  clear HH hneg
  by_cases hr : rk < a1_0
  case pos =>
    rw [if_pos hr] at h
    obtain rfl := Option.some.inj h
    clear h
    go_quiet (fail)
    go_wp2
    go_ret
    exact ⟨rfl, by repeat (first | exact HB.out | apply pw_below_drewN | apply below_drew)⟩
  case neg =>
  rw [if_neg hr] at h
  by_cases hh : a1_1 < a0_2
  case pos =>
    rw [if_pos hh] at h
    obtain rfl := Option.some.inj h
    clear h
    go_quiet (fail)
    go_wp2
    go_ret
    exact ⟨rfl, by repeat (first | exact HB.out | apply pw_below_drewN | apply below_drew)⟩
  case neg =>
  rw [if_neg hh] at h
  have HH := Aside0.mk h
  clear h
  go_quiet (fail)
  go_upto_block 13 with fail
  clear hr hh hp0 hp1 hn0 hlen hx0 hx1 hx2 hx3 hs0 hs1 hs2 ho0 ho1 HRK
  go_loopg [8] k (fun kq v8 W => ∃ x8 : Int, v8 = .int .i64 x8 ∧ Aside0 (guidevaneref09_LowerErr.l0 kq x8 l0_0 l0_1 a0_2 l0_3 a1_0 a1_1 a1_2 = some r) ∧ Aside0 (kq ≤ k) ∧ Aside0 (Below w.heap.size w W) ∧ Aside0 (W.heap[w.heap.size]? = some (.cells #[.slice A0_0 l0_0.length c0_0, .slice A0_1 l0_1.length c0_1, .int .i64 a0_2, .slice (some ad3) l0_3.length c0_3] 25 (0, 0))) ∧ Aside0 (W.heap[w.heap.size + 1]? = some (.cells #[.int .i64 a1_0, .int .i64 a1_1, .int .i64 a1_2] 27 (0, 0))))
  case atStart => exact ⟨a2_1, rfl, HH, ⟨Nat.le_refl _⟩, ⟨pw_below_drewN HB.out _⟩, ⟨HX.out⟩, ⟨HS.out⟩⟩
  case round =>
    clear HX HS HO HH HB
    obtain ⟨x8, rfl, HA, HK1, HB, HX, HS⟩ := hrel
    obtain ⟨hx0, hx1, hx2, hx3⟩ := cells4 HX.out
    obtain ⟨hs0, hs1, hs2⟩ := cells3 HS.out
    cases gk with
    | zero => exact absurd HA.out (by simp [guidevaneref09_LowerErr.l0])
    | succ k1 =>
      have H := HA.out
      clear HA
      simp only [guidevaneref09_LowerErr.l0] at H
      by_cases c1 : x8 < a1_0
      case neg =>
        rw [if_neg c1] at H
        obtain rfl := Option.some.inj H
        clear H
        go_wp2
        go_ret
        exact ⟨rfl, HB.out⟩
      case pos =>
      rw [if_pos c1] at H
      by_cases c2 : 0 ≤ x8
      case neg => rw [if_neg c2] at H; exact absurd H (by simp)
      case pos =>
      rw [if_pos c2] at H
      by_cases c3 : x8 < (l0_1.length : Int)
      case neg => rw [if_neg c3] at H; exact absurd H (by simp)
      case pos =>
      rw [if_pos c3] at H
      obtain ⟨ad1, e1, hy⟩ := Kd.at_int (Kd.C_below HR1.out HB.out) x8 (by omega) (by omega)
      cases e1
      generalize rd l0_1 x8 = y at *
      by_cases c4 : a1_2 ≥ y
      case pos =>
        rw [if_pos c4] at H
        obtain rfl := Option.some.inj H
        clear H
        go_upto_region 15 with fail
        go_quiet (fail)
        go_wp2
        go_ret
        exact ⟨rfl, by repeat (first | exact HB.out | apply pw_below_drewN | apply below_drew)⟩
      case neg =>
        rw [if_neg c4] at H
        have c4' : ¬ y ≤ a1_2 := c4
        have H' := Aside0.mk H
        clear H c4
        go_upto_region 15 with fail
        go_quiet (fail)
        go_wp2
        go_roundg k1
        case measure => have := HK1.out; omega
        case rel => exact ⟨wrap64 (x8 + 1), by first | rfl | (simp; done) | (simp [*]; done), H', ⟨by have := HK1.out; omega⟩, ⟨pw_below_drewN HB.out _⟩, ⟨HX.out⟩, ⟨HS.out⟩⟩
def guidevaneref09_RulesErr.f (l0_0 : List Int) (l0_1 : List Int) (a0_2 : Int) (l0_3 : List (S62)) : Option (Int) := (guidevaneref09_CheckRules.f l0_0 l0_1 a0_2 l0_3).bind fun bt42002 => (some bt42002.2)
set_option maxHeartbeats 8000000 in
set_option maxRecDepth 100000 in
theorem guidevaneref09_RulesErr.calls (A0_0 : Option Addr) (c0_0 : Nat) (l0_0 : List Int) (A0_1 : Option Addr) (c0_1 : Nat) (l0_1 : List Int) (a0_2 : Int) (A0_3 : Option Addr) (c0_3 : Nat) (l0_3 : List (S62)) (r : Int) (w : World) (hr0_0 : Kd.C (Kd.int .i64) w A0_0 l0_0.length l0_0) (hc0_0 : l0_0.length ≤ c0_0) (hr0_1 : Kd.C (Kd.int .i64) w A0_1 l0_1.length l0_1) (hc0_1 : l0_1.length ≤ c0_1) (hr0_3 : Kd.C k62 w A0_3 l0_3.length l0_3) (hc0_3 : l0_3.length ≤ c0_3) (h : guidevaneref09_RulesErr.f l0_0 l0_1 a0_2 l0_3 = some r) :
    Calls Tryz.prog 14 #[.agg #[.slice A0_0 l0_0.length c0_0, .slice A0_1 l0_1.length c0_1, .int .i64 a0_2, .slice A0_3 l0_3.length c0_3]] w fun e w' => e = .returned (.int .i64 r) ∧ Below w.heap.size w w' := by
  have hu25 := Tryz.underlying25
  have HR0_0 := Aside0.mk hr0_0
  have HC0_0 := Aside0.mk hc0_0
  clear hr0_0 hc0_0
  have HR0_1 := Aside0.mk hr0_1
  have HC0_1 := Aside0.mk hc0_1
  clear hr0_1 hc0_1
  have HR0_3 := Aside0.mk hr0_3
  have HC0_3 := Aside0.mk hc0_3
  clear hr0_3 hc0_3
  have HB := Aside0.mk (Below.refl w.heap.size w)
  have H : ((guidevaneref09_CheckRules.f l0_0 l0_1 a0_2 l0_3).bind fun bt42002 => (some bt42002.2)) = some r := h
  clear h
  replace H := Option.bind_eq_some_iff.mp H
  obtain ⟨⟨t42002, t42003⟩, A20, H⟩ := H
  replace H : (some t42003) = some r := H
  have A2 := Aside0.mk A20
  clear A20
  obtain rfl := Option.some.inj H
  go_enter Tryz.func14, Tryz.ntmps14
  go_wp2_with (first | ((with_reducible refine gate_dst (N := 1) rfl ?_); refine box_event ?hg (N := 1) ?hd (cs := #[.slice A0_0 l0_0.length c0_0, .slice A0_1 l0_1.length c0_1, .int .i64 a0_2, .slice A0_3 l0_3.length c0_3]) (t := 25) ?hr ?_; (case hd => rfl); (case hg => rfl); (case hr => first | (go_simp; done) | (go_simp; rfl)); intro gb42001 hg w3 hbox hb; have n0_ := Aside0.mk (below_step (by repeat (first | (with_reducible first | exact HB.out | apply below_alloc | apply pw_below_drewN | apply below_drew1) | exact HB.out)) hb); have n1_ := Aside0.mk (hbox); have n2_ := Aside0.mk ((by rw [hg]; exact (below_size (by repeat (first | (with_reducible first | exact HB.out | apply below_alloc | apply pw_below_drewN | apply below_drew1) | exact HB.out))) : w.heap.size ≤ gb42001)); have n3_ := Aside0.mk ((by rw [hg]; exact (below_size (by repeat (first | (with_reducible first | exact HB.out | apply below_alloc | apply pw_below_drewN | apply below_drew1) | exact HB.out))) : w.heap.size ≤ gb42001)); clear HB; have HB := n0_; have BK42001 := n1_; have GW42001 := n2_; have GE42001 := n3_; clear n0_ n1_ n2_ n3_; clear hb hbox hg; have hcz4_0 : w3.cell? ⟨gb42001, 0, none⟩ = some (.slice A0_0 l0_0.length c0_0) := (blk_cell BK42001.out 0).trans rfl; have hcz4_1 : w3.cell? ⟨gb42001, 1, none⟩ = some (.slice A0_1 l0_1.length c0_1) := (blk_cell BK42001.out 1).trans rfl; have hcz4_2 : w3.cell? ⟨gb42001, 2, none⟩ = some (.int .i64 a0_2) := (blk_cell BK42001.out 2).trans rfl; have hcz4_3 : w3.cell? ⟨gb42001, 3, none⟩ = some (.slice A0_3 l0_3.length c0_3) := (blk_cell BK42001.out 3).trans rfl; have hfz4_0 := blk_frozen BK42001.out 0; have hfz4_1 := blk_frozen BK42001.out 1; have hfz4_2 := blk_frozen BK42001.out 2; have hfz4_3 := blk_frozen BK42001.out 3) | ((with_reducible refine gate_callee (f := 66) rfl ?_); refine goesL_ (some 7) rfl rfl Tryz.func66 (by kernel_rfl) rfl #[.agg #[.slice A0_0 l0_0.length c0_0, .slice A0_1 l0_1.length c0_1, .int .i64 a0_2, .slice A0_3 l0_3.length c0_3]] rfl (by (try simp only [List.map_toArray, List.map_cons, List.map_nil]); first | done | rfl | (simp only [List.length_drop, List.length_take]; rfl)) ?_; (with_reducible refine (guidevaneref09_CheckRules.calls _ _ l0_0 _ _ l0_1 a0_2 _ _ l0_3 t42002 t42003 _ ?side1 ?side2 ?side3 ?side4 ?side5 ?side6 A2.out).mono ?_); (case side1 => repeat (first | exact (Kd.C_below HR0_0.out HB.out) | (with_reducible refine Kd.C_alloc ?_ _) | (with_reducible refine Kd.C_drewN ?_ _) | (with_reducible refine Kd.C_drew ?_))); (case side2 => exact HC0_0.out); (case side3 => repeat (first | exact (Kd.C_below HR0_1.out HB.out) | (with_reducible refine Kd.C_alloc ?_ _) | (with_reducible refine Kd.C_drewN ?_ _) | (with_reducible refine Kd.C_drew ?_))); (case side4 => exact HC0_1.out); (case side5 => repeat (first | exact (Kd.C_below HR0_3.out HB.out) | (with_reducible refine Kd.C_alloc ?_ _) | (with_reducible refine Kd.C_drewN ?_ _) | (with_reducible refine Kd.C_drew ?_))); (case side6 => exact HC0_3.out); rintro e w5 ⟨rfl, hb⟩; refine ⟨_, rfl, ?_⟩; have n0_ := Aside0.mk (blk_below (g := gb42001) (o := .cells #[.slice A0_0 l0_0.length c0_0, .slice A0_1 l0_1.length c0_1, .int .i64 a0_2, .slice A0_3 l0_3.length c0_3] 25 (0, 0)) (by (with_reducible repeat (first | refine blk_drewN ?_ _ | refine blk_drew ?_ | refine blk_alloc ?_ _)); exact BK42001.out) hb); have n1_ := Aside0.mk (below_step (by repeat (first | (with_reducible first | exact HB.out | apply below_alloc | apply pw_below_drewN | apply below_drew1 | refine below_set ?_ GE42001.out) | exact HB.out)) hb); clear BK42001; clear HB; have BK42001 := n0_; have HB := n1_; clear n0_ n1_; (try clear hb); (try clear hb2); (try clear hk); (try clear hi)))
  go_ret
  exact ⟨by first | rfl | (simp [errW_none, errW_some] <;> rfl) | (simp [*, errW_none, errW_some] <;> rfl), by repeat (first | (with_reducible first | exact HB.out | apply below_alloc | apply pw_below_drewN | apply below_drew1 | refine below_set ?_ GE42001.out) | exact HB.out)⟩
end Go.Proofs.YteopooljohdoiaaGreat.Px
namespace Go.Proofs.YteopooljohdoiaaGreat.Px
open Go.RowKit Go.Proofs.YteopooljohdoiaaGreatW.PrintWords Go.Proofs.YteopooljohdoiaaGreatW.PrintLast Go.Proofs.YteopooljohdoiaaGreatW.PrintMore
theorem rulesErrL_f (ups downs : List Int) (hold : Int) (ps : List Pers) (h : fewR ups downs ps) : guidevaneref09_RulesErr.f ups downs hold ps = some (rulesOut ups downs hold ps).2 := by
  unfold guidevaneref09_RulesErr.f
  rw [rcheck_f ups downs hold ps h]; rfl
theorem openStateL_f (ups downs : List Int) (hold : Int) (ps : List Pers) (a b x : Int) (k : Nat) (h : fewR ups downs ps) (hk : 100 < k) : dam_openState.f k ups downs hold ps a b x = some (if (rulesOut ups downs hold ps).2 = 0 then stErr ups.length a b x else (rulesOut ups downs hold ps).2) := by
  unfold dam_openState.f
  rw [dcheck_f _ _ _ _ h]
  simp only [Option.bind_some]
  by_cases he : (rulesOut ups downs hold ps).2 = 0
  · rw [if_pos he, if_pos he, dstErr_f _ _ _ _ _ _ _ _ (by omega)]
  · rw [if_neg he, if_neg he]
theorem stErrL_zero {n : Nat} {a b d : Int} (h : stErr n a b d = 0) : (0 ≤ a ∧ a ≤ n) ∧ (0 ≤ b ∧ b ≤ 1000000) := by
  unfold stErr at h
  split at h
  · rename_i hc
    obtain ⟨h1, h2, h3⟩ := hc
    rw [Bool.and_eq_true, decide_eq_true_eq, decide_eq_true_eq] at h1 h2
    exact ⟨h1, h2⟩
  · exact absurd h (by decide)
theorem lowerLoop_ok (ups downs : List Int) (hold : Int) (ps : List Pers) (a b d : Int) (hdl : downs.length ≤ 1000) (han : a ≤ (downs.length : Int)) : ∀ (m i k : Nat), (i : Int) + m = a → m < k → (∀ j, i ≤ j → (j : Int) < a → d < downs.getD j 0) → guidevaneref09_LowerErr.l0 k (i : Int) ups downs hold ps a b d = some 0 := by
  intro m
  induction m with
  | zero =>
    intro i k hi hk h
    obtain ⟨k, rfl⟩ : ∃ m, k = m + 1 := ⟨k - 1, by omega⟩
    simp only [guidevaneref09_LowerErr.l0]
    rw [if_neg (by omega)]
  | succ m ih =>
    intro i k hi hk h
    obtain ⟨k, rfl⟩ : ∃ m, k = m + 1 := ⟨k - 1, by omega⟩
    simp only [guidevaneref09_LowerErr.l0]
    have hd := h i (Nat.le_refl _) (by omega)
    rw [if_pos (by omega), if_pos (by omega), if_pos (by omega), rd_nat, if_neg (by omega), pw64 (by omega) (by omega), show ((i : Int) + 1) = ((i + 1 : Nat) : Int) from rfl]
    exact ih (i + 1) k (by omega) (by omega) fun j hj hja => h j (by omega) hja
theorem lowerLoop_bad (ups downs : List Int) (hold : Int) (ps : List Pers) (a b d : Int) (i k : Nat) (hk : 0 < k) (hi : (i : Int) < a) (hd : i < downs.length) (h : downs.getD i 0 ≤ d) : guidevaneref09_LowerErr.l0 k (i : Int) ups downs hold ps a b d = some 24 := by
  obtain ⟨k, rfl⟩ : ∃ m, k = m + 1 := ⟨k - 1, by omega⟩
  simp only [guidevaneref09_LowerErr.l0]
  rw [if_pos (by omega), if_pos (by omega), if_pos (by omega), rd_nat, if_pos (by omega)]
theorem low_cases (ups downs : List Int) (hold : Int) (ps : List Pers) (a b d : Int) (nm : ByteArray) (st : Int) (h : fewR ups downs ps) (hn : nm.size ≤ 30) : ∃ y0 y1 y2 g e : Int,
    dam_Lowered.f 1000 ups downs hold ps a b d nm st = some (y0, y1, y2, g) ∧ guidevaneref09_RulesErr.f ups downs hold ps = some e ∧
    ((¬ e = 0 ∧ g = e ∧ y0 = 0 ∧ y1 = 0 ∧ y2 = 0) ∨ (e = 0 ∧ ∃ s, guidevaneref09_StateErr.f 1000 ups downs hold ps a b d = some s ∧ ¬ s = 0 ∧ g = s ∧ y0 = 0 ∧ y1 = 0 ∧ y2 = 0)
      ∨ (e = 0 ∧ guidevaneref09_StateErr.f 1000 ups downs hold ps a b d = some 0 ∧ ∃ q, guidevaneref09_LowerErr.f 1000 ups downs hold ps a b d nm st = some q ∧ ((¬ q = 0 ∧ g = q ∧ y0 = 0 ∧ y1 = 0 ∧ y2 = 0) ∨ (q = 0 ∧ g = 0 ∧ y0 = st ∧ y1 = 0 ∧ y2 = d)))) := by
  have h1 := h.1
  have h2 := h.2.1
  have h3 := h.2.2.1
  have hR := rulesErrL_f ups downs hold ps h
  have hS := rstErr_f ups downs hold ps a b d 1000 (by omega)
  have hO := openStateL_f ups downs hold ps a b d 1000 h (by omega)
  by_cases he : (rulesOut ups downs hold ps).2 = 0
  case neg =>
    rw [if_neg he] at hO
    refine ⟨0, 0, 0, _, _, ?_, hR, .inl ⟨he, rfl, rfl, rfl, rfl⟩⟩
    unfold dam_Lowered.f
    rw [hO]
    simp only [Option.bind_some]
    rw [if_pos (by omega), firstI_ne he, if_neg he]
  case pos =>
  rw [if_pos he] at hO
  by_cases hs : stErr ups.length a b d = 0
  case neg =>
    refine ⟨0, 0, 0, _, _, ?_, hR, .inr (.inl ⟨he, _, hS, hs, rfl, rfl, rfl, rfl⟩)⟩
    unfold dam_Lowered.f
    rw [hO]
    simp only [Option.bind_some]
    rw [if_pos (by omega), firstI_ne hs, if_neg hs]
  case pos =>
  have hok := okRules_of he
  have hdl := hok.dl
  have hab := (stErrL_zero hs).1
  rw [hs] at hO hS
  have hL : dam_Lowered.f 1000 ups downs hold ps a b d nm st = (if firstI [0, unlessI (nameOk nm) 4] = 0 then lowOut downs hold ps a b d nm st else some (0, 0, 0, firstI [0, unlessI (nameOk nm) 4])) := by
    unfold dam_Lowered.f
    rw [hO]
    simp only [Option.bind_some]
    rw [if_pos (by omega)]
  have hN : guidevanebase_IsName.f nm = some (nameOk nm) := by unfold guidevanebase_IsName.f; rw [if_pos (by omega)]
  have hF : guidevaneref09_find.f 1000 ps nm = some (idxF (fun o : Pers => o.f0.toList == nm.toList) ps) := by
    unfold guidevaneref09_find.f
    exact rfind_go ps nm (by omega) ps.length 0 1000 (by omega) (by omega) (fun j hj => absurd hj (by omega))
  have key : ∃ y0 y1 y2 g q, dam_Lowered.f 1000 ups downs hold ps a b d nm st = some (y0, y1, y2, g) ∧ guidevaneref09_LowerErr.f 1000 ups downs hold ps a b d nm st = some q ∧ ((¬ q = 0 ∧ g = q ∧ y0 = 0 ∧ y1 = 0 ∧ y2 = 0) ∨ (q = 0 ∧ g = 0 ∧ y0 = st ∧ y1 = 0 ∧ y2 = d)) := by
    rw [hL]
    unfold guidevaneref09_LowerErr.f
    rw [hN, hF]
    simp only [Option.bind_some]
    cases nameOk nm
    case false =>
      refine ⟨0, 0, 0, 4, 4, rfl, ?_, .inl ⟨by decide, rfl, rfl, rfl, rfl⟩⟩
      rw [if_neg (by decide)]
    case true =>
    rw [if_pos (show firstI [0, unlessI true 4] = 0 from rfl), if_pos rfl]
    unfold lowOut
    have hx := idxF_lt (fun o : Pers => o.f0.toList == nm.toList) ps
    generalize idxF (fun o : Pers => o.f0.toList == nm.toList) ps = ix at *
    by_cases hi : ix < 0
    case pos =>
      rw [if_pos hi, if_pos hi]
      exact ⟨0, 0, 0, 6, 6, rfl, rfl, .inl ⟨by decide, rfl, rfl, rfl, rfl⟩⟩
    case neg =>
    rw [if_neg hi, if_neg hi, bwithin_f]
    simp only [Option.bind_some]
    by_cases hw : 0 ≤ st ∧ st ≤ wrap64 (a - 1)
    case neg =>
      rw [if_neg hw, if_neg (show ¬ (decide (0 ≤ st) && decide (st ≤ wrap64 (a - 1))) = true from by rw [Bool.and_eq_true, decide_eq_true_eq, decide_eq_true_eq]; exact hw)]
      exact ⟨0, 0, 0, 2, 2, rfl, rfl, .inl ⟨by decide, rfl, rfl, rfl, rfl⟩⟩
    case pos =>
    rw [if_pos hw, if_pos (show (decide (0 ≤ st) && decide (st ≤ wrap64 (a - 1))) = true from by rw [Bool.and_eq_true, decide_eq_true_eq, decide_eq_true_eq]; exact hw), if_pos (show 0 ≤ ix by omega), if_pos (show ix < (ps.length : Int) by omega)]
    rw [pw64 (by omega) (by omega)] at hw
    obtain ⟨m, rfl⟩ : ∃ m : Nat, ix = (m : Int) := ⟨ix.toNat, by omega⟩
    obtain ⟨s, rfl⟩ : ∃ s : Nat, st = (s : Int) := ⟨st.toNat, by omega⟩
    rw [rdP, Int.toNat_natCast, Int.toNat_natCast]
    generalize (ps.getD m z62).f1 = rk
    by_cases hb : b ≥ hold
    case neg =>
      rw [if_neg hb]
      by_cases hr : rk < a
      · rw [if_pos hr]
        exact ⟨0, 0, 0, 18, 18, by unfold lowEnd; rw [decide_eq_false (by omega)]; rfl, rfl, .inl ⟨by decide, rfl, rfl, rfl, rfl⟩⟩
      · rw [if_neg hr, if_pos (by omega)]
        exact ⟨0, 0, 0, 24, 24, by unfold lowEnd; rw [decide_eq_true (by omega)]; rfl, rfl, .inl ⟨by decide, rfl, rfl, rfl, rfl⟩⟩
    case pos =>
    rw [if_pos hb, if_pos (by omega), if_neg (show ¬ b < hold by omega)]
    by_cases hr : rk < a
    case pos =>
      rw [if_pos hr]
      exact ⟨0, 0, 0, 18, 18, by unfold lowEnd; rw [decide_eq_false (by omega)]; rfl, rfl, .inl ⟨by decide, rfl, rfl, rfl, rfl⟩⟩
    case neg =>
    rw [if_neg hr]
    by_cases hc : d < downs.getD s 0
    · refine ⟨s, 0, d, 0, 0, by unfold lowEnd; rw [decide_eq_true (show rk ≥ a by omega), decide_eq_true hc]; rfl, ?_, .inr ⟨rfl, rfl, rfl, rfl, rfl⟩⟩
      refine lowerLoop_ok ups downs hold ps a b d (by omega) (by omega) (a.toNat - s) s 1000 (by omega) (by omega) fun j hj hja => ?_
      have := hok.dnj (j - s) s (by omega)
      rw [show s + (j - s) = j by omega] at this
      omega
    · refine ⟨0, 0, 0, 24, 24, by unfold lowEnd; rw [decide_eq_true (show rk ≥ a by omega), decide_eq_false hc]; rfl, ?_, .inl ⟨by decide, rfl, rfl, rfl, rfl⟩⟩
      exact lowerLoop_bad ups downs hold ps a b d s 1000 (by omega) (by omega) (by omega) (by omega)
  obtain ⟨y0, y1, y2, g, q, k1, k2, k3⟩ := key
  exact ⟨y0, y1, y2, g, _, k1, hR, .inr (.inr ⟨he, hS, q, k2, k3⟩)⟩
end Go.Proofs.YteopooljohdoiaaGreat.Px
