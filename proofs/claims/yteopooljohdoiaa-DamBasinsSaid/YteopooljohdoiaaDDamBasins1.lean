/- DamBasins: for every input the call returns true and each argument reads afterwards as it read before; no condition. (its contracts and its pure law) -/
import Derived.Test.YteopooljohdoiaaK1
import Derived.Test.YteopooljohdoiaaK4
namespace Go.Proofs.Yteopooljohdoiaa.Px
open Go.RowKit Go.Proofs.YteopooljohdoiaaW.PrintWords Go.Proofs.YteopooljohdoiaaW.PrintLast Go.Proofs.YteopooljohdoiaaW.PrintMore
attribute [local go_sem] max2_int min2_int max_two min_two max_three min_three max_four min_four   -- for this text's walks alone
set_option linter.unusedVariables false
set_option linter.unusedSimpArgs false

/-! ### guidevaneref09_CopyBasin: function 12 -/
def guidevaneref09_CopyBasin.f (l0_0 : List Int) (l0_1 : List Int) : Option (List Int × List Int) := (guidevanebase_CopyInts.f l0_0).bind fun t36003 => ((guidevanebase_CopyInts.f l0_1).bind fun t36006 => (some (t36003, t36006)))
def guidevaneref09_CopyBasin.T1 : Bool × List (List Nat × List Nat) := (true, [([], []), ([0], [0]), ([1], [1]), ([], []), ([3], [3]), ([4, 2], [4]), ([2, 5], [2, 5]), ([6, 5, 0, 1, 2, 3, 4, 5, 6], [6])])
def guidevaneref09_CopyBasin.B1 : List Nat := [0, 1, 3, 0, 8, 31, 63, 127]
theorem guidevaneref09_CopyBasin.tab1 : rtab .any (opsOf Try.f12 1) = guidevaneref09_CopyBasin.T1 := by kernel_rfl
theorem guidevaneref09_CopyBasin.bits1 : waitsOk guidevaneref09_CopyBasin.T1.2 guidevaneref09_CopyBasin.B1 = true := by kernel_rfl
set_option maxHeartbeats 8000000 in
set_option maxRecDepth 100000 in
theorem guidevaneref09_CopyBasin.calls (A0_0 : Option Addr) (c0_0 : Nat) (l0_0 : List Int) (A0_1 : Option Addr) (c0_1 : Nat) (l0_1 : List Int) (r1 : List Int) (r2 : List Int) (w : World) (hr0_0 : Kd.C (Kd.int .i64) w A0_0 l0_0.length l0_0) (hc0_0 : l0_0.length ≤ c0_0) (hr0_1 : Kd.C (Kd.int .i64) w A0_1 l0_1.length l0_1) (hc0_1 : l0_1.length ≤ c0_1) (h : guidevaneref09_CopyBasin.f l0_0 l0_1 = some (r1, r2)) :
    Calls Try.prog 12 #[.agg #[.slice A0_0 l0_0.length c0_0, .slice A0_1 l0_1.length c0_1]] w fun e w' => ∃ v0_ v1_ : Value, e = .returned (.agg #[v0_, v1_]) ∧ Kd.R (Kd.int .i64) 3 w' w.heap.size (fun k_ => some k_ ≠ (v1_ : Value).ownBlock) v0_ r1 ∧ Kd.R (Kd.int .i64) 3 w' w.heap.size (fun k_ => some k_ ≠ (v0_ : Value).ownBlock) v1_ r2 ∧ Below w.heap.size w w' := by
  have hu24 := Try.underlying24
  have HR0_0 := Aside0.mk hr0_0
  have HC0_0 := Aside0.mk hc0_0
  clear hr0_0 hc0_0
  have HR0_1 := Aside0.mk hr0_1
  have HC0_1 := Aside0.mk hc0_1
  clear hr0_1 hc0_1
  have HB := Aside0.mk (Below.refl w.heap.size w)
  have H : ((guidevanebase_CopyInts.f l0_0).bind fun t36003 => ((guidevanebase_CopyInts.f l0_1).bind fun t36006 => (some (t36003, t36006)))) = some (r1, r2) := h
  clear h
  replace H := Option.bind_eq_some_iff.mp H
  obtain ⟨t36003, A20, H⟩ := H
  replace H : ((guidevanebase_CopyInts.f l0_1).bind fun t36006 => (some (t36003, t36006))) = some (r1, r2) := H
  have A2 := Aside0.mk A20
  clear A20
  replace H := Option.bind_eq_some_iff.mp H
  obtain ⟨t36006, A30, H⟩ := H
  replace H : (some (t36003, t36006)) = some (r1, r2) := H
  have A3 := Aside0.mk A30
  clear A30
  simp only [Option.some.injEq, Prod.mk.injEq] at H
  obtain ⟨rfl, rfl⟩ := H
  go_enter Try.func12, Try.ntmps12
  try go_wp2_with (first | ((with_reducible refine gate_dst (N := 1) rfl ?_); refine box_event ?hg (N := 1) ?hd (cs := #[.slice A0_0 l0_0.length c0_0, .slice A0_1 l0_1.length c0_1]) (t := 24) ?hr ?_; (case hd => rfl); (case hg => rfl); (case hr => first | (go_simp; done) | (go_simp; rfl)); intro gb36001 hg w4 hbox hb; have n0_ := Aside0.mk (below_step (by repeat (first | (with_reducible first | exact HB.out | apply below_alloc | apply pw_below_drewN | apply below_drew1) | exact HB.out)) hb); have n1_ := Aside0.mk (hbox); have n2_ := Aside0.mk ((by rw [hg]; exact (below_size (by repeat (first | (with_reducible first | exact HB.out | apply below_alloc | apply pw_below_drewN | apply below_drew1) | exact HB.out))) : w.heap.size ≤ gb36001)); have n3_ := Aside0.mk ((by rw [hg]; exact (below_size (by repeat (first | (with_reducible first | exact HB.out | apply below_alloc | apply pw_below_drewN | apply below_drew1) | exact HB.out))) : w.heap.size ≤ gb36001)); clear HB; have HB := n0_; have BK36001 := n1_; have GW36001 := n2_; have GE36001 := n3_; clear n0_ n1_ n2_ n3_; clear hb hbox hg) | ((with_reducible refine gate_dst (N := 2) rfl ?_); refine box_event ?hg (N := 2) ?hd (cs := #[.slice none 0 0, .slice none 0 0]) (t := 24) ?hr ?_; (case hd => rfl); (case hg => rfl); (case hr => first | (go_simp; done) | (go_simp; rfl)); intro gb36002 hg w5 hbox hb; have n0_ := Aside0.mk (blk_below (g := gb36001) (o := .cells #[.slice A0_0 l0_0.length c0_0, .slice A0_1 l0_1.length c0_1] 24 (0, 0)) (by (with_reducible repeat (first | refine blk_drewN ?_ _ | refine blk_drew ?_ | refine blk_alloc ?_ _)); exact BK36001.out) hb); have n1_ := Aside0.mk (below_step (by repeat (first | (with_reducible first | exact HB.out | apply below_alloc | apply pw_below_drewN | apply below_drew1 | refine below_set ?_ GE36001.out) | exact HB.out)) hb); have n2_ := Aside0.mk (hbox); have n3_ := Aside0.mk ((by rw [hg]; exact (below_size (by repeat (first | (with_reducible first | exact HB.out | apply below_alloc | apply pw_below_drewN | apply below_drew1 | refine below_set ?_ GE36001.out) | exact HB.out))) : w.heap.size ≤ gb36002)); have n4_ := Aside0.mk ((by rw [hg]; exact (below_size (by repeat (first | (with_reducible first | exact HB.out | apply below_alloc | apply pw_below_drewN | apply below_drew1 | refine below_set ?_ GE36001.out) | exact HB.out))) : w.heap.size ≤ gb36002)); have n5_ := Aside0.mk ((by rw [hg]; exact Nat.ne_of_lt (blk_lt (g := gb36001) (o := .cells #[.slice A0_0 l0_0.length c0_0, .slice A0_1 l0_1.length c0_1] 24 (0, 0)) (by (with_reducible repeat (first | refine blk_drewN ?_ _ | refine blk_drew ?_ | refine blk_alloc ?_ _)); exact BK36001.out)) : gb36001 ≠ gb36002)); have n6_ := Aside0.mk ((by rw [hg]; exact Nat.ne_of_gt (blk_lt (g := gb36001) (o := .cells #[.slice A0_0 l0_0.length c0_0, .slice A0_1 l0_1.length c0_1] 24 (0, 0)) (by (with_reducible repeat (first | refine blk_drewN ?_ _ | refine blk_drew ?_ | refine blk_alloc ?_ _)); exact BK36001.out)) : gb36002 ≠ gb36001)); clear BK36001; clear HB; have BK36001 := n0_; have HB := n1_; have BK36002 := n2_; have GW36002 := n3_; have GE36002 := n4_; have NB36001_36002 := n5_; have NB36002_36001 := n6_; clear n0_ n1_ n2_ n3_ n4_ n5_ n6_; clear hb hbox hg))
  have n0_ := Aside0.mk (blk_drew BK36001.out)
  have n1_ := Aside0.mk (blk_drew BK36002.out)
  have n2_ := Aside0.mk (below_drew1 HB.out)
  clear BK36001
  clear BK36002
  clear HB
  have BK36001 := n0_
  have BK36002 := n1_
  have HB := n2_
  clear n0_ n1_ n2_
  refine start_ (n := 8) (S := fun w' => w'.cell? ⟨gb36001, 0, none⟩ = some (.slice A0_0 l0_0.length c0_0) ∧ w'.cell? ⟨gb36001, 1, none⟩ = some (.slice A0_1 l0_1.length c0_1)) (ds := []) #[false, false, false, false, false, false, false, false] (by kernel_rfl) rfl rfl ⟨(blk_cell BK36001.out 0).trans rfl, (blk_cell BK36001.out 1).trans rfl⟩ (fun hHeld => ?_); refine with_tabW guidevaneref09_CopyBasin.tab1 guidevaneref09_CopyBasin.bits1 (fun HT_ HW_ => ?_)
  generalize w5.drew = w6 at BK36001 BK36002 HB hHeld ⊢
  refine pure_ (i := 0) (N := some 3) (v := ?_) (a' := ?_) #[true, false, false, false, false, false, false, false] rfl rfl (any_of HT_.out (by kernel_rfl)) (fun _ _ _ h => h) (Or.inl ⟨by rfl, ?_⟩) ?_ ?_
  rotate_left
  · intro w'
    go_simp
    with_reducible rfl
  rotate_left
  · simp only [Act.put, List.setIfInBounds_toArray, List.set_cons_zero, List.set_cons_succ, i64_w, i32_w]
    rfl
  refine pure_ (i := 3) (N := some 6) (v := ?_) (a' := ?_) #[true, false, false, true, false, false, false, false] rfl rfl (any_of HT_.out (by kernel_rfl)) (fun _ _ _ h => h) (Or.inl ⟨by rfl, ?_⟩) ?_ ?_
  rotate_left
  · intro w'
    go_simp
    with_reducible rfl
  rotate_left
  · simp only [Act.put, List.setIfInBounds_toArray, List.set_cons_zero, List.set_cons_succ, i64_w, i32_w]
    rfl
  refine take_ (i := 1) (N := some 4) (v := ?_) (a' := ?_) #[true, true, false, true, false, false, false, false] rfl rfl (take_ofW HT_.out HW_.out (by kernel_rfl)) (fun _ _ _ h => h) (Or.inl ⟨by rfl, ?_⟩) hHeld ?_ ?_
  rotate_left
  · rintro w' ⟨s0, s1⟩
    go_simp
    with_reducible rfl
  rotate_left
  · simp only [Act.put, List.setIfInBounds_toArray, List.set_cons_zero, List.set_cons_succ, i64_w, i32_w]
    rfl
  refine take_ (i := 4) (N := some 7) (v := ?_) (a' := ?_) #[true, true, false, true, true, false, false, false] rfl rfl (take_ofW HT_.out HW_.out (by kernel_rfl)) (fun _ _ _ h => h) (Or.inl ⟨by rfl, ?_⟩) hHeld ?_ ?_
  rotate_left
  · rintro w' ⟨s0, s1⟩
    go_simp
    with_reducible rfl
  rotate_left
  · simp only [Act.put, List.setIfInBounds_toArray, List.set_cons_zero, List.set_cons_succ, i64_w, i32_w]
    rfl
  refine one_ (i := 2) (N := some 5) #[true, true, true, true, true, false, false, false] rfl rfl (one_of HT_.out (by kernel_rfl)) (by decide) (fun K hK => ?_)
  refine goes_ Try.func49 (by kernel_rfl) rfl #[.slice A0_0 l0_0.length c0_0] (by rfl) rfl rfl (by (try simp only [List.map_toArray, List.map_cons, List.map_nil]); first | done | rfl | (simp only [List.length_drop, List.length_take]; rfl)) ?_
  with_reducible refine (guidevanebase_CopyInts.calls _ _ l0_0 t36003 _ ?side1 ?side2 A2.out).mono ?_
  (case side1 => repeat (first | exact (Kd.C_below HR0_0.out HB.out) | (with_reducible refine Kd.C_alloc ?_ _) | (with_reducible refine Kd.C_drewN ?_ _) | (with_reducible refine Kd.C_drew ?_)))
  (case side2 => exact HC0_0.out)
  rintro e w7 ⟨v36004, rfl, ho0, hb⟩
  refine ⟨_, rfl, ?_⟩
  have n0_ := Aside0.mk (Kd.R_lower ho0 (below_size (by repeat (first | (with_reducible first | exact HB.out | apply below_alloc | apply pw_below_drewN | apply below_drew1 | refine below_set ?_ GE36001.out | refine below_set ?_ GE36002.out) | exact HB.out))))
  have n1_ := Aside0.mk (blk_below (g := gb36001) (o := .cells #[.slice A0_0 l0_0.length c0_0, .slice A0_1 l0_1.length c0_1] 24 (0, 0)) (by (with_reducible repeat (first | refine blk_drewN ?_ _ | refine blk_drew ?_ | refine blk_alloc ?_ _)); exact BK36001.out) hb)
  have n2_ := Aside0.mk (blk_below (g := gb36002) (o := .cells #[.slice none 0 0, .slice none 0 0] 24 (0, 0)) (by (with_reducible repeat (first | refine blk_drewN ?_ _ | refine blk_drew ?_ | refine blk_alloc ?_ _)); exact BK36002.out) hb)
  have n3_ := Aside0.mk (below_step (by repeat (first | (with_reducible first | exact HB.out | apply below_alloc | apply pw_below_drewN | apply below_drew1 | refine below_set ?_ GE36001.out | refine below_set ?_ GE36002.out) | exact HB.out)) hb)
  clear BK36001
  clear BK36002
  clear HB
  have HO36005 := n0_
  have BK36001 := n1_
  have BK36002 := n2_
  have HB := n3_
  clear n0_ n1_ n2_ n3_
  (try clear hb)
  (try clear hb2)
  (try clear hk)
  (try clear hi)
  (try clear ho0)
  refine hK.out _ _ ⟨(blk_cell BK36001.out 0).trans rfl, (blk_cell BK36001.out 1).trans rfl⟩ (fun hHeld => ?_)
  clear hK K
  refine norm_ (a' := ?_) ?_ ?_
  rotate_left
  · show Act.put _ (some 5) _ = _
    simp only [Act.put, List.setIfInBounds_toArray, List.set_cons_zero, List.set_cons_succ, i64_w, i32_w]
    rfl
  refine one_ (i := 5) (N := some 8) #[true, true, true, true, true, true, false, false] rfl rfl (one_of HT_.out (by kernel_rfl)) (by decide) (fun K hK => ?_)
  refine goes_ Try.func49 (by kernel_rfl) rfl #[.slice A0_1 l0_1.length c0_1] (by rfl) rfl rfl (by (try simp only [List.map_toArray, List.map_cons, List.map_nil]); first | done | rfl | (simp only [List.length_drop, List.length_take]; rfl)) ?_
  with_reducible refine (guidevanebase_CopyInts.calls _ _ l0_1 t36006 _ ?side1 ?side2 A3.out).mono ?_
  (case side1 => repeat (first | exact (Kd.C_below HR0_1.out HB.out) | (with_reducible refine Kd.C_alloc ?_ _) | (with_reducible refine Kd.C_drewN ?_ _) | (with_reducible refine Kd.C_drew ?_)))
  (case side2 => exact HC0_1.out)
  rintro e w8 ⟨v36007, rfl, ho0, hb⟩
  refine ⟨_, rfl, ?_⟩
  have n0_ := Aside0.mk (Kd.R_elder' (by (with_reducible repeat (first | apply Kd.R_alloc | apply Kd.R_drewN | apply Kd.R_drew)); exact HO36005.out) (Kd.R_base ho0) hb)
  have n1_ := Aside0.mk (Kd.R_lower (Kd.R_new' ho0 (Kd.R_lt (by (with_reducible repeat (first | apply Kd.R_alloc | apply Kd.R_drewN | apply Kd.R_drew)); exact HO36005.out))) (below_size (by repeat (first | (with_reducible first | exact HB.out | apply below_alloc | apply pw_below_drewN | apply below_drew1 | refine below_set ?_ GE36001.out | refine below_set ?_ GE36002.out) | exact HB.out))))
  have n2_ := Aside0.mk (blk_below (g := gb36001) (o := .cells #[.slice A0_0 l0_0.length c0_0, .slice A0_1 l0_1.length c0_1] 24 (0, 0)) (by (with_reducible repeat (first | refine blk_drewN ?_ _ | refine blk_drew ?_ | refine blk_alloc ?_ _)); exact BK36001.out) hb)
  have n3_ := Aside0.mk (blk_below (g := gb36002) (o := .cells #[.slice none 0 0, .slice none 0 0] 24 (0, 0)) (by (with_reducible repeat (first | refine blk_drewN ?_ _ | refine blk_drew ?_ | refine blk_alloc ?_ _)); exact BK36002.out) hb)
  have n4_ := Aside0.mk (below_step (by repeat (first | (with_reducible first | exact HB.out | apply below_alloc | apply pw_below_drewN | apply below_drew1 | refine below_set ?_ GE36001.out | refine below_set ?_ GE36002.out) | exact HB.out)) hb)
  clear HO36005
  clear BK36001
  clear BK36002
  clear HB
  have HO36005 := n0_
  have HO36008 := n1_
  have BK36001 := n2_
  have BK36002 := n3_
  have HB := n4_
  clear n0_ n1_ n2_ n3_ n4_
  (try clear hb)
  (try clear hb2)
  (try clear hk)
  (try clear hi)
  (try clear ho0)
  obtain ⟨Ao9, co9, eo9⟩ := Kd.R_slice HO36008.out
  (first | subst eo9 | (injection eo9 with f1_ f2_ f3_; have f4_ := f1_.symm; have f5_ := f3_.symm; clear f1_ f2_ f3_; subst f4_; subst f5_))
  obtain ⟨Ao10, co10, eo10⟩ := Kd.R_slice HO36005.out
  (first | subst eo10 | (injection eo10 with f1_ f2_ f3_; have f4_ := f1_.symm; have f5_ := f3_.symm; clear f1_ f2_ f3_; subst f4_; subst f5_))
  refine hK.out _ _ ⟨(blk_cell BK36001.out 0).trans rfl, (blk_cell BK36001.out 1).trans rfl⟩ (fun hHeld => ?_)
  clear hK K
  refine norm_ (a' := ?_) ?_ ?_
  rotate_left
  · show Act.put _ (some 8) _ = _
    simp only [Act.put, List.setIfInBounds_toArray, List.set_cons_zero, List.set_cons_succ, i64_w, i32_w]
    rfl
  refine pure_ (i := 6) (N := some 9) (v := ?_) (a' := ?_) #[true, true, true, true, true, true, true, false] rfl rfl (any_of HT_.out (by kernel_rfl)) (fun _ _ _ h => h) (Or.inl ⟨by rfl, ?_⟩) ?_ ?_
  rotate_left
  · intro w'
    go_simp
    with_reducible rfl
  rotate_left
  · simp only [Act.put, List.setIfInBounds_toArray, List.set_cons_zero, List.set_cons_succ, i64_w, i32_w]
    rfl
  refine one_ (i := 7) (N := none) #[true, true, true, true, true, true, true, true] rfl rfl (one_of HT_.out (by kernel_rfl)) (by decide) (fun K hK => ?_)
  have hs11 : w8.cell? ⟨gb36002, 0, none⟩ = some (.slice none 0 0) := (blk_cell BK36002.out 0).trans rfl
  have hfs11 := blk_frozen BK36002.out 0
  have hns11_0 := NB36001_36002.out
  have hms11_0 := NB36002_36001.out
  have hs12 : w8.cell? ⟨gb36002, 1, none⟩ = some (.slice none 0 0) := (blk_cell BK36002.out 1).trans rfl
  have hfs12 := blk_frozen BK36002.out 1
  have hns12_0 := NB36001_36002.out
  have hms12_0 := NB36002_36001.out
  refine skip_ (w1 := ?_) (by rfl) rfl ?_ ?_
  rotate_left
  · go_simp
    rfl
  refine hK.out _ _ ⟨((cell_far (p := ⟨gb36002, _, none⟩) NB36001_36002.out _).trans (((cell_far (p := ⟨gb36002, _, none⟩) NB36001_36002.out _).trans (hHeld.1)))), ((cell_far (p := ⟨gb36002, _, none⟩) NB36001_36002.out _).trans (((cell_far (p := ⟨gb36002, _, none⟩) NB36001_36002.out _).trans (hHeld.2))))⟩ (fun hHeld => ?_)
  clear hK K
  refine done_ (done_of HT_.out (by kernel_rfl)) ?_
  try go_wp2
  refine bodyPost_ret (results_cell_row rfl _ _ gb36002 24 #[.slice Ao10 t36003.length co10, .slice Ao9 t36006.length co9] (0, 0) _ rfl (by (with_reducible repeat (first | refine blk_drewN ?_ _ | refine blk_drew ?_ | refine blk_alloc ?_ _)); refine blk_put (cs := #[.slice Ao10 t36003.length co10, .slice none 0 0]) ?_ 1 _ rfl; (with_reducible repeat (first | refine blk_drewN ?_ _ | refine blk_drew ?_ | refine blk_alloc ?_ _)); refine blk_put (cs := #[.slice none 0 0, .slice none 0 0]) ?_ 0 _ rfl; (with_reducible repeat (first | refine blk_drewN ?_ _ | refine blk_drew ?_ | refine blk_alloc ?_ _)); exact BK36002.out) Try.underlying24 rfl (by kernel_rfl)) rfl ?_
  exact ⟨_, _, by first | rfl | (simp [errW_none, errW_some] <;> rfl) | (simp [*, errW_none, errW_some] <;> rfl), by (with_reducible repeat (first | apply Kd.R_alloc | apply Kd.R_drewN | apply Kd.R_drew)); exact Kd.R_mono (Kd.R_far (p := ⟨gb36002, 1, none⟩) (Kd.R_far (p := ⟨gb36002, 0, none⟩) (Kd.R_types HO36005.out BK36002.out (by decide)) (fun _ hk => hk.2) (.slice Ao10 t36003.length co10)) (fun _ hk => hk.2) (.slice Ao9 t36006.length co9)) (fun _ hk => hk.1.2), by (with_reducible repeat (first | apply Kd.R_alloc | apply Kd.R_drewN | apply Kd.R_drew)); exact Kd.R_mono (Kd.R_far (p := ⟨gb36002, 1, none⟩) (Kd.R_far (p := ⟨gb36002, 0, none⟩) (Kd.R_types HO36008.out BK36002.out (by decide)) (fun _ hk => hk.2) (.slice Ao10 t36003.length co10)) (fun _ hk => hk.2) (.slice Ao9 t36006.length co9)) (fun _ hk => hk.1.2), by repeat (first | (with_reducible first | exact HB.out | apply below_alloc | apply pw_below_drewN | apply below_drew1 | refine below_set ?_ GE36001.out | refine below_set ?_ GE36002.out) | exact HB.out)⟩

end Go.Proofs.Yteopooljohdoiaa.Px

namespace Go.Proofs.Yteopooljohdoiaa.Px
open Go.RowKit Go.Proofs.YteopooljohdoiaaW.PrintWords Go.Proofs.YteopooljohdoiaaW.PrintLast Go.Proofs.YteopooljohdoiaaW.PrintMore
attribute [local go_sem] max2_int min2_int max_two min_two max_three min_three max_four min_four   -- for this text's walks alone
set_option linter.unusedVariables false
set_option linter.unusedSimpArgs false

/-! ### guidevaneref09_CheckBasin: function 14 -/
mutual
def guidevaneref09_CheckBasin.j0 : Nat → Bool → List Int → List Int → Option (Int × Int)
  | 0, _, _, _ => none
  | k + 1, x17, x42002000, x42002001 => if x17 = true then (some (0, 10)) else (if (x42002000.length : Int) > 20 then (some (0, 8)) else (guidevaneref09_CheckBasin.l0 k 0 x42002000 x42002001))
def guidevaneref09_CheckBasin.l0 : Nat → Int → List Int → List Int → Option (Int × Int)
  | 0, _, _, _ => none
  | k + 1, x4, x42002000, x42002001 => if x4 < (x42002000.length : Int) then (if 0 ≤ x4 then ((guidevanebase_Within.f (rd x42002000 x4) 0 1000000000).bind fun t42003 => (if t42003 = true then (if x4 < (x42002001.length : Int) then ((guidevanebase_Within.f (rd x42002001 x4) 1 1000000000).bind fun t42005 => (if t42005 = true then (guidevaneref09_CheckBasin.l0 k (wrap64 (x4 + 1)) x42002000 x42002001) else (some (x4, 2)))) else (none)) else (some (x4, 2)))) else (none)) else (some (0, 0))
end
def guidevaneref09_CheckBasin.f (k : Nat) (l0_0 : List Int) (l0_1 : List Int) : Option (Int × Int) := if (l0_0.length : Int) = 0 then (guidevaneref09_CheckBasin.j0 k true l0_0 l0_1) else (guidevaneref09_CheckBasin.j0 k ((l0_1.length : Int) != (l0_0.length : Int)) l0_0 l0_1)
theorem guidevaneref09_CheckBasin.mono_l : ∀ k, (∀ y0 y1 y2, LeO (guidevaneref09_CheckBasin.j0 k y0 y1 y2) (guidevaneref09_CheckBasin.j0 (k + 1) y0 y1 y2)) ∧ (∀ y0 y1 y2, LeO (guidevaneref09_CheckBasin.l0 k y0 y1 y2) (guidevaneref09_CheckBasin.l0 (k + 1) y0 y1 y2))
  | 0 => ⟨fun _ _ _ r h => by simp [guidevaneref09_CheckBasin.j0] at h, fun _ _ _ r h => by simp [guidevaneref09_CheckBasin.l0] at h⟩
  | k + 1 => by
    obtain ⟨ih0, ih1⟩ := guidevaneref09_CheckBasin.mono_l k
    refine ⟨?_, ?_⟩
    · intro y0 y1 y2
      unfold guidevaneref09_CheckBasin.j0
      repeat' first
      | (with_reducible exact ih0 _ _ _)
      | (with_reducible exact ih1 _ _ _)
      | (with_reducible exact LeO.refl _)
      | (with_reducible exact LeO.none _)
      | (with_reducible refine LeO.ite ?_ ?_)
      | (with_reducible refine LeO.bind ?_ (fun _ => ?_))
      | exact ih0 _ _ _
      | exact ih1 _ _ _
      | exact LeO.none _
      | refine LeO.ite ?_ ?_
      | refine LeO.bind ?_ (fun _ => ?_)
    · intro y0 y1 y2
      unfold guidevaneref09_CheckBasin.l0
      repeat' first
      | (with_reducible exact ih0 _ _ _)
      | (with_reducible exact ih1 _ _ _)
      | (with_reducible exact LeO.refl _)
      | (with_reducible exact LeO.none _)
      | (with_reducible refine LeO.ite ?_ ?_)
      | (with_reducible refine LeO.bind ?_ (fun _ => ?_))
      | exact ih0 _ _ _
      | exact ih1 _ _ _
      | exact LeO.none _
      | refine LeO.ite ?_ ?_
      | refine LeO.bind ?_ (fun _ => ?_)
theorem guidevaneref09_CheckBasin.mono : ∀ a0 a1 k, LeO (guidevaneref09_CheckBasin.f k a0 a1) (guidevaneref09_CheckBasin.f (k + 1) a0 a1) := by
  intro a0 a1 k
  obtain ⟨ih0, ih1⟩ := guidevaneref09_CheckBasin.mono_l k
  unfold guidevaneref09_CheckBasin.f
  repeat' first
      | (with_reducible exact ih0 _ _ _)
      | (with_reducible exact ih1 _ _ _)
      | (with_reducible exact LeO.refl _)
      | (with_reducible exact LeO.none _)
      | (with_reducible refine LeO.ite ?_ ?_)
      | (with_reducible refine LeO.bind ?_ (fun _ => ?_))
      | exact ih0 _ _ _
      | exact ih1 _ _ _
      | exact LeO.none _
      | refine LeO.ite ?_ ?_
      | refine LeO.bind ?_ (fun _ => ?_)
set_option maxHeartbeats 8000000 in
set_option maxRecDepth 100000 in
theorem guidevaneref09_CheckBasin.calls (k : Nat) (A0_0 : Option Addr) (c0_0 : Nat) (l0_0 : List Int) (A0_1 : Option Addr) (c0_1 : Nat) (l0_1 : List Int) (r1 : Int) (r2 : Int) (w : World) (hr0_0 : Kd.C (Kd.int .i64) w A0_0 l0_0.length l0_0) (hc0_0 : l0_0.length ≤ c0_0) (hr0_1 : Kd.C (Kd.int .i64) w A0_1 l0_1.length l0_1) (hc0_1 : l0_1.length ≤ c0_1) (h : guidevaneref09_CheckBasin.f k l0_0 l0_1 = some (r1, r2)) :
    Calls Try.prog 14 #[.agg #[.slice A0_0 l0_0.length c0_0, .slice A0_1 l0_1.length c0_1]] w fun e w' => e = .returned (.tuple #[.int .i64 r1, .int .i64 r2]) ∧ Below w.heap.size w w' := by
  have hu24 := Try.underlying24
  have HR0_0 := Aside0.mk hr0_0
  have HC0_0 := Aside0.mk hc0_0
  clear hr0_0 hc0_0
  have HR0_1 := Aside0.mk hr0_1
  have HC0_1 := Aside0.mk hc0_1
  clear hr0_1 hc0_1
  have HB := Aside0.mk (Below.refl w.heap.size w)
  have H : (if (l0_0.length : Int) = 0 then (guidevaneref09_CheckBasin.j0 k true l0_0 l0_1) else (guidevaneref09_CheckBasin.j0 k ((l0_1.length : Int) != (l0_0.length : Int)) l0_0 l0_1)) = some (r1, r2) := h
  clear h
  have HC2 := Aside0.mk H
  clear H
  go_enter Try.func14, Try.ntmps14
  go_upto_region 1 with (first | ((with_reducible refine gate_dst (N := 1) rfl ?_); (try (refine gate_guard (by rfl) ?_; dsimp only)); refine box_event ?hg (N := 1) ?hd (cs := #[.slice A0_0 l0_0.length c0_0, .slice A0_1 l0_1.length c0_1]) (t := 24) ?hr ?_; (case hd => rfl); (case hg => rfl); (case hr => first | (go_simp; done) | (go_simp; rfl)); intro gb42001 hg w3 hbox hb; have n0_ := Aside0.mk (below_step (by repeat (first | (with_reducible first | exact HB.out | apply below_alloc | apply pw_below_drewN | apply below_drew1) | exact HB.out)) hb); have n1_ := Aside0.mk (hbox); have n2_ := Aside0.mk ((by rw [hg]; exact (below_size (by repeat (first | (with_reducible first | exact HB.out | apply below_alloc | apply pw_below_drewN | apply below_drew1) | exact HB.out))) : w.heap.size ≤ gb42001)); have n3_ := Aside0.mk ((by rw [hg]; exact (below_size (by repeat (first | (with_reducible first | exact HB.out | apply below_alloc | apply pw_below_drewN | apply below_drew1) | exact HB.out))) : w.heap.size ≤ gb42001)); clear HB; have HB := n0_; have BK42001 := n1_; have GW42001 := n2_; have GE42001 := n3_; clear n0_ n1_ n2_ n3_; clear hb hbox hg))
  (try simp only [Act.put, List.setIfInBounds_toArray, List.set_cons_zero, List.set_cons_succ])
  go_cut [17] (fun v17 wc => ∃ (kq : Nat) (x17_1 : Bool), v17 = .bool x17_1 ∧ Aside0 (guidevaneref09_CheckBasin.j0 kq x17_1 l0_0 l0_1 = some (r1, r2)) ∧ Aside0 (kq ≤ k) ∧ Aside0 (wc.heap[gb42001]? = some (.cells #[(.slice A0_0 l0_0.length c0_0), (.slice A0_1 l0_1.length c0_1)] 24 (0, 0))) ∧ Aside0 (Below w.heap.size w wc))
  case first =>
    have H := HC2.out
    clear HC2
    by_cases c4 : (l0_0.length : Int) = 0
    · rw [if_pos c4] at H
      have c4b0 : ((l0_0.length : Int) == 0) = true := beq_iff_eq.mpr c4
      have c4b1 : ((l0_0.length : Int) != 0) = false := bne_eq_false_iff_eq.mpr c4
      clear c4
      (first | rw [c4b0] | (simp only [i64_w, i32_w]; rw [c4b0]) | skip)
      have H' := Aside0.mk H
      clear H
      have hcz5_0 : w3.cell? ⟨gb42001, 0, none⟩ = some (.slice A0_0 l0_0.length c0_0) := (blk_cell BK42001.out 0).trans rfl
      have hcz5_1 : w3.cell? ⟨gb42001, 1, none⟩ = some (.slice A0_1 l0_1.length c0_1) := (blk_cell BK42001.out 1).trans rfl
      have hfz5_0 := blk_frozen BK42001.out 0
      have hfz5_1 := blk_frozen BK42001.out 1
      go_wp2
      go_meet
      case rel => exact ⟨_, (true), (by first | rfl | (simp; done) | (simp [*]; done)), H', ⟨by first | omega | exact Nat.le_refl _⟩, ⟨by (with_reducible repeat (first | refine blk_drewN ?_ _ | refine blk_drew ?_ | refine blk_alloc ?_ _)); exact BK42001.out⟩, ⟨by repeat (first | (with_reducible first | exact HB.out | apply below_alloc | apply pw_below_drewN | apply below_drew1 | refine below_set ?_ GE42001.out) | exact HB.out)⟩⟩
    · rw [if_neg c4] at H
      have c4b0 : ((l0_0.length : Int) == 0) = false := beq_eq_false_iff_ne.mpr c4
      have c4b1 : ((l0_0.length : Int) != 0) = true := bne_iff_ne.mpr c4
      have c4b2 : ¬ (l0_0 = []) := fun h_ => c4 (by rw [h_]; rfl)
      (first | rw [c4b0] | (simp only [i64_w, i32_w]; rw [c4b0]) | skip)
      have H' := Aside0.mk H
      clear H
      have hcz6_0 : w3.cell? ⟨gb42001, 0, none⟩ = some (.slice A0_0 l0_0.length c0_0) := (blk_cell BK42001.out 0).trans rfl
      have hcz6_1 : w3.cell? ⟨gb42001, 1, none⟩ = some (.slice A0_1 l0_1.length c0_1) := (blk_cell BK42001.out 1).trans rfl
      have hfz6_0 := blk_frozen BK42001.out 0
      have hfz6_1 := blk_frozen BK42001.out 1
      go_wp2
      go_meet
      case rel => exact ⟨_, (((l0_1.length : Int) != (l0_0.length : Int))), (by first | rfl | (simp; done) | (simp [*]; done)), H', ⟨by first | omega | exact Nat.le_refl _⟩, ⟨by (with_reducible repeat (first | refine blk_drewN ?_ _ | refine blk_drew ?_ | refine blk_alloc ?_ _)); exact BK42001.out⟩, ⟨by repeat (first | (with_reducible first | exact HB.out | apply below_alloc | apply pw_below_drewN | apply below_drew1 | refine below_set ?_ GE42001.out) | exact HB.out)⟩⟩
  case rest =>
    clear HC2
    try clear c1
    try clear p2
    try clear c4
    try clear c4b0
    try clear c4b1
    try clear c4b2
    try clear hcz5_0
    try clear hcz5_1
    try clear hcz6_0
    try clear hcz6_1
    try clear hfz5_0
    try clear hfz5_1
    try clear hfz6_0
    try clear hfz6_1
    obtain ⟨kq, x17_1, rfl, HA, HJ1, BK42001, HB⟩ := hcut
    cases kq with
    | zero => exact absurd HA.out (by simp [guidevaneref09_CheckBasin.j0])
    | succ kj1 =>
      have H := HA.out
      clear HA
      simp only [guidevaneref09_CheckBasin.j0] at H
      by_cases c7 : x17_1 = true
      · subst c7
        have H1 : (some (0, 10)) = some (r1, r2) := by rw [if_pos rfl] at H; exact H
        clear H
        have H := H1
        clear H1
        simp only [Option.some.injEq, Prod.mk.injEq] at H
        obtain ⟨rfl, rfl⟩ := H
        go_wp2
        go_ret2
        exact ⟨by first | rfl | (simp [errW_none, errW_some] <;> rfl) | (simp [*, errW_none, errW_some] <;> rfl), by repeat (first | (with_reducible first | exact HB.out | apply below_alloc | apply pw_below_drewN | apply below_drew1 | refine below_set ?_ GE42001.out) | exact HB.out)⟩
      · replace c7 := Bool.eq_false_iff.mpr c7
        subst c7
        have H1 : (if (l0_0.length : Int) > 20 then (some (0, 8)) else (guidevaneref09_CheckBasin.l0 kj1 0 l0_0 l0_1)) = some (r1, r2) := by rw [if_neg (show ¬ (false = true) by decide)] at H; exact H
        clear H
        have H := H1
        clear H1
        by_cases c8 : (l0_0.length : Int) > 20
        · rw [if_pos c8] at H
          have c8b0 : decide (20 < (l0_0.length : Int)) = true := decide_eq_true c8
          have c8b1 : decide (20 < l0_0.length) = true := decide_eq_true (by omega)
          clear c8
          simp only [Option.some.injEq, Prod.mk.injEq] at H
          obtain ⟨rfl, rfl⟩ := H
          have hcz9_0 : wc.cell? ⟨gb42001, 0, none⟩ = some (.slice A0_0 l0_0.length c0_0) := (blk_cell BK42001.out 0).trans rfl
          have hcz9_1 : wc.cell? ⟨gb42001, 1, none⟩ = some (.slice A0_1 l0_1.length c0_1) := (blk_cell BK42001.out 1).trans rfl
          have hfz9_0 := blk_frozen BK42001.out 0
          have hfz9_1 := blk_frozen BK42001.out 1
          go_wp2
          go_ret2
          exact ⟨by first | rfl | (simp [errW_none, errW_some] <;> rfl) | (simp [*, errW_none, errW_some] <;> rfl), by repeat (first | (with_reducible first | exact HB.out | apply below_alloc | apply pw_below_drewN | apply below_drew1 | refine below_set ?_ GE42001.out) | exact HB.out)⟩
        · rw [if_neg c8] at H
          have c8b0 : decide (20 < (l0_0.length : Int)) = false := decide_eq_false c8
          have c8b1 : decide (20 < l0_0.length) = false := decide_eq_false (by omega)
          clear c8
          have H' := Aside0.mk H
          clear H
          have hcz10_0 : wc.cell? ⟨gb42001, 0, none⟩ = some (.slice A0_0 l0_0.length c0_0) := (blk_cell BK42001.out 0).trans rfl
          have hcz10_1 : wc.cell? ⟨gb42001, 1, none⟩ = some (.slice A0_1 l0_1.length c0_1) := (blk_cell BK42001.out 1).trans rfl
          have hfz10_0 := blk_frozen BK42001.out 0
          have hfz10_1 := blk_frozen BK42001.out 1
          go_wp2
          go_loopg [4] kj1 (fun kq v4 w' => ∃ (x4_2 : Int), v4 = .int .i64 x4_2 ∧ Aside0 (guidevaneref09_CheckBasin.l0 kq x4_2 l0_0 l0_1 = some (r1, r2)) ∧ Aside0 (kq ≤ kj1) ∧ Aside0 (w'.heap[gb42001]? = some (.cells #[(.slice A0_0 l0_0.length c0_0), (.slice A0_1 l0_1.length c0_1)] 24 (0, 0))) ∧ Aside0 (Below w.heap.size w w'))
          case atStart => exact ⟨(0), (by first | rfl | (simp; done) | (simp [*]; done)), H', ⟨Nat.le_refl _⟩, ⟨by (with_reducible repeat (first | refine blk_drewN ?_ _ | refine blk_drew ?_ | refine blk_alloc ?_ _)); exact BK42001.out⟩, ⟨by repeat (first | (with_reducible first | exact HB.out | apply below_alloc | apply pw_below_drewN | apply below_drew1 | refine below_set ?_ GE42001.out) | exact HB.out)⟩⟩
          case round =>
            clear H'
            try clear c1
            try clear p2
            try clear c4
            try clear c4b0
            try clear c4b1
            try clear c4b2
            try clear c7
            try clear c8
            try clear c8b0
            try clear c8b1
            try clear hcz10_0
            try clear hcz10_1
            try clear hcz5_0
            try clear hcz5_1
            try clear hcz6_0
            try clear hcz6_1
            try clear hcz9_0
            try clear hcz9_1
            try clear hfz10_0
            try clear hfz10_1
            try clear hfz5_0
            try clear hfz5_1
            try clear hfz6_0
            try clear hfz6_1
            try clear hfz9_0
            try clear hfz9_1
            try clear p2
            obtain ⟨x4_2, rfl, HA, HK2, BK42001, HB⟩ := hrel
            cases gk with
            | zero => exact absurd HA.out (by simp [guidevaneref09_CheckBasin.l0])
            | succ k2 =>
              have H := HA.out
              clear HA
              simp only [guidevaneref09_CheckBasin.l0] at H
              by_cases c11 : x4_2 < (l0_0.length : Int)
              · rw [if_pos c11] at H
                have c11b0 : decide (x4_2 < (l0_0.length : Int)) = true := decide_eq_true c11
                clear c11
                by_cases c12 : 0 ≤ x4_2
                · rw [if_pos c12] at H
                  have c12b0 : decide (0 ≤ x4_2) = true := decide_eq_true c12
                  clear c12
                  replace H := Option.bind_eq_some_iff.mp H
                  obtain ⟨t42003, A130, H⟩ := H
                  replace H : (if t42003 = true then (if x4_2 < (l0_1.length : Int) then ((guidevanebase_Within.f (rd l0_1 x4_2) 1 1000000000).bind fun t42005 => (if t42005 = true then (guidevaneref09_CheckBasin.l0 k2 (wrap64 (x4_2 + 1)) l0_0 l0_1) else (some (x4_2, 2)))) else (none)) else (some (x4_2, 2))) = some (r1, r2) := H
                  have A13 := Aside0.mk A130
                  clear A130
                  by_cases c14 : t42003 = true
                  · subst c14
                    have H1 : (if x4_2 < (l0_1.length : Int) then ((guidevanebase_Within.f (rd l0_1 x4_2) 1 1000000000).bind fun t42005 => (if t42005 = true then (guidevaneref09_CheckBasin.l0 k2 (wrap64 (x4_2 + 1)) l0_0 l0_1) else (some (x4_2, 2)))) else (none)) = some (r1, r2) := by rw [if_pos rfl] at H; exact H
                    clear H
                    have H := H1
                    clear H1
                    by_cases c15 : x4_2 < (l0_1.length : Int)
                    · rw [if_pos c15] at H
                      have c15b0 : decide (x4_2 < (l0_1.length : Int)) = true := decide_eq_true c15
                      clear c15
                      replace H := Option.bind_eq_some_iff.mp H
                      obtain ⟨t42005, A160, H⟩ := H
                      replace H : (if t42005 = true then (guidevaneref09_CheckBasin.l0 k2 (wrap64 (x4_2 + 1)) l0_0 l0_1) else (some (x4_2, 2))) = some (r1, r2) := H
                      have A16 := Aside0.mk A160
                      clear A160
                      by_cases c17 : t42005 = true
                      · subst c17
                        have H1 : (guidevaneref09_CheckBasin.l0 k2 (wrap64 (x4_2 + 1)) l0_0 l0_1) = some (r1, r2) := by rw [if_pos rfl] at H; exact H
                        clear H
                        have H := H1
                        clear H1
                        have H' := Aside0.mk H
                        clear H
                        have hcz18_0 : wr.cell? ⟨gb42001, 0, none⟩ = some (.slice A0_0 l0_0.length c0_0) := (blk_cell BK42001.out 0).trans rfl
                        have hcz18_1 : wr.cell? ⟨gb42001, 1, none⟩ = some (.slice A0_1 l0_1.length c0_1) := (blk_cell BK42001.out 1).trans rfl
                        have hfz18_0 := blk_frozen BK42001.out 0
                        have hfz18_1 := blk_frozen BK42001.out 1
                        have p42002 : 0 ≤ (x4_2 : Int) := of_decide_eq_true (by first | (with_reducible assumption) | assumption)
                        have q42002 : x4_2 < (l0_0.length : Int) := of_decide_eq_true (by first | (with_reducible assumption) | assumption)
                        obtain ⟨ad42002, e42002, hx42002_0⟩ := Kd.at_int HR0_0.out x4_2 p42002 q42002
                        cases e42002
                        replace hx42002_0 := (HB.out.cell (World.block_lt_of_cell? w _ hx42002_0)).trans hx42002_0
                        replace p42002 := eq_true p42002
                        replace q42002 := eq_true q42002
                        go_wp2_with (first | ((with_reducible refine gate_callee (f := 15) rfl ?_); refine goesL_ (some 34) rfl rfl Try.func15 (by kernel_rfl) rfl #[.int .i64 (rd l0_0 x4_2), .int .i64 0, .int .i64 1000000000] rfl (by (try simp only [List.map_toArray, List.map_cons, List.map_nil]); first | done | rfl | (simp only [List.length_drop, List.length_take]; rfl)) ?_; (with_reducible refine (guidevanebase_Within.calls (rd l0_0 x4_2) 0 1000000000 true _ A13.out).mono ?_); rintro e w' ⟨rfl, ⟨nd, rfl⟩⟩; refine ⟨_, rfl, ?_⟩; have p42004 : 0 ≤ (x4_2 : Int) := of_decide_eq_true (by first | (with_reducible assumption) | assumption); have q42004 : x4_2 < (l0_1.length : Int) := of_decide_eq_true (by first | (with_reducible assumption) | assumption); obtain ⟨ad42004, e42004, hx42004_0⟩ := Kd.at_int HR0_1.out x4_2 p42004 q42004; cases e42004; replace hx42004_0 := (HB.out.cell (World.block_lt_of_cell? w _ hx42004_0)).trans hx42004_0; replace p42004 := eq_true p42004; replace q42004 := eq_true q42004) | (go_at_call 15; (with_reducible refine (guidevanebase_Within.calls (rd l0_1 x4_2) 1 1000000000 true _ A16.out).mono ?_); rintro e w' ⟨rfl, ⟨nd, rfl⟩⟩))
                        go_roundg k2
                        case measure => have := HJ1.out; have := HK2.out; omega
                        case rel => exact ⟨(wrap64 (x4_2 + 1)), (by first | rfl | (simp; done) | (simp [*]; done)), H', ⟨by have := HJ1.out; have := HK2.out; omega⟩, ⟨by (with_reducible repeat (first | refine blk_drewN ?_ _ | refine blk_drew ?_ | refine blk_alloc ?_ _)); exact BK42001.out⟩, ⟨by repeat (first | (with_reducible first | exact HB.out | apply below_alloc | apply pw_below_drewN | apply below_drew1 | refine below_set ?_ GE42001.out) | exact HB.out)⟩⟩
                      · replace c17 := Bool.eq_false_iff.mpr c17
                        subst c17
                        have H1 : (some (x4_2, 2)) = some (r1, r2) := by rw [if_neg (show ¬ (false = true) by decide)] at H; exact H
                        clear H
                        have H := H1
                        clear H1
                        simp only [Option.some.injEq, Prod.mk.injEq] at H
                        obtain ⟨rfl, rfl⟩ := H
                        have hcz19_0 : wr.cell? ⟨gb42001, 0, none⟩ = some (.slice A0_0 l0_0.length c0_0) := (blk_cell BK42001.out 0).trans rfl
                        have hcz19_1 : wr.cell? ⟨gb42001, 1, none⟩ = some (.slice A0_1 l0_1.length c0_1) := (blk_cell BK42001.out 1).trans rfl
                        have hfz19_0 := blk_frozen BK42001.out 0
                        have hfz19_1 := blk_frozen BK42001.out 1
                        have p42002 : 0 ≤ (x4_2 : Int) := of_decide_eq_true (by first | (with_reducible assumption) | assumption)
                        have q42002 : x4_2 < (l0_0.length : Int) := of_decide_eq_true (by first | (with_reducible assumption) | assumption)
                        obtain ⟨ad42002, e42002, hx42002_0⟩ := Kd.at_int HR0_0.out x4_2 p42002 q42002
                        cases e42002
                        replace hx42002_0 := (HB.out.cell (World.block_lt_of_cell? w _ hx42002_0)).trans hx42002_0
                        replace p42002 := eq_true p42002
                        replace q42002 := eq_true q42002
                        go_wp2_with (first | ((with_reducible refine gate_callee (f := 15) rfl ?_); refine goesL_ (some 34) rfl rfl Try.func15 (by kernel_rfl) rfl #[.int .i64 (rd l0_0 x4_2), .int .i64 0, .int .i64 1000000000] rfl (by (try simp only [List.map_toArray, List.map_cons, List.map_nil]); first | done | rfl | (simp only [List.length_drop, List.length_take]; rfl)) ?_; (with_reducible refine (guidevanebase_Within.calls (rd l0_0 x4_2) 0 1000000000 true _ A13.out).mono ?_); rintro e w' ⟨rfl, ⟨nd, rfl⟩⟩; refine ⟨_, rfl, ?_⟩; have p42004 : 0 ≤ (x4_2 : Int) := of_decide_eq_true (by first | (with_reducible assumption) | assumption); have q42004 : x4_2 < (l0_1.length : Int) := of_decide_eq_true (by first | (with_reducible assumption) | assumption); obtain ⟨ad42004, e42004, hx42004_0⟩ := Kd.at_int HR0_1.out x4_2 p42004 q42004; cases e42004; replace hx42004_0 := (HB.out.cell (World.block_lt_of_cell? w _ hx42004_0)).trans hx42004_0; replace p42004 := eq_true p42004; replace q42004 := eq_true q42004) | (go_at_call 15; (with_reducible refine (guidevanebase_Within.calls (rd l0_1 x4_2) 1 1000000000 false _ A16.out).mono ?_); rintro e w' ⟨rfl, ⟨nd, rfl⟩⟩))
                        go_ret2
                        exact ⟨by first | rfl | (simp [errW_none, errW_some] <;> rfl) | (simp [*, errW_none, errW_some] <;> rfl), by repeat (first | (with_reducible first | exact HB.out | apply below_alloc | apply pw_below_drewN | apply below_drew1 | refine below_set ?_ GE42001.out) | exact HB.out)⟩
                    · rw [if_neg c15] at H
                      exact absurd H (by simp)
                  · replace c14 := Bool.eq_false_iff.mpr c14
                    subst c14
                    have H1 : (some (x4_2, 2)) = some (r1, r2) := by rw [if_neg (show ¬ (false = true) by decide)] at H; exact H
                    clear H
                    have H := H1
                    clear H1
                    simp only [Option.some.injEq, Prod.mk.injEq] at H
                    obtain ⟨rfl, rfl⟩ := H
                    have hcz20_0 : wr.cell? ⟨gb42001, 0, none⟩ = some (.slice A0_0 l0_0.length c0_0) := (blk_cell BK42001.out 0).trans rfl
                    have hcz20_1 : wr.cell? ⟨gb42001, 1, none⟩ = some (.slice A0_1 l0_1.length c0_1) := (blk_cell BK42001.out 1).trans rfl
                    have hfz20_0 := blk_frozen BK42001.out 0
                    have hfz20_1 := blk_frozen BK42001.out 1
                    have p42002 : 0 ≤ (x4_2 : Int) := of_decide_eq_true (by first | (with_reducible assumption) | assumption)
                    have q42002 : x4_2 < (l0_0.length : Int) := of_decide_eq_true (by first | (with_reducible assumption) | assumption)
                    obtain ⟨ad42002, e42002, hx42002_0⟩ := Kd.at_int HR0_0.out x4_2 p42002 q42002
                    cases e42002
                    replace hx42002_0 := (HB.out.cell (World.block_lt_of_cell? w _ hx42002_0)).trans hx42002_0
                    replace p42002 := eq_true p42002
                    replace q42002 := eq_true q42002
                    go_wp2_with (first | ((with_reducible refine gate_callee (f := 15) rfl ?_); refine goesL_ (some 34) rfl rfl Try.func15 (by kernel_rfl) rfl #[.int .i64 (rd l0_0 x4_2), .int .i64 0, .int .i64 1000000000] rfl (by (try simp only [List.map_toArray, List.map_cons, List.map_nil]); first | done | rfl | (simp only [List.length_drop, List.length_take]; rfl)) ?_; (with_reducible refine (guidevanebase_Within.calls (rd l0_0 x4_2) 0 1000000000 false _ A13.out).mono ?_); rintro e w' ⟨rfl, ⟨nd, rfl⟩⟩; refine ⟨_, rfl, ?_⟩))
                    go_ret2
                    exact ⟨by first | rfl | (simp [errW_none, errW_some] <;> rfl) | (simp [*, errW_none, errW_some] <;> rfl), by repeat (first | (with_reducible first | exact HB.out | apply below_alloc | apply pw_below_drewN | apply below_drew1 | refine below_set ?_ GE42001.out) | exact HB.out)⟩
                · rw [if_neg c12] at H
                  exact absurd H (by simp)
              · rw [if_neg c11] at H
                have c11b0 : decide (x4_2 < (l0_0.length : Int)) = false := decide_eq_false c11
                clear c11
                simp only [Option.some.injEq, Prod.mk.injEq] at H
                obtain ⟨rfl, rfl⟩ := H
                have hcz21_0 : wr.cell? ⟨gb42001, 0, none⟩ = some (.slice A0_0 l0_0.length c0_0) := (blk_cell BK42001.out 0).trans rfl
                have hcz21_1 : wr.cell? ⟨gb42001, 1, none⟩ = some (.slice A0_1 l0_1.length c0_1) := (blk_cell BK42001.out 1).trans rfl
                have hfz21_0 := blk_frozen BK42001.out 0
                have hfz21_1 := blk_frozen BK42001.out 1
                go_wp2
                go_ret2
                exact ⟨by first | rfl | (simp [errW_none, errW_some] <;> rfl) | (simp [*, errW_none, errW_some] <;> rfl), by repeat (first | (with_reducible first | exact HB.out | apply below_alloc | apply pw_below_drewN | apply below_drew1 | refine below_set ?_ GE42001.out) | exact HB.out)⟩

end Go.Proofs.Yteopooljohdoiaa.Px

namespace Go.Proofs.Yteopooljohdoiaa.Px
open Go.RowKit Go.Proofs.YteopooljohdoiaaW.PrintWords Go.Proofs.YteopooljohdoiaaW.PrintLast Go.Proofs.YteopooljohdoiaaW.PrintMore
attribute [local go_sem] max2_int min2_int max_two min_two max_three min_three max_four min_four   -- for this text's walks alone
set_option linter.unusedVariables false
set_option linter.unusedSimpArgs false

/-! ### guidevanebase_Floor: function 66 -/
def guidevanebase_Floor.f (a0 : Int) (a1 : Int) : Option (Int) := if a1 = 0 then (none) else (if (Int.tmod a0 a1) < 0 then (some (wrap64 ((wrap64 (Int.tdiv a0 a1)) - 1))) else (some (wrap64 (Int.tdiv a0 a1))))
set_option maxHeartbeats 8000000 in
set_option maxRecDepth 100000 in
theorem guidevanebase_Floor.calls (a0 : Int) (a1 : Int) (r : Int) (w : World) (h : guidevanebase_Floor.f a0 a1 = some r) :
    Calls Try.prog 66 #[.int .i64 a0, .int .i64 a1] w fun e w' => e = .returned (.int .i64 r) ∧ Drawn0 w w' := by
  have H : (if a1 = 0 then (none) else (if (Int.tmod a0 a1) < 0 then (some (wrap64 ((wrap64 (Int.tdiv a0 a1)) - 1))) else (some (wrap64 (Int.tdiv a0 a1))))) = some r := h
  clear h
  by_cases c3 : a1 = 0
  · rw [if_pos c3] at H
    exact absurd H (by simp)
  · rw [if_neg c3] at H
    have c3b0 : (a1 == 0) = false := beq_eq_false_iff_ne.mpr c3
    have c3b1 : (a1 != 0) = true := bne_iff_ne.mpr c3
    by_cases c4 : (Int.tmod a0 a1) < 0
    · rw [if_pos c4] at H
      have c4b0 : decide ((Int.tmod a0 a1) < 0) = true := decide_eq_true c4
      clear c4
      obtain rfl := Option.some.inj H
      go_enter Try.func66, Try.ntmps66
      go_wp2
      go_ret
      exact ⟨by first | rfl | (simp; done) | (simp [*]; done), by repeat (first | exact Drawn0.refl _ | apply Drawn0.step)⟩
    · rw [if_neg c4] at H
      have c4b0 : decide ((Int.tmod a0 a1) < 0) = false := decide_eq_false c4
      clear c4
      obtain rfl := Option.some.inj H
      go_enter Try.func66, Try.ntmps66
      go_wp2
      go_ret
      exact ⟨by first | rfl | (simp; done) | (simp [*]; done), by repeat (first | exact Drawn0.refl _ | apply Drawn0.step)⟩

end Go.Proofs.Yteopooljohdoiaa.Px

namespace Go.Proofs.Yteopooljohdoiaa.Px
open Go.RowKit Go.Proofs.YteopooljohdoiaaW.PrintWords Go.Proofs.YteopooljohdoiaaW.PrintLast Go.Proofs.YteopooljohdoiaaW.PrintMore
attribute [local go_sem] max2_int min2_int max_two min_two max_three min_three max_four min_four   -- for this text's walks alone
set_option linter.unusedVariables false
set_option linter.unusedSimpArgs false

/-! ### guidevanebase_Ceil: function 17 -/
def guidevanebase_Ceil.f (a0 : Int) (a1 : Int) : Option (Int) := (guidevanebase_Floor.f (wrap64 (-a0)) a1).bind fun t51001 => (some (wrap64 (-t51001)))
set_option maxHeartbeats 8000000 in
set_option maxRecDepth 100000 in
theorem guidevanebase_Ceil.calls (a0 : Int) (a1 : Int) (r : Int) (w : World) (h : guidevanebase_Ceil.f a0 a1 = some r) :
    Calls Try.prog 17 #[.int .i64 a0, .int .i64 a1] w fun e w' => e = .returned (.int .i64 r) ∧ Drawn0 w w' := by
  have H : ((guidevanebase_Floor.f (wrap64 (-a0)) a1).bind fun t51001 => (some (wrap64 (-t51001)))) = some r := h
  clear h
  replace H := Option.bind_eq_some_iff.mp H
  obtain ⟨t51001, A30, H⟩ := H
  replace H : (some (wrap64 (-t51001))) = some r := H
  have A3 := Aside0.mk A30
  clear A30
  obtain rfl := Option.some.inj H
  go_enter Try.func17, Try.ntmps17
  go_wp2_with (first | ((with_reducible refine gate_callee (f := 66) rfl ?_); refine goesL_ (some 8) rfl rfl Try.func66 (by kernel_rfl) rfl #[.int .i64 (wrap64 (-a0)), .int .i64 a1] rfl (by (try simp only [List.map_toArray, List.map_cons, List.map_nil]); first | done | rfl | (simp only [List.length_drop, List.length_take]; rfl)) ?_; (with_reducible refine (guidevanebase_Floor.calls (wrap64 (-a0)) a1 t51001 _ A3.out).mono ?_); rintro e w' ⟨rfl, ⟨nd, rfl⟩⟩; refine ⟨_, rfl, ?_⟩))
  go_ret
  exact ⟨by first | rfl | (simp; done) | (simp [*]; done), by repeat (first | exact Drawn0.refl _ | apply Drawn0.step)⟩

end Go.Proofs.Yteopooljohdoiaa.Px

namespace Go.Proofs.Yteopooljohdoiaa.Px
open Go.RowKit Go.Proofs.YteopooljohdoiaaW.PrintWords Go.Proofs.YteopooljohdoiaaW.PrintLast Go.Proofs.YteopooljohdoiaaW.PrintMore
attribute [local go_sem] max2_int min2_int max_two min_two max_three min_three max_four min_four   -- for this text's walks alone
set_option linter.unusedVariables false
set_option linter.unusedSimpArgs false

/-! ### guidevaneref09_Emptying: function 16 -/
def guidevaneref09_Emptying.l0 : Nat → Int → Int → Int → List Int → List Int → Option (Int)
  | 0, _, _, _, _, _ => none
  | k + 1, x1, x5, x6, x48002000, x48002001 => if x6 < x1 then (if 0 ≤ x6 then (if x6 < (x48002000.length : Int) then (if x6 < (x48002001.length : Int) then ((guidevanebase_Ceil.f (rd x48002000 x6) (rd x48002001 x6)).bind fun t48004 => (guidevaneref09_Emptying.l0 k x1 (wrap64 (x5 + t48004)) (wrap64 (x6 + 1)) x48002000 x48002001)) else (none)) else (none)) else (none)) else (some x5)
def guidevaneref09_Emptying.f (k : Nat) (l0_0 : List Int) (l0_1 : List Int) (a1 : Int) : Option (Int) := guidevaneref09_Emptying.l0 k a1 0 0 l0_0 l0_1
theorem guidevaneref09_Emptying.mono_l : ∀ k, (∀ y0 y1 y2 y3 y4, LeO (guidevaneref09_Emptying.l0 k y0 y1 y2 y3 y4) (guidevaneref09_Emptying.l0 (k + 1) y0 y1 y2 y3 y4))
  | 0 => fun _ _ _ _ _ r h => by simp [guidevaneref09_Emptying.l0] at h
  | k + 1 => by
    have ih0 := guidevaneref09_Emptying.mono_l k
    · intro y0 y1 y2 y3 y4
      unfold guidevaneref09_Emptying.l0
      repeat' first
      | (with_reducible exact ih0 _ _ _ _ _)
      | (with_reducible exact LeO.refl _)
      | (with_reducible exact LeO.none _)
      | (with_reducible refine LeO.ite ?_ ?_)
      | (with_reducible refine LeO.bind ?_ (fun _ => ?_))
      | exact ih0 _ _ _ _ _
      | exact LeO.none _
      | refine LeO.ite ?_ ?_
      | refine LeO.bind ?_ (fun _ => ?_)
theorem guidevaneref09_Emptying.mono : ∀ a0 a1 a2 k, LeO (guidevaneref09_Emptying.f k a0 a1 a2) (guidevaneref09_Emptying.f (k + 1) a0 a1 a2) := by
  intro a0 a1 a2 k
  have ih0 := guidevaneref09_Emptying.mono_l k
  unfold guidevaneref09_Emptying.f
  repeat' first
      | (with_reducible exact ih0 _ _ _ _ _)
      | (with_reducible exact LeO.refl _)
      | (with_reducible exact LeO.none _)
      | (with_reducible refine LeO.ite ?_ ?_)
      | (with_reducible refine LeO.bind ?_ (fun _ => ?_))
      | exact ih0 _ _ _ _ _
      | exact LeO.none _
      | refine LeO.ite ?_ ?_
      | refine LeO.bind ?_ (fun _ => ?_)
set_option maxHeartbeats 8000000 in
set_option maxRecDepth 100000 in
theorem guidevaneref09_Emptying.calls (k : Nat) (A0_0 : Option Addr) (c0_0 : Nat) (l0_0 : List Int) (A0_1 : Option Addr) (c0_1 : Nat) (l0_1 : List Int) (a1 : Int) (r : Int) (w : World) (hr0_0 : Kd.C (Kd.int .i64) w A0_0 l0_0.length l0_0) (hc0_0 : l0_0.length ≤ c0_0) (hr0_1 : Kd.C (Kd.int .i64) w A0_1 l0_1.length l0_1) (hc0_1 : l0_1.length ≤ c0_1) (h : guidevaneref09_Emptying.f k l0_0 l0_1 a1 = some r) :
    Calls Try.prog 16 #[.agg #[.slice A0_0 l0_0.length c0_0, .slice A0_1 l0_1.length c0_1], .int .i64 a1] w fun e w' => e = .returned (.int .i64 r) ∧ Below w.heap.size w w' := by
  have hu24 := Try.underlying24
  have HR0_0 := Aside0.mk hr0_0
  have HC0_0 := Aside0.mk hc0_0
  clear hr0_0 hc0_0
  have HR0_1 := Aside0.mk hr0_1
  have HC0_1 := Aside0.mk hc0_1
  clear hr0_1 hc0_1
  have HB := Aside0.mk (Below.refl w.heap.size w)
  have H : (guidevaneref09_Emptying.l0 k a1 0 0 l0_0 l0_1) = some r := h
  clear h
  have H' := Aside0.mk H
  clear H
  go_enter Try.func16, Try.ntmps16
  go_wp2_with (first | ((with_reducible refine gate_dst (N := 2) rfl ?_); refine box_event ?hg (N := 2) ?hd (cs := #[.slice A0_0 l0_0.length c0_0, .slice A0_1 l0_1.length c0_1]) (t := 24) ?hr ?_; (case hd => rfl); (case hg => rfl); (case hr => first | (go_simp; done) | (go_simp; rfl)); intro gb48001 hg w3 hbox hb; have n0_ := Aside0.mk (below_step (by repeat (first | (with_reducible first | exact HB.out | apply below_alloc | apply pw_below_drewN | apply below_drew1) | exact HB.out)) hb); have n1_ := Aside0.mk (hbox); have n2_ := Aside0.mk ((by rw [hg]; exact (below_size (by repeat (first | (with_reducible first | exact HB.out | apply below_alloc | apply pw_below_drewN | apply below_drew1) | exact HB.out))) : w.heap.size ≤ gb48001)); have n3_ := Aside0.mk ((by rw [hg]; exact (below_size (by repeat (first | (with_reducible first | exact HB.out | apply below_alloc | apply pw_below_drewN | apply below_drew1) | exact HB.out))) : w.heap.size ≤ gb48001)); clear HB; have HB := n0_; have BK48001 := n1_; have GW48001 := n2_; have GE48001 := n3_; clear n0_ n1_ n2_ n3_; clear hb hbox hg))
  repeat (go_quiet (first | ((with_reducible refine gate_dst (N := 2) rfl ?_); refine box_event ?hg (N := 2) ?hd (cs := #[.slice A0_0 l0_0.length c0_0, .slice A0_1 l0_1.length c0_1]) (t := 24) ?hr ?_; (case hd => rfl); (case hg => rfl); (case hr => first | (go_simp; done) | (go_simp; rfl)); intro gb48001 hg w3 hbox hb; have n0_ := Aside0.mk (below_step (by repeat (first | (with_reducible first | exact HB.out | apply below_alloc | apply pw_below_drewN | apply below_drew1) | exact HB.out)) hb); have n1_ := Aside0.mk (hbox); have n2_ := Aside0.mk ((by rw [hg]; exact (below_size (by repeat (first | (with_reducible first | exact HB.out | apply below_alloc | apply pw_below_drewN | apply below_drew1) | exact HB.out))) : w.heap.size ≤ gb48001)); have n3_ := Aside0.mk ((by rw [hg]; exact (below_size (by repeat (first | (with_reducible first | exact HB.out | apply below_alloc | apply pw_below_drewN | apply below_drew1) | exact HB.out))) : w.heap.size ≤ gb48001)); clear HB; have HB := n0_; have BK48001 := n1_; have GW48001 := n2_; have GE48001 := n3_; clear n0_ n1_ n2_ n3_; clear hb hbox hg)); try go_wp2_with (first | ((with_reducible refine gate_dst (N := 2) rfl ?_); refine box_event ?hg (N := 2) ?hd (cs := #[.slice A0_0 l0_0.length c0_0, .slice A0_1 l0_1.length c0_1]) (t := 24) ?hr ?_; (case hd => rfl); (case hg => rfl); (case hr => first | (go_simp; done) | (go_simp; rfl)); intro gb48001 hg w3 hbox hb; have n0_ := Aside0.mk (below_step (by repeat (first | (with_reducible first | exact HB.out | apply below_alloc | apply pw_below_drewN | apply below_drew1) | exact HB.out)) hb); have n1_ := Aside0.mk (hbox); have n2_ := Aside0.mk ((by rw [hg]; exact (below_size (by repeat (first | (with_reducible first | exact HB.out | apply below_alloc | apply pw_below_drewN | apply below_drew1) | exact HB.out))) : w.heap.size ≤ gb48001)); have n3_ := Aside0.mk ((by rw [hg]; exact (below_size (by repeat (first | (with_reducible first | exact HB.out | apply below_alloc | apply pw_below_drewN | apply below_drew1) | exact HB.out))) : w.heap.size ≤ gb48001)); clear HB; have HB := n0_; have BK48001 := n1_; have GW48001 := n2_; have GE48001 := n3_; clear n0_ n1_ n2_ n3_; clear hb hbox hg)))
  go_loopg [5, 6] k (fun kq v5 v6 w' => ∃ (x5_1 : Int) (x6_1 : Int), v5 = .int .i64 x5_1 ∧ v6 = .int .i64 x6_1 ∧ Aside0 (guidevaneref09_Emptying.l0 kq a1 x5_1 x6_1 l0_0 l0_1 = some r) ∧ Aside0 (kq ≤ k) ∧ Aside0 (w'.heap[gb48001]? = some (.cells #[(.slice A0_0 l0_0.length c0_0), (.slice A0_1 l0_1.length c0_1)] 24 (0, 0))) ∧ Aside0 (Below w.heap.size w w'))
  case atStart => exact ⟨(0), (0), (by first | rfl | (simp; done) | (simp [*]; done)), (by first | rfl | (simp; done) | (simp [*]; done)), H', ⟨Nat.le_refl _⟩, ⟨by (with_reducible repeat (first | refine blk_drewN ?_ _ | refine blk_drew ?_ | refine blk_alloc ?_ _)); exact BK48001.out⟩, ⟨by repeat (first | (with_reducible first | exact HB.out | apply below_alloc | apply pw_below_drewN | apply below_drew1 | refine below_set ?_ GE48001.out) | exact HB.out)⟩⟩
  case round =>
    clear H'
    try clear c1
    try clear p2
    obtain ⟨x5_1, x6_1, rfl, rfl, HA, HK1, BK48001, HB⟩ := hrel
    cases gk with
    | zero => exact absurd HA.out (by simp [guidevaneref09_Emptying.l0])
    | succ k1 =>
      have H := HA.out
      clear HA
      simp only [guidevaneref09_Emptying.l0] at H
      by_cases c4 : x6_1 < a1
      · rw [if_pos c4] at H
        have c4b0 : decide (x6_1 < a1) = true := decide_eq_true c4
        clear c4
        by_cases c5 : 0 ≤ x6_1
        · rw [if_pos c5] at H
          have c5b0 : decide (0 ≤ x6_1) = true := decide_eq_true c5
          clear c5
          by_cases c6 : x6_1 < (l0_0.length : Int)
          · rw [if_pos c6] at H
            have c6b0 : decide (x6_1 < (l0_0.length : Int)) = true := decide_eq_true c6
            clear c6
            by_cases c7 : x6_1 < (l0_1.length : Int)
            · rw [if_pos c7] at H
              have c7b0 : decide (x6_1 < (l0_1.length : Int)) = true := decide_eq_true c7
              clear c7
              replace H := Option.bind_eq_some_iff.mp H
              obtain ⟨t48004, A80, H⟩ := H
              replace H : (guidevaneref09_Emptying.l0 k1 a1 (wrap64 (x5_1 + t48004)) (wrap64 (x6_1 + 1)) l0_0 l0_1) = some r := H
              have A8 := Aside0.mk A80
              clear A80
              have H' := Aside0.mk H
              clear H
              have hcz9_0 : wr.cell? ⟨gb48001, 0, none⟩ = some (.slice A0_0 l0_0.length c0_0) := (blk_cell BK48001.out 0).trans rfl
              have hcz9_1 : wr.cell? ⟨gb48001, 1, none⟩ = some (.slice A0_1 l0_1.length c0_1) := (blk_cell BK48001.out 1).trans rfl
              have hfz9_0 := blk_frozen BK48001.out 0
              have hfz9_1 := blk_frozen BK48001.out 1
              have p48002 : 0 ≤ (x6_1 : Int) := of_decide_eq_true (by first | (with_reducible assumption) | assumption)
              have q48002 : x6_1 < (l0_0.length : Int) := of_decide_eq_true (by first | (with_reducible assumption) | assumption)
              obtain ⟨ad48002, e48002, hx48002_0⟩ := Kd.at_int HR0_0.out x6_1 p48002 q48002
              cases e48002
              replace hx48002_0 := (HB.out.cell (World.block_lt_of_cell? w _ hx48002_0)).trans hx48002_0
              replace p48002 := eq_true p48002
              replace q48002 := eq_true q48002
              have p48003 : 0 ≤ (x6_1 : Int) := of_decide_eq_true (by first | (with_reducible assumption) | assumption)
              have q48003 : x6_1 < (l0_1.length : Int) := of_decide_eq_true (by first | (with_reducible assumption) | assumption)
              obtain ⟨ad48003, e48003, hx48003_0⟩ := Kd.at_int HR0_1.out x6_1 p48003 q48003
              cases e48003
              replace hx48003_0 := (HB.out.cell (World.block_lt_of_cell? w _ hx48003_0)).trans hx48003_0
              replace p48003 := eq_true p48003
              replace q48003 := eq_true q48003
              go_wp2_with (first | (go_at_call 17; (with_reducible refine (guidevanebase_Ceil.calls (rd l0_0 x6_1) (rd l0_1 x6_1) t48004 _ A8.out).mono ?_); rintro e w' ⟨rfl, ⟨nd, rfl⟩⟩; (try first | exact ⟨rfl, _, World.drewN_drewN _ _ _⟩ | exact ⟨rfl, _, Eq.trans (World.drewN_drewN _ _ _) (congrArg (World.drewN _) (Nat.add_assoc _ _ _))⟩)))
              repeat (go_quiet (first | (go_at_call 17; (with_reducible refine (guidevanebase_Ceil.calls (rd l0_0 x6_1) (rd l0_1 x6_1) t48004 _ A8.out).mono ?_); rintro e w' ⟨rfl, ⟨nd, rfl⟩⟩; (try first | exact ⟨rfl, _, World.drewN_drewN _ _ _⟩ | exact ⟨rfl, _, Eq.trans (World.drewN_drewN _ _ _) (congrArg (World.drewN _) (Nat.add_assoc _ _ _))⟩))); try go_wp2_with (first | (go_at_call 17; (with_reducible refine (guidevanebase_Ceil.calls (rd l0_0 x6_1) (rd l0_1 x6_1) t48004 _ A8.out).mono ?_); rintro e w' ⟨rfl, ⟨nd, rfl⟩⟩; (try first | exact ⟨rfl, _, World.drewN_drewN _ _ _⟩ | exact ⟨rfl, _, Eq.trans (World.drewN_drewN _ _ _) (congrArg (World.drewN _) (Nat.add_assoc _ _ _))⟩))))
              go_roundg k1
              case measure => have := HK1.out; omega
              case rel => exact ⟨(wrap64 (x5_1 + t48004)), (wrap64 (x6_1 + 1)), (by first | rfl | (simp; done) | (simp [*]; done)), (by first | rfl | (simp; done) | (simp [*]; done)), H', ⟨by have := HK1.out; omega⟩, ⟨by (with_reducible repeat (first | refine blk_drewN ?_ _ | refine blk_drew ?_ | refine blk_alloc ?_ _)); exact BK48001.out⟩, ⟨by repeat (first | (with_reducible first | exact HB.out | apply below_alloc | apply pw_below_drewN | apply below_drew1 | refine below_set ?_ GE48001.out) | exact HB.out)⟩⟩
            · rw [if_neg c7] at H
              exact absurd H (by simp)
          · rw [if_neg c6] at H
            exact absurd H (by simp)
        · rw [if_neg c5] at H
          exact absurd H (by simp)
      · rw [if_neg c4] at H
        have c4b0 : decide (x6_1 < a1) = false := decide_eq_false c4
        clear c4
        obtain rfl := Option.some.inj H
        go_wp2
        repeat (go_quiet (fail); try go_wp2)
        go_ret
        exact ⟨by first | rfl | (simp [errW_none, errW_some] <;> rfl) | (simp [*, errW_none, errW_some] <;> rfl), by repeat (first | (with_reducible first | exact HB.out | apply below_alloc | apply pw_below_drewN | apply below_drew1 | refine below_set ?_ GE48001.out) | exact HB.out)⟩

end Go.Proofs.Yteopooljohdoiaa.Px

namespace Go.Proofs.Yteopooljohdoiaa.Px
open Go.RowKit Go.Proofs.YteopooljohdoiaaW.PrintWords Go.Proofs.YteopooljohdoiaaW.PrintLast Go.Proofs.YteopooljohdoiaaW.PrintMore
attribute [local go_sem] max2_int min2_int max_two min_two max_three min_three max_four min_four   -- for this text's walks alone
set_option linter.unusedVariables false
set_option linter.unusedSimpArgs false

/-! ### guidevanelaw09_DamBasins: function 3 -/
mutual
def guidevanelaw09_DamBasins.j0 : Nat → Int → Bool → List Int → List Int → Option (Bool)
  | 0, _, _, _, _ => none
  | k + 1, x1, x24, x9002000, x9002001 => if x24 = true then (some true) else ((guidevaneref09_CopyBasin.f x9002000 x9002001).bind fun bt9003 => ((dam_CheckBasin.f k bt9003.1 bt9003.2).bind fun bt9009 => ((guidevaneref09_CopyBasin.f x9002000 x9002001).bind fun bt9011 => ((dam_EmptyingOf.f k bt9011.1 bt9011.2 x1).bind fun bt9017 => ((guidevaneref09_CheckBasin.f k x9002000 x9002001).bind fun bt9019 => (if bt9009.2 = bt9019.2 then (guidevanelaw09_DamBasins.j1 k x1 bt9017.1 bt9017.2 bt9019.2 (bt9009.1 != bt9019.1) x9002000 x9002001) else (guidevanelaw09_DamBasins.j1 k x1 bt9017.1 bt9017.2 bt9019.2 true x9002000 x9002001)))))))
def guidevanelaw09_DamBasins.j1 : Nat → Int → Int → Int → Int → Bool → List Int → List Int → Option (Bool)
  | 0, _, _, _, _, _, _, _ => none
  | k + 1, x1, x7, x8, x10, x50, x9002000, x9002001 => if x50 = true then (some false) else (if x10 = 0 then ((guidevanebase_Within.f x1 0 (x9002000.length : Int)).bind fun t9021 => (guidevanelaw09_DamBasins.j2 k x1 x7 x8 x10 (!t9021) x9002000 x9002001)) else (guidevanelaw09_DamBasins.j2 k x1 x7 x8 x10 false x9002000 x9002001))
def guidevanelaw09_DamBasins.j2 : Nat → Int → Int → Int → Int → Bool → List Int → List Int → Option (Bool)
  | 0, _, _, _, _, _, _, _ => none
  | k + 1, x1, x7, x8, x10, x60, x9002000, x9002001 => if x60 = true then (guidevanelaw09_DamBasins.j3 k x1 x7 x8 2 x9002000 x9002001) else (guidevanelaw09_DamBasins.j3 k x1 x7 x8 x10 x9002000 x9002001)
def guidevanelaw09_DamBasins.j3 : Nat → Int → Int → Int → Int → List Int → List Int → Option (Bool)
  | 0, _, _, _, _, _, _ => none
  | k + 1, x1, x7, x8, x10, x9002000, x9002001 => if x10 = 0 then (if x8 = 0 then ((guidevaneref09_Emptying.f k x9002000 x9002001 x1).bind fun t9022 => (guidevanelaw09_DamBasins.j4 k x1 x7 (x7 != t9022) x9002000 x9002001)) else (guidevanelaw09_DamBasins.j4 k x1 x7 true x9002000 x9002001)) else (if x8 = x10 then (some (x7 == 0)) else (some false))
def guidevanelaw09_DamBasins.j4 : Nat → Int → Int → Bool → List Int → List Int → Option (Bool)
  | 0, _, _, _, _, _ => none
  | k + 1, x1, x7, x78, x9002000, x9002001 => if x78 = true then (some false) else (if x1 = (x9002000.length : Int) then (some true) else ((guidevaneref09_CopyBasin.f x9002000 x9002001).bind fun bt9023 => ((dam_EmptyingOf.f k bt9023.1 bt9023.2 (wrap64 (x1 + 1))).bind fun bt9029 => (if bt9029.2 = 0 then (if 0 ≤ x1 then (if x1 < (x9002000.length : Int) then (if x1 < (x9002001.length : Int) then ((guidevanebase_Ceil.f (rd x9002000 x1) (rd x9002001 x1)).bind fun t9033 => (some (bt9029.1 == (wrap64 (x7 + t9033))))) else (none)) else (none)) else (none)) else (some false)))))
end
def guidevanelaw09_DamBasins.f (k : Nat) (l0_0 : List Int) (l0_1 : List Int) (a1 : Int) : Option (Bool) := (guidevanelaw09_awake.f).bind fun t9002 => (if t9002 = true then (if (l0_0.length : Int) > 22 then (guidevanelaw09_DamBasins.j0 k a1 true l0_0 l0_1) else (guidevanelaw09_DamBasins.j0 k a1 (decide ((l0_1.length : Int) > 22)) l0_0 l0_1)) else (some false))
theorem guidevanelaw09_DamBasins.mono_l : ∀ k, (∀ y0 y1 y2 y3, LeO (guidevanelaw09_DamBasins.j0 k y0 y1 y2 y3) (guidevanelaw09_DamBasins.j0 (k + 1) y0 y1 y2 y3)) ∧ (∀ y0 y1 y2 y3 y4 y5 y6, LeO (guidevanelaw09_DamBasins.j1 k y0 y1 y2 y3 y4 y5 y6) (guidevanelaw09_DamBasins.j1 (k + 1) y0 y1 y2 y3 y4 y5 y6)) ∧ (∀ y0 y1 y2 y3 y4 y5 y6, LeO (guidevanelaw09_DamBasins.j2 k y0 y1 y2 y3 y4 y5 y6) (guidevanelaw09_DamBasins.j2 (k + 1) y0 y1 y2 y3 y4 y5 y6)) ∧ (∀ y0 y1 y2 y3 y4 y5, LeO (guidevanelaw09_DamBasins.j3 k y0 y1 y2 y3 y4 y5) (guidevanelaw09_DamBasins.j3 (k + 1) y0 y1 y2 y3 y4 y5)) ∧ (∀ y0 y1 y2 y3 y4, LeO (guidevanelaw09_DamBasins.j4 k y0 y1 y2 y3 y4) (guidevanelaw09_DamBasins.j4 (k + 1) y0 y1 y2 y3 y4))
  | 0 => ⟨fun _ _ _ _ r h => by simp [guidevanelaw09_DamBasins.j0] at h, fun _ _ _ _ _ _ _ r h => by simp [guidevanelaw09_DamBasins.j1] at h, fun _ _ _ _ _ _ _ r h => by simp [guidevanelaw09_DamBasins.j2] at h, fun _ _ _ _ _ _ r h => by simp [guidevanelaw09_DamBasins.j3] at h, fun _ _ _ _ _ r h => by simp [guidevanelaw09_DamBasins.j4] at h⟩
  | k + 1 => by
    obtain ⟨ih0, ih1, ih2, ih3, ih4⟩ := guidevanelaw09_DamBasins.mono_l k
    refine ⟨?_, ?_, ?_, ?_, ?_⟩
    · intro y0 y1 y2 y3
      unfold guidevanelaw09_DamBasins.j0
      repeat' first
      | (with_reducible exact ih0 _ _ _ _)
      | (with_reducible exact ih1 _ _ _ _ _ _ _)
      | (with_reducible exact ih2 _ _ _ _ _ _ _)
      | (with_reducible exact ih3 _ _ _ _ _ _)
      | (with_reducible exact ih4 _ _ _ _ _)
      | (with_reducible exact dam_CheckBasin.mono _ _ _)
      | (with_reducible exact dam_EmptyingOf.mono _ _ _ _)
      | (with_reducible exact guidevaneref09_CheckBasin.mono _ _ _)
      | (with_reducible exact guidevaneref09_Emptying.mono _ _ _ _)
      | (with_reducible exact LeO.refl _)
      | (with_reducible exact LeO.none _)
      | (with_reducible refine LeO.ite ?_ ?_)
      | (with_reducible refine LeO.bind ?_ (fun _ => ?_))
      | exact ih0 _ _ _ _
      | exact ih1 _ _ _ _ _ _ _
      | exact ih2 _ _ _ _ _ _ _
      | exact ih3 _ _ _ _ _ _
      | exact ih4 _ _ _ _ _
      | exact dam_CheckBasin.mono _ _ _
      | exact dam_EmptyingOf.mono _ _ _ _
      | exact guidevaneref09_CheckBasin.mono _ _ _
      | exact guidevaneref09_Emptying.mono _ _ _ _
      | exact LeO.none _
      | refine LeO.ite ?_ ?_
      | refine LeO.bind ?_ (fun _ => ?_)
    · intro y0 y1 y2 y3 y4 y5 y6
      unfold guidevanelaw09_DamBasins.j1
      repeat' first
      | (with_reducible exact ih0 _ _ _ _)
      | (with_reducible exact ih1 _ _ _ _ _ _ _)
      | (with_reducible exact ih2 _ _ _ _ _ _ _)
      | (with_reducible exact ih3 _ _ _ _ _ _)
      | (with_reducible exact ih4 _ _ _ _ _)
      | (with_reducible exact dam_CheckBasin.mono _ _ _)
      | (with_reducible exact dam_EmptyingOf.mono _ _ _ _)
      | (with_reducible exact guidevaneref09_CheckBasin.mono _ _ _)
      | (with_reducible exact guidevaneref09_Emptying.mono _ _ _ _)
      | (with_reducible exact LeO.refl _)
      | (with_reducible exact LeO.none _)
      | (with_reducible refine LeO.ite ?_ ?_)
      | (with_reducible refine LeO.bind ?_ (fun _ => ?_))
      | exact ih0 _ _ _ _
      | exact ih1 _ _ _ _ _ _ _
      | exact ih2 _ _ _ _ _ _ _
      | exact ih3 _ _ _ _ _ _
      | exact ih4 _ _ _ _ _
      | exact dam_CheckBasin.mono _ _ _
      | exact dam_EmptyingOf.mono _ _ _ _
      | exact guidevaneref09_CheckBasin.mono _ _ _
      | exact guidevaneref09_Emptying.mono _ _ _ _
      | exact LeO.none _
      | refine LeO.ite ?_ ?_
      | refine LeO.bind ?_ (fun _ => ?_)
    · intro y0 y1 y2 y3 y4 y5 y6
      unfold guidevanelaw09_DamBasins.j2
      repeat' first
      | (with_reducible exact ih0 _ _ _ _)
      | (with_reducible exact ih1 _ _ _ _ _ _ _)
      | (with_reducible exact ih2 _ _ _ _ _ _ _)
      | (with_reducible exact ih3 _ _ _ _ _ _)
      | (with_reducible exact ih4 _ _ _ _ _)
      | (with_reducible exact dam_CheckBasin.mono _ _ _)
      | (with_reducible exact dam_EmptyingOf.mono _ _ _ _)
      | (with_reducible exact guidevaneref09_CheckBasin.mono _ _ _)
      | (with_reducible exact guidevaneref09_Emptying.mono _ _ _ _)
      | (with_reducible exact LeO.refl _)
      | (with_reducible exact LeO.none _)
      | (with_reducible refine LeO.ite ?_ ?_)
      | (with_reducible refine LeO.bind ?_ (fun _ => ?_))
      | exact ih0 _ _ _ _
      | exact ih1 _ _ _ _ _ _ _
      | exact ih2 _ _ _ _ _ _ _
      | exact ih3 _ _ _ _ _ _
      | exact ih4 _ _ _ _ _
      | exact dam_CheckBasin.mono _ _ _
      | exact dam_EmptyingOf.mono _ _ _ _
      | exact guidevaneref09_CheckBasin.mono _ _ _
      | exact guidevaneref09_Emptying.mono _ _ _ _
      | exact LeO.none _
      | refine LeO.ite ?_ ?_
      | refine LeO.bind ?_ (fun _ => ?_)
    · intro y0 y1 y2 y3 y4 y5
      unfold guidevanelaw09_DamBasins.j3
      repeat' first
      | (with_reducible exact ih0 _ _ _ _)
      | (with_reducible exact ih1 _ _ _ _ _ _ _)
      | (with_reducible exact ih2 _ _ _ _ _ _ _)
      | (with_reducible exact ih3 _ _ _ _ _ _)
      | (with_reducible exact ih4 _ _ _ _ _)
      | (with_reducible exact dam_CheckBasin.mono _ _ _)
      | (with_reducible exact dam_EmptyingOf.mono _ _ _ _)
      | (with_reducible exact guidevaneref09_CheckBasin.mono _ _ _)
      | (with_reducible exact guidevaneref09_Emptying.mono _ _ _ _)
      | (with_reducible exact LeO.refl _)
      | (with_reducible exact LeO.none _)
      | (with_reducible refine LeO.ite ?_ ?_)
      | (with_reducible refine LeO.bind ?_ (fun _ => ?_))
      | exact ih0 _ _ _ _
      | exact ih1 _ _ _ _ _ _ _
      | exact ih2 _ _ _ _ _ _ _
      | exact ih3 _ _ _ _ _ _
      | exact ih4 _ _ _ _ _
      | exact dam_CheckBasin.mono _ _ _
      | exact dam_EmptyingOf.mono _ _ _ _
      | exact guidevaneref09_CheckBasin.mono _ _ _
      | exact guidevaneref09_Emptying.mono _ _ _ _
      | exact LeO.none _
      | refine LeO.ite ?_ ?_
      | refine LeO.bind ?_ (fun _ => ?_)
    · intro y0 y1 y2 y3 y4
      unfold guidevanelaw09_DamBasins.j4
      repeat' first
      | (with_reducible exact ih0 _ _ _ _)
      | (with_reducible exact ih1 _ _ _ _ _ _ _)
      | (with_reducible exact ih2 _ _ _ _ _ _ _)
      | (with_reducible exact ih3 _ _ _ _ _ _)
      | (with_reducible exact ih4 _ _ _ _ _)
      | (with_reducible exact dam_CheckBasin.mono _ _ _)
      | (with_reducible exact dam_EmptyingOf.mono _ _ _ _)
      | (with_reducible exact guidevaneref09_CheckBasin.mono _ _ _)
      | (with_reducible exact guidevaneref09_Emptying.mono _ _ _ _)
      | (with_reducible exact LeO.refl _)
      | (with_reducible exact LeO.none _)
      | (with_reducible refine LeO.ite ?_ ?_)
      | (with_reducible refine LeO.bind ?_ (fun _ => ?_))
      | exact ih0 _ _ _ _
      | exact ih1 _ _ _ _ _ _ _
      | exact ih2 _ _ _ _ _ _ _
      | exact ih3 _ _ _ _ _ _
      | exact ih4 _ _ _ _ _
      | exact dam_CheckBasin.mono _ _ _
      | exact dam_EmptyingOf.mono _ _ _ _
      | exact guidevaneref09_CheckBasin.mono _ _ _
      | exact guidevaneref09_Emptying.mono _ _ _ _
      | exact LeO.none _
      | refine LeO.ite ?_ ?_
      | refine LeO.bind ?_ (fun _ => ?_)
theorem guidevanelaw09_DamBasins.mono : ∀ a0 a1 a2 k, LeO (guidevanelaw09_DamBasins.f k a0 a1 a2) (guidevanelaw09_DamBasins.f (k + 1) a0 a1 a2) := by
  intro a0 a1 a2 k
  obtain ⟨ih0, ih1, ih2, ih3, ih4⟩ := guidevanelaw09_DamBasins.mono_l k
  unfold guidevanelaw09_DamBasins.f
  repeat' first
      | (with_reducible exact ih0 _ _ _ _)
      | (with_reducible exact ih1 _ _ _ _ _ _ _)
      | (with_reducible exact ih2 _ _ _ _ _ _ _)
      | (with_reducible exact ih3 _ _ _ _ _ _)
      | (with_reducible exact ih4 _ _ _ _ _)
      | (with_reducible exact dam_CheckBasin.mono _ _ _)
      | (with_reducible exact dam_EmptyingOf.mono _ _ _ _)
      | (with_reducible exact guidevaneref09_CheckBasin.mono _ _ _)
      | (with_reducible exact guidevaneref09_Emptying.mono _ _ _ _)
      | (with_reducible exact LeO.refl _)
      | (with_reducible exact LeO.none _)
      | (with_reducible refine LeO.ite ?_ ?_)
      | (with_reducible refine LeO.bind ?_ (fun _ => ?_))
      | exact ih0 _ _ _ _
      | exact ih1 _ _ _ _ _ _ _
      | exact ih2 _ _ _ _ _ _ _
      | exact ih3 _ _ _ _ _ _
      | exact ih4 _ _ _ _ _
      | exact dam_CheckBasin.mono _ _ _
      | exact dam_EmptyingOf.mono _ _ _ _
      | exact guidevaneref09_CheckBasin.mono _ _ _
      | exact guidevaneref09_Emptying.mono _ _ _ _
      | exact LeO.none _
      | refine LeO.ite ?_ ?_
      | refine LeO.bind ?_ (fun _ => ?_)
set_option maxHeartbeats 8000000 in
set_option maxRecDepth 100000 in
theorem guidevanelaw09_DamBasins.calls (k : Nat) (A0_0 : Option Addr) (c0_0 : Nat) (l0_0 : List Int) (A0_1 : Option Addr) (c0_1 : Nat) (l0_1 : List Int) (a1 : Int) (r : Bool) (w : World) (hr0_0 : Kd.C (Kd.int .i64) w A0_0 l0_0.length l0_0) (hc0_0 : l0_0.length ≤ c0_0) (hr0_1 : Kd.C (Kd.int .i64) w A0_1 l0_1.length l0_1) (hc0_1 : l0_1.length ≤ c0_1) (h : guidevanelaw09_DamBasins.f k l0_0 l0_1 a1 = some r) :
    Calls Try.prog 3 #[.agg #[.slice A0_0 l0_0.length c0_0, .slice A0_1 l0_1.length c0_1], .int .i64 a1] w fun e w' => e = .returned (.bool r) ∧ Below w.heap.size w w' := by
  have hu24 := Try.underlying24
  have HR0_0 := Aside0.mk hr0_0
  have HC0_0 := Aside0.mk hc0_0
  clear hr0_0 hc0_0
  have HR0_1 := Aside0.mk hr0_1
  have HC0_1 := Aside0.mk hc0_1
  clear hr0_1 hc0_1
  have HB := Aside0.mk (Below.refl w.heap.size w)
  have H : ((guidevanelaw09_awake.f).bind fun t9002 => (if t9002 = true then (if (l0_0.length : Int) > 22 then (guidevanelaw09_DamBasins.j0 k a1 true l0_0 l0_1) else (guidevanelaw09_DamBasins.j0 k a1 (decide ((l0_1.length : Int) > 22)) l0_0 l0_1)) else (some false))) = some r := h
  clear h
  replace H := Option.bind_eq_some_iff.mp H
  obtain ⟨t9002, A30, H⟩ := H
  replace H : (if t9002 = true then (if (l0_0.length : Int) > 22 then (guidevanelaw09_DamBasins.j0 k a1 true l0_0 l0_1) else (guidevanelaw09_DamBasins.j0 k a1 (decide ((l0_1.length : Int) > 22)) l0_0 l0_1)) else (some false)) = some r := H
  have A3 := Aside0.mk A30
  clear A30
  by_cases c4 : t9002 = true
  · subst c4
    have H1 : (if (l0_0.length : Int) > 22 then (guidevanelaw09_DamBasins.j0 k a1 true l0_0 l0_1) else (guidevanelaw09_DamBasins.j0 k a1 (decide ((l0_1.length : Int) > 22)) l0_0 l0_1)) = some r := by rw [if_pos rfl] at H; exact H
    clear H
    have H := H1
    clear H1
    have HC5 := Aside0.mk H
    clear H
    go_enter Try.func3, Try.ntmps3
    go_upto_region 3 with (first | ((with_reducible refine gate_dst (N := 2) rfl ?_); (try (refine gate_guard (by rfl) ?_; dsimp only)); refine box_event ?hg (N := 2) ?hd (cs := #[.slice A0_0 l0_0.length c0_0, .slice A0_1 l0_1.length c0_1]) (t := 24) ?hr ?_; (case hd => rfl); (case hg => rfl); (case hr => first | (go_simp; done) | (go_simp; rfl)); intro gb9001 hg w6 hbox hb; have n0_ := Aside0.mk (below_step (by repeat (first | (with_reducible first | exact HB.out | apply below_alloc | apply pw_below_drewN | apply below_drew1) | exact HB.out)) hb); have n1_ := Aside0.mk (hbox); have n2_ := Aside0.mk ((by rw [hg]; exact (below_size (by repeat (first | (with_reducible first | exact HB.out | apply below_alloc | apply pw_below_drewN | apply below_drew1) | exact HB.out))) : w.heap.size ≤ gb9001)); have n3_ := Aside0.mk ((by rw [hg]; exact (below_size (by repeat (first | (with_reducible first | exact HB.out | apply below_alloc | apply pw_below_drewN | apply below_drew1) | exact HB.out))) : w.heap.size ≤ gb9001)); clear HB; have HB := n0_; have BK9001 := n1_; have GW9001 := n2_; have GE9001 := n3_; clear n0_ n1_ n2_ n3_; clear hb hbox hg) | (go_at_call 10; (with_reducible refine (guidevanelaw09_awake.calls  true _ A3.out).mono ?_); rintro e w7 ⟨rfl, hb⟩; have n0_ := Aside0.mk (blk_below (g := gb9001) (o := .cells #[.slice A0_0 l0_0.length c0_0, .slice A0_1 l0_1.length c0_1] 24 (0, 0)) (by (with_reducible repeat (first | refine blk_drewN ?_ _ | refine blk_drew ?_ | refine blk_alloc ?_ _)); exact BK9001.out) hb); have n1_ := Aside0.mk (below_step (by repeat (first | (with_reducible first | exact HB.out | apply below_alloc | apply pw_below_drewN | apply below_drew1 | refine below_set ?_ GE9001.out) | exact HB.out)) hb); clear BK9001; clear HB; have BK9001 := n0_; have HB := n1_; clear n0_ n1_; (try clear hb); (try clear hb2); (try clear hk); (try clear hi)))
    repeat (go_quiet (first | ((with_reducible refine gate_dst (N := 2) rfl ?_); (try (refine gate_guard (by rfl) ?_; dsimp only)); refine box_event ?hg (N := 2) ?hd (cs := #[.slice A0_0 l0_0.length c0_0, .slice A0_1 l0_1.length c0_1]) (t := 24) ?hr ?_; (case hd => rfl); (case hg => rfl); (case hr => first | (go_simp; done) | (go_simp; rfl)); intro gb9001 hg w6 hbox hb; have n0_ := Aside0.mk (below_step (by repeat (first | (with_reducible first | exact HB.out | apply below_alloc | apply pw_below_drewN | apply below_drew1) | exact HB.out)) hb); have n1_ := Aside0.mk (hbox); have n2_ := Aside0.mk ((by rw [hg]; exact (below_size (by repeat (first | (with_reducible first | exact HB.out | apply below_alloc | apply pw_below_drewN | apply below_drew1) | exact HB.out))) : w.heap.size ≤ gb9001)); have n3_ := Aside0.mk ((by rw [hg]; exact (below_size (by repeat (first | (with_reducible first | exact HB.out | apply below_alloc | apply pw_below_drewN | apply below_drew1) | exact HB.out))) : w.heap.size ≤ gb9001)); clear HB; have HB := n0_; have BK9001 := n1_; have GW9001 := n2_; have GE9001 := n3_; clear n0_ n1_ n2_ n3_; clear hb hbox hg) | (go_at_call 10; (with_reducible refine (guidevanelaw09_awake.calls  true _ A3.out).mono ?_); rintro e w7 ⟨rfl, hb⟩; have n0_ := Aside0.mk (blk_below (g := gb9001) (o := .cells #[.slice A0_0 l0_0.length c0_0, .slice A0_1 l0_1.length c0_1] 24 (0, 0)) (by (with_reducible repeat (first | refine blk_drewN ?_ _ | refine blk_drew ?_ | refine blk_alloc ?_ _)); exact BK9001.out) hb); have n1_ := Aside0.mk (below_step (by repeat (first | (with_reducible first | exact HB.out | apply below_alloc | apply pw_below_drewN | apply below_drew1 | refine below_set ?_ GE9001.out) | exact HB.out)) hb); clear BK9001; clear HB; have BK9001 := n0_; have HB := n1_; clear n0_ n1_; (try clear hb); (try clear hb2); (try clear hk); (try clear hi))); go_upto_region 3 with (first | ((with_reducible refine gate_dst (N := 2) rfl ?_); (try (refine gate_guard (by rfl) ?_; dsimp only)); refine box_event ?hg (N := 2) ?hd (cs := #[.slice A0_0 l0_0.length c0_0, .slice A0_1 l0_1.length c0_1]) (t := 24) ?hr ?_; (case hd => rfl); (case hg => rfl); (case hr => first | (go_simp; done) | (go_simp; rfl)); intro gb9001 hg w6 hbox hb; have n0_ := Aside0.mk (below_step (by repeat (first | (with_reducible first | exact HB.out | apply below_alloc | apply pw_below_drewN | apply below_drew1) | exact HB.out)) hb); have n1_ := Aside0.mk (hbox); have n2_ := Aside0.mk ((by rw [hg]; exact (below_size (by repeat (first | (with_reducible first | exact HB.out | apply below_alloc | apply pw_below_drewN | apply below_drew1) | exact HB.out))) : w.heap.size ≤ gb9001)); have n3_ := Aside0.mk ((by rw [hg]; exact (below_size (by repeat (first | (with_reducible first | exact HB.out | apply below_alloc | apply pw_below_drewN | apply below_drew1) | exact HB.out))) : w.heap.size ≤ gb9001)); clear HB; have HB := n0_; have BK9001 := n1_; have GW9001 := n2_; have GE9001 := n3_; clear n0_ n1_ n2_ n3_; clear hb hbox hg) | (go_at_call 10; (with_reducible refine (guidevanelaw09_awake.calls  true _ A3.out).mono ?_); rintro e w7 ⟨rfl, hb⟩; have n0_ := Aside0.mk (blk_below (g := gb9001) (o := .cells #[.slice A0_0 l0_0.length c0_0, .slice A0_1 l0_1.length c0_1] 24 (0, 0)) (by (with_reducible repeat (first | refine blk_drewN ?_ _ | refine blk_drew ?_ | refine blk_alloc ?_ _)); exact BK9001.out) hb); have n1_ := Aside0.mk (below_step (by repeat (first | (with_reducible first | exact HB.out | apply below_alloc | apply pw_below_drewN | apply below_drew1 | refine below_set ?_ GE9001.out) | exact HB.out)) hb); clear BK9001; clear HB; have BK9001 := n0_; have HB := n1_; clear n0_ n1_; (try clear hb); (try clear hb2); (try clear hk); (try clear hi))))
    (try simp only [Act.put, List.setIfInBounds_toArray, List.set_cons_zero, List.set_cons_succ])
    go_cut [24] (fun v24 wc => ∃ (kq : Nat) (x24_4 : Bool), v24 = .bool x24_4 ∧ Aside0 (guidevanelaw09_DamBasins.j0 kq a1 x24_4 l0_0 l0_1 = some r) ∧ Aside0 (kq ≤ k) ∧ Aside0 (wc.heap[gb9001]? = some (.cells #[(.slice A0_0 l0_0.length c0_0), (.slice A0_1 l0_1.length c0_1)] 24 (0, 0))) ∧ Aside0 (Below w.heap.size w wc))
    case first =>
      have H := HC5.out
      clear HC5
      by_cases c8 : (l0_0.length : Int) > 22
      · rw [if_pos c8] at H
        have c8b0 : decide (22 < (l0_0.length : Int)) = true := decide_eq_true c8
        have c8b1 : decide (22 < l0_0.length) = true := decide_eq_true (by omega)
        clear c8
        (first | rw [c8b0] | (simp only [i64_w, i32_w]; rw [c8b0]) | skip)
        have H' := Aside0.mk H
        clear H
        have hcz9_0 : w7.cell? ⟨gb9001, 0, none⟩ = some (.slice A0_0 l0_0.length c0_0) := (blk_cell BK9001.out 0).trans rfl
        have hcz9_1 : w7.cell? ⟨gb9001, 1, none⟩ = some (.slice A0_1 l0_1.length c0_1) := (blk_cell BK9001.out 1).trans rfl
        have hfz9_0 := blk_frozen BK9001.out 0
        have hfz9_1 := blk_frozen BK9001.out 1
        go_wp2
        repeat (go_quiet (fail); try go_wp2)
        go_meet
        case rel => exact ⟨_, (true), (by first | rfl | (simp; done) | (simp [*]; done)), H', ⟨by first | omega | exact Nat.le_refl _⟩, ⟨by (with_reducible repeat (first | refine blk_drewN ?_ _ | refine blk_drew ?_ | refine blk_alloc ?_ _)); exact BK9001.out⟩, ⟨by repeat (first | (with_reducible first | exact HB.out | apply below_alloc | apply pw_below_drewN | apply below_drew1 | refine below_set ?_ GE9001.out) | exact HB.out)⟩⟩
      · rw [if_neg c8] at H
        have c8b0 : decide (22 < (l0_0.length : Int)) = false := decide_eq_false c8
        have c8b1 : decide (22 < l0_0.length) = false := decide_eq_false (by omega)
        clear c8
        (first | rw [c8b0] | (simp only [i64_w, i32_w]; rw [c8b0]) | skip)
        have H' := Aside0.mk H
        clear H
        have hcz10_0 : w7.cell? ⟨gb9001, 0, none⟩ = some (.slice A0_0 l0_0.length c0_0) := (blk_cell BK9001.out 0).trans rfl
        have hcz10_1 : w7.cell? ⟨gb9001, 1, none⟩ = some (.slice A0_1 l0_1.length c0_1) := (blk_cell BK9001.out 1).trans rfl
        have hfz10_0 := blk_frozen BK9001.out 0
        have hfz10_1 := blk_frozen BK9001.out 1
        go_wp2
        repeat (go_quiet (fail); try go_wp2)
        go_meet
        case rel => exact ⟨_, (decide ((l0_1.length : Int) > 22)), (by first | rfl | (simp; done) | (simp [*]; done)), H', ⟨by first | omega | exact Nat.le_refl _⟩, ⟨by (with_reducible repeat (first | refine blk_drewN ?_ _ | refine blk_drew ?_ | refine blk_alloc ?_ _)); exact BK9001.out⟩, ⟨by repeat (first | (with_reducible first | exact HB.out | apply below_alloc | apply pw_below_drewN | apply below_drew1 | refine below_set ?_ GE9001.out) | exact HB.out)⟩⟩
    case rest =>
      clear HC5
      try clear p2
      try clear c3
      try clear c4
      try clear c8
      try clear c8b0
      try clear c8b1
      try clear hcz10_0
      try clear hcz10_1
      try clear hcz9_0
      try clear hcz9_1
      try clear hfz10_0
      try clear hfz10_1
      try clear hfz9_0
      try clear hfz9_1
      obtain ⟨kq, x24_4, rfl, HA, HJ4, BK9001, HB⟩ := hcut
      cases kq with
      | zero => exact absurd HA.out (by simp [guidevanelaw09_DamBasins.j0])
      | succ kj4 =>
        have H := HA.out
        clear HA
        simp only [guidevanelaw09_DamBasins.j0] at H
        by_cases c11 : x24_4 = true
        · subst c11
          have H1 : (some true) = some r := by rw [if_pos rfl] at H; exact H
          clear H
          have H := H1
          clear H1
          obtain rfl := Option.some.inj H
          go_wp2
          repeat (go_quiet (fail); try go_wp2)
          go_ret
          exact ⟨by first | rfl | (simp [errW_none, errW_some] <;> rfl) | (simp [*, errW_none, errW_some] <;> rfl), by repeat (first | (with_reducible first | exact HB.out | apply below_alloc | apply pw_below_drewN | apply below_drew1 | refine below_set ?_ GE9001.out) | exact HB.out)⟩
        · replace c11 := Bool.eq_false_iff.mpr c11
          subst c11
          have H1 : ((guidevaneref09_CopyBasin.f l0_0 l0_1).bind fun bt9003 => ((dam_CheckBasin.f kj4 bt9003.1 bt9003.2).bind fun bt9009 => ((guidevaneref09_CopyBasin.f l0_0 l0_1).bind fun bt9011 => ((dam_EmptyingOf.f kj4 bt9011.1 bt9011.2 a1).bind fun bt9017 => ((guidevaneref09_CheckBasin.f kj4 l0_0 l0_1).bind fun bt9019 => (if bt9009.2 = bt9019.2 then (guidevanelaw09_DamBasins.j1 kj4 a1 bt9017.1 bt9017.2 bt9019.2 (bt9009.1 != bt9019.1) l0_0 l0_1) else (guidevanelaw09_DamBasins.j1 kj4 a1 bt9017.1 bt9017.2 bt9019.2 true l0_0 l0_1))))))) = some r := by rw [if_neg (show ¬ (false = true) by decide)] at H; exact H
          clear H
          have H := H1
          clear H1
          replace H := Option.bind_eq_some_iff.mp H
          obtain ⟨⟨t9003, t9006⟩, A120, H⟩ := H
          replace H : ((dam_CheckBasin.f kj4 t9003 t9006).bind fun bt9009 => ((guidevaneref09_CopyBasin.f l0_0 l0_1).bind fun bt9011 => ((dam_EmptyingOf.f kj4 bt9011.1 bt9011.2 a1).bind fun bt9017 => ((guidevaneref09_CheckBasin.f kj4 l0_0 l0_1).bind fun bt9019 => (if bt9009.2 = bt9019.2 then (guidevanelaw09_DamBasins.j1 kj4 a1 bt9017.1 bt9017.2 bt9019.2 (bt9009.1 != bt9019.1) l0_0 l0_1) else (guidevanelaw09_DamBasins.j1 kj4 a1 bt9017.1 bt9017.2 bt9019.2 true l0_0 l0_1)))))) = some r := H
          have A12 := Aside0.mk A120
          clear A120
          replace H := Option.bind_eq_some_iff.mp H
          obtain ⟨⟨t9009, t9010⟩, A130, H⟩ := H
          replace H : ((guidevaneref09_CopyBasin.f l0_0 l0_1).bind fun bt9011 => ((dam_EmptyingOf.f kj4 bt9011.1 bt9011.2 a1).bind fun bt9017 => ((guidevaneref09_CheckBasin.f kj4 l0_0 l0_1).bind fun bt9019 => (if t9010 = bt9019.2 then (guidevanelaw09_DamBasins.j1 kj4 a1 bt9017.1 bt9017.2 bt9019.2 (t9009 != bt9019.1) l0_0 l0_1) else (guidevanelaw09_DamBasins.j1 kj4 a1 bt9017.1 bt9017.2 bt9019.2 true l0_0 l0_1))))) = some r := H
          have A13 := Aside0.mk A130
          clear A130
          replace H := Option.bind_eq_some_iff.mp H
          obtain ⟨⟨t9011, t9014⟩, A140, H⟩ := H
          replace H : ((dam_EmptyingOf.f kj4 t9011 t9014 a1).bind fun bt9017 => ((guidevaneref09_CheckBasin.f kj4 l0_0 l0_1).bind fun bt9019 => (if t9010 = bt9019.2 then (guidevanelaw09_DamBasins.j1 kj4 a1 bt9017.1 bt9017.2 bt9019.2 (t9009 != bt9019.1) l0_0 l0_1) else (guidevanelaw09_DamBasins.j1 kj4 a1 bt9017.1 bt9017.2 bt9019.2 true l0_0 l0_1)))) = some r := H
          have A14 := Aside0.mk A140
          clear A140
          replace H := Option.bind_eq_some_iff.mp H
          obtain ⟨⟨t9017, t9018⟩, A150, H⟩ := H
          replace H : ((guidevaneref09_CheckBasin.f kj4 l0_0 l0_1).bind fun bt9019 => (if t9010 = bt9019.2 then (guidevanelaw09_DamBasins.j1 kj4 a1 t9017 t9018 bt9019.2 (t9009 != bt9019.1) l0_0 l0_1) else (guidevanelaw09_DamBasins.j1 kj4 a1 t9017 t9018 bt9019.2 true l0_0 l0_1))) = some r := H
          have A15 := Aside0.mk A150
          clear A150
          replace H := Option.bind_eq_some_iff.mp H
          obtain ⟨⟨t9019, t9020⟩, A160, H⟩ := H
          replace H : (if t9010 = t9020 then (guidevanelaw09_DamBasins.j1 kj4 a1 t9017 t9018 t9020 (t9009 != t9019) l0_0 l0_1) else (guidevanelaw09_DamBasins.j1 kj4 a1 t9017 t9018 t9020 true l0_0 l0_1)) = some r := H
          have A16 := Aside0.mk A160
          clear A160
          have HC17 := Aside0.mk H
          clear H
          have hcz18_0 : wc.cell? ⟨gb9001, 0, none⟩ = some (.slice A0_0 l0_0.length c0_0) := (blk_cell BK9001.out 0).trans rfl
          have hcz18_1 : wc.cell? ⟨gb9001, 1, none⟩ = some (.slice A0_1 l0_1.length c0_1) := (blk_cell BK9001.out 1).trans rfl
          have hfz18_0 := blk_frozen BK9001.out 0
          have hfz18_1 := blk_frozen BK9001.out 1
          go_upto_region 8 with (first | (go_at_call 12; (with_reducible refine (guidevaneref09_CopyBasin.calls _ _ l0_0 _ _ l0_1 t9003 t9006 _ ?side1 ?side2 ?side3 ?side4 A12.out).mono ?_); (case side1 => repeat (first | exact (Kd.C_below HR0_0.out HB.out) | (with_reducible refine Kd.C_alloc ?_ _) | (with_reducible refine Kd.C_drewN ?_ _) | (with_reducible refine Kd.C_drew ?_))); (case side2 => exact HC0_0.out); (case side3 => repeat (first | exact (Kd.C_below HR0_1.out HB.out) | (with_reducible refine Kd.C_alloc ?_ _) | (with_reducible refine Kd.C_drewN ?_ _) | (with_reducible refine Kd.C_drew ?_))); (case side4 => exact HC0_1.out); rintro e w19 ⟨v9004, v9007, rfl, ho0, ho1, hb⟩; have n0_ := Aside0.mk (Kd.R_lower ho0 (below_size (by repeat (first | (with_reducible first | exact HB.out | apply below_alloc | apply pw_below_drewN | apply below_drew1 | refine below_set ?_ GE9001.out) | exact HB.out)))); have n1_ := Aside0.mk (Kd.R_lower ho1 (below_size (by repeat (first | (with_reducible first | exact HB.out | apply below_alloc | apply pw_below_drewN | apply below_drew1 | refine below_set ?_ GE9001.out) | exact HB.out)))); have n2_ := Aside0.mk (blk_below (g := gb9001) (o := .cells #[.slice A0_0 l0_0.length c0_0, .slice A0_1 l0_1.length c0_1] 24 (0, 0)) (by (with_reducible repeat (first | refine blk_drewN ?_ _ | refine blk_drew ?_ | refine blk_alloc ?_ _)); exact BK9001.out) hb); have n3_ := Aside0.mk (below_step (by repeat (first | (with_reducible first | exact HB.out | apply below_alloc | apply pw_below_drewN | apply below_drew1 | refine below_set ?_ GE9001.out) | exact HB.out)) hb); clear BK9001; clear HB; have HO9005 := n0_; have HO9008 := n1_; have BK9001 := n2_; have HB := n3_; clear n0_ n1_ n2_ n3_; (try clear hb); (try clear hb2); (try clear hk); (try clear hi); (try clear ho0); (try clear ho1); obtain ⟨Ao20, co20, eo20⟩ := Kd.R_slice HO9005.out; subst eo20; obtain ⟨Ao21, co21, eo21⟩ := Kd.R_slice HO9008.out; subst eo21; clear A12) | (go_at_call 11; (with_reducible refine (dam_CheckBasin.calls kj4 _ _ t9003 _ _ t9006 t9009 t9010 _ ?side1 ?side2 ?side3 ?side4 A13.out).mono ?_); (case side1 => repeat (first | exact (Kd.R_reads' HO9005.out).2.2 | (with_reducible refine Kd.C_alloc ?_ _) | (with_reducible refine Kd.C_drewN ?_ _) | (with_reducible refine Kd.C_drew ?_))); (case side2 => exact (Kd.R_reads' HO9005.out).2.1); (case side3 => repeat (first | exact (Kd.R_reads' HO9008.out).2.2 | (with_reducible refine Kd.C_alloc ?_ _) | (with_reducible refine Kd.C_drewN ?_ _) | (with_reducible refine Kd.C_drew ?_))); (case side4 => exact (Kd.R_reads' HO9008.out).2.1); rintro e w22 ⟨rfl, hb⟩; have n0_ := Aside0.mk (Kd.R_below (by (with_reducible repeat (first | apply Kd.R_alloc | apply Kd.R_drewN | apply Kd.R_drew)); exact HO9005.out) hb); have n1_ := Aside0.mk (Kd.R_below (by (with_reducible repeat (first | apply Kd.R_alloc | apply Kd.R_drewN | apply Kd.R_drew)); exact HO9008.out) hb); have n2_ := Aside0.mk (blk_below (g := gb9001) (o := .cells #[.slice A0_0 l0_0.length c0_0, .slice A0_1 l0_1.length c0_1] 24 (0, 0)) (by (with_reducible repeat (first | refine blk_drewN ?_ _ | refine blk_drew ?_ | refine blk_alloc ?_ _)); exact BK9001.out) hb); have n3_ := Aside0.mk (below_step (by repeat (first | (with_reducible first | exact HB.out | apply below_alloc | apply pw_below_drewN | apply below_drew1 | refine below_set ?_ GE9001.out) | exact HB.out)) hb); clear HO9005; clear HO9008; clear BK9001; clear HB; have HO9005 := n0_; have HO9008 := n1_; have BK9001 := n2_; have HB := n3_; clear n0_ n1_ n2_ n3_; (try clear hb); (try clear hb2); (try clear hk); (try clear hi); have hcz23_0 : w22.cell? ⟨gb9001, 0, none⟩ = some (.slice A0_0 l0_0.length c0_0) := (blk_cell BK9001.out 0).trans rfl; have hcz23_1 : w22.cell? ⟨gb9001, 1, none⟩ = some (.slice A0_1 l0_1.length c0_1) := (blk_cell BK9001.out 1).trans rfl; have hfz23_0 := blk_frozen BK9001.out 0; have hfz23_1 := blk_frozen BK9001.out 1) | (go_at_call 12; (with_reducible refine (guidevaneref09_CopyBasin.calls _ _ l0_0 _ _ l0_1 t9011 t9014 _ ?side1 ?side2 ?side3 ?side4 A14.out).mono ?_); (case side1 => repeat (first | exact (Kd.C_below HR0_0.out HB.out) | (with_reducible refine Kd.C_alloc ?_ _) | (with_reducible refine Kd.C_drewN ?_ _) | (with_reducible refine Kd.C_drew ?_))); (case side2 => exact HC0_0.out); (case side3 => repeat (first | exact (Kd.C_below HR0_1.out HB.out) | (with_reducible refine Kd.C_alloc ?_ _) | (with_reducible refine Kd.C_drewN ?_ _) | (with_reducible refine Kd.C_drew ?_))); (case side4 => exact HC0_1.out); rintro e w24 ⟨v9012, v9015, rfl, ho0, ho1, hb⟩; have n0_ := Aside0.mk (Kd.R_mono (Kd.R_told (Kd.R_told (Kd.R_old (by (with_reducible repeat (first | apply Kd.R_alloc | apply Kd.R_drewN | apply Kd.R_drew)); exact HO9005.out) hb) (Kd.R_base ho0)) (Kd.R_base ho1)) (fun _ h_ => h_.1)); have n1_ := Aside0.mk (Kd.R_mono (Kd.R_told (Kd.R_told (Kd.R_old (by (with_reducible repeat (first | apply Kd.R_alloc | apply Kd.R_drewN | apply Kd.R_drew)); exact HO9008.out) hb) (Kd.R_base ho0)) (Kd.R_base ho1)) (fun _ h_ => h_.1)); have n2_ := Aside0.mk (Kd.R_lower (Kd.R_new' (Kd.R_new' ho0 (Kd.R_lt (by (with_reducible repeat (first | apply Kd.R_alloc | apply Kd.R_drewN | apply Kd.R_drew)); exact HO9005.out))) (Kd.R_lt (by (with_reducible repeat (first | apply Kd.R_alloc | apply Kd.R_drewN | apply Kd.R_drew)); exact HO9008.out))) (below_size (by repeat (first | (with_reducible first | exact HB.out | apply below_alloc | apply pw_below_drewN | apply below_drew1 | refine below_set ?_ GE9001.out) | exact HB.out)))); have n3_ := Aside0.mk (Kd.R_lower (Kd.R_new' (Kd.R_new' ho1 (Kd.R_lt (by (with_reducible repeat (first | apply Kd.R_alloc | apply Kd.R_drewN | apply Kd.R_drew)); exact HO9005.out))) (Kd.R_lt (by (with_reducible repeat (first | apply Kd.R_alloc | apply Kd.R_drewN | apply Kd.R_drew)); exact HO9008.out))) (below_size (by repeat (first | (with_reducible first | exact HB.out | apply below_alloc | apply pw_below_drewN | apply below_drew1 | refine below_set ?_ GE9001.out) | exact HB.out)))); have n4_ := Aside0.mk (blk_below (g := gb9001) (o := .cells #[.slice A0_0 l0_0.length c0_0, .slice A0_1 l0_1.length c0_1] 24 (0, 0)) (by (with_reducible repeat (first | refine blk_drewN ?_ _ | refine blk_drew ?_ | refine blk_alloc ?_ _)); exact BK9001.out) hb); have n5_ := Aside0.mk (below_step (by repeat (first | (with_reducible first | exact HB.out | apply below_alloc | apply pw_below_drewN | apply below_drew1 | refine below_set ?_ GE9001.out) | exact HB.out)) hb); clear HO9005; clear HO9008; clear BK9001; clear HB; have HO9005 := n0_; have HO9008 := n1_; have HO9013 := n2_; have HO9016 := n3_; have BK9001 := n4_; have HB := n5_; clear n0_ n1_ n2_ n3_ n4_ n5_; (try clear hb); (try clear hb2); (try clear hk); (try clear hi); (try clear ho0); (try clear ho1); obtain ⟨Ao25, co25, eo25⟩ := Kd.R_slice HO9013.out; subst eo25; obtain ⟨Ao26, co26, eo26⟩ := Kd.R_slice HO9016.out; subst eo26; clear A14) | (go_at_call 13; (with_reducible refine (dam_EmptyingOf.calls kj4 _ _ t9011 _ _ t9014 a1 t9017 t9018 _ ?side1 ?side2 ?side3 ?side4 A15.out).mono ?_); (case side1 => repeat (first | exact (Kd.R_reads' HO9013.out).2.2 | (with_reducible refine Kd.C_alloc ?_ _) | (with_reducible refine Kd.C_drewN ?_ _) | (with_reducible refine Kd.C_drew ?_))); (case side2 => exact (Kd.R_reads' HO9013.out).2.1); (case side3 => repeat (first | exact (Kd.R_reads' HO9016.out).2.2 | (with_reducible refine Kd.C_alloc ?_ _) | (with_reducible refine Kd.C_drewN ?_ _) | (with_reducible refine Kd.C_drew ?_))); (case side4 => exact (Kd.R_reads' HO9016.out).2.1); rintro e w27 ⟨rfl, hb⟩; have n0_ := Aside0.mk (Kd.R_below (by (with_reducible repeat (first | apply Kd.R_alloc | apply Kd.R_drewN | apply Kd.R_drew)); exact HO9005.out) hb); have n1_ := Aside0.mk (Kd.R_below (by (with_reducible repeat (first | apply Kd.R_alloc | apply Kd.R_drewN | apply Kd.R_drew)); exact HO9008.out) hb); have n2_ := Aside0.mk (Kd.R_below (by (with_reducible repeat (first | apply Kd.R_alloc | apply Kd.R_drewN | apply Kd.R_drew)); exact HO9013.out) hb); have n3_ := Aside0.mk (Kd.R_below (by (with_reducible repeat (first | apply Kd.R_alloc | apply Kd.R_drewN | apply Kd.R_drew)); exact HO9016.out) hb); have n4_ := Aside0.mk (blk_below (g := gb9001) (o := .cells #[.slice A0_0 l0_0.length c0_0, .slice A0_1 l0_1.length c0_1] 24 (0, 0)) (by (with_reducible repeat (first | refine blk_drewN ?_ _ | refine blk_drew ?_ | refine blk_alloc ?_ _)); exact BK9001.out) hb); have n5_ := Aside0.mk (below_step (by repeat (first | (with_reducible first | exact HB.out | apply below_alloc | apply pw_below_drewN | apply below_drew1 | refine below_set ?_ GE9001.out) | exact HB.out)) hb); clear HO9005; clear HO9008; clear HO9013; clear HO9016; clear BK9001; clear HB; have HO9005 := n0_; have HO9008 := n1_; have HO9013 := n2_; have HO9016 := n3_; have BK9001 := n4_; have HB := n5_; clear n0_ n1_ n2_ n3_ n4_ n5_; (try clear hb); (try clear hb2); (try clear hk); (try clear hi); have hcz28_0 : w27.cell? ⟨gb9001, 0, none⟩ = some (.slice A0_0 l0_0.length c0_0) := (blk_cell BK9001.out 0).trans rfl; have hcz28_1 : w27.cell? ⟨gb9001, 1, none⟩ = some (.slice A0_1 l0_1.length c0_1) := (blk_cell BK9001.out 1).trans rfl; have hfz28_0 := blk_frozen BK9001.out 0; have hfz28_1 := blk_frozen BK9001.out 1) | (go_at_call 14; (with_reducible refine (guidevaneref09_CheckBasin.calls kj4 _ _ l0_0 _ _ l0_1 t9019 t9020 _ ?side1 ?side2 ?side3 ?side4 A16.out).mono ?_); (case side1 => repeat (first | exact (Kd.C_below HR0_0.out HB.out) | (with_reducible refine Kd.C_alloc ?_ _) | (with_reducible refine Kd.C_drewN ?_ _) | (with_reducible refine Kd.C_drew ?_))); (case side2 => exact HC0_0.out); (case side3 => repeat (first | exact (Kd.C_below HR0_1.out HB.out) | (with_reducible refine Kd.C_alloc ?_ _) | (with_reducible refine Kd.C_drewN ?_ _) | (with_reducible refine Kd.C_drew ?_))); (case side4 => exact HC0_1.out); rintro e w29 ⟨rfl, hb⟩; have n0_ := Aside0.mk (Kd.R_below (by (with_reducible repeat (first | apply Kd.R_alloc | apply Kd.R_drewN | apply Kd.R_drew)); exact HO9005.out) hb); have n1_ := Aside0.mk (Kd.R_below (by (with_reducible repeat (first | apply Kd.R_alloc | apply Kd.R_drewN | apply Kd.R_drew)); exact HO9008.out) hb); have n2_ := Aside0.mk (Kd.R_below (by (with_reducible repeat (first | apply Kd.R_alloc | apply Kd.R_drewN | apply Kd.R_drew)); exact HO9013.out) hb); have n3_ := Aside0.mk (Kd.R_below (by (with_reducible repeat (first | apply Kd.R_alloc | apply Kd.R_drewN | apply Kd.R_drew)); exact HO9016.out) hb); have n4_ := Aside0.mk (blk_below (g := gb9001) (o := .cells #[.slice A0_0 l0_0.length c0_0, .slice A0_1 l0_1.length c0_1] 24 (0, 0)) (by (with_reducible repeat (first | refine blk_drewN ?_ _ | refine blk_drew ?_ | refine blk_alloc ?_ _)); exact BK9001.out) hb); have n5_ := Aside0.mk (below_step (by repeat (first | (with_reducible first | exact HB.out | apply below_alloc | apply pw_below_drewN | apply below_drew1 | refine below_set ?_ GE9001.out) | exact HB.out)) hb); clear HO9005; clear HO9008; clear HO9013; clear HO9016; clear BK9001; clear HB; have HO9005 := n0_; have HO9008 := n1_; have HO9013 := n2_; have HO9016 := n3_; have BK9001 := n4_; have HB := n5_; clear n0_ n1_ n2_ n3_ n4_ n5_; (try clear hb); (try clear hb2); (try clear hk); (try clear hi)))
          repeat (go_quiet (first | (go_at_call 12; (with_reducible refine (guidevaneref09_CopyBasin.calls _ _ l0_0 _ _ l0_1 t9003 t9006 _ ?side1 ?side2 ?side3 ?side4 A12.out).mono ?_); (case side1 => repeat (first | exact (Kd.C_below HR0_0.out HB.out) | (with_reducible refine Kd.C_alloc ?_ _) | (with_reducible refine Kd.C_drewN ?_ _) | (with_reducible refine Kd.C_drew ?_))); (case side2 => exact HC0_0.out); (case side3 => repeat (first | exact (Kd.C_below HR0_1.out HB.out) | (with_reducible refine Kd.C_alloc ?_ _) | (with_reducible refine Kd.C_drewN ?_ _) | (with_reducible refine Kd.C_drew ?_))); (case side4 => exact HC0_1.out); rintro e w19 ⟨v9004, v9007, rfl, ho0, ho1, hb⟩; have n0_ := Aside0.mk (Kd.R_lower ho0 (below_size (by repeat (first | (with_reducible first | exact HB.out | apply below_alloc | apply pw_below_drewN | apply below_drew1 | refine below_set ?_ GE9001.out) | exact HB.out)))); have n1_ := Aside0.mk (Kd.R_lower ho1 (below_size (by repeat (first | (with_reducible first | exact HB.out | apply below_alloc | apply pw_below_drewN | apply below_drew1 | refine below_set ?_ GE9001.out) | exact HB.out)))); have n2_ := Aside0.mk (blk_below (g := gb9001) (o := .cells #[.slice A0_0 l0_0.length c0_0, .slice A0_1 l0_1.length c0_1] 24 (0, 0)) (by (with_reducible repeat (first | refine blk_drewN ?_ _ | refine blk_drew ?_ | refine blk_alloc ?_ _)); exact BK9001.out) hb); have n3_ := Aside0.mk (below_step (by repeat (first | (with_reducible first | exact HB.out | apply below_alloc | apply pw_below_drewN | apply below_drew1 | refine below_set ?_ GE9001.out) | exact HB.out)) hb); clear BK9001; clear HB; have HO9005 := n0_; have HO9008 := n1_; have BK9001 := n2_; have HB := n3_; clear n0_ n1_ n2_ n3_; (try clear hb); (try clear hb2); (try clear hk); (try clear hi); (try clear ho0); (try clear ho1); obtain ⟨Ao20, co20, eo20⟩ := Kd.R_slice HO9005.out; subst eo20; obtain ⟨Ao21, co21, eo21⟩ := Kd.R_slice HO9008.out; subst eo21) | (go_at_call 11; (with_reducible refine (dam_CheckBasin.calls kj4 _ _ t9003 _ _ t9006 t9009 t9010 _ ?side1 ?side2 ?side3 ?side4 A13.out).mono ?_); (case side1 => repeat (first | exact (Kd.R_reads' HO9005.out).2.2 | (with_reducible refine Kd.C_alloc ?_ _) | (with_reducible refine Kd.C_drewN ?_ _) | (with_reducible refine Kd.C_drew ?_))); (case side2 => exact (Kd.R_reads' HO9005.out).2.1); (case side3 => repeat (first | exact (Kd.R_reads' HO9008.out).2.2 | (with_reducible refine Kd.C_alloc ?_ _) | (with_reducible refine Kd.C_drewN ?_ _) | (with_reducible refine Kd.C_drew ?_))); (case side4 => exact (Kd.R_reads' HO9008.out).2.1); rintro e w22 ⟨rfl, hb⟩; have n0_ := Aside0.mk (Kd.R_below (by (with_reducible repeat (first | apply Kd.R_alloc | apply Kd.R_drewN | apply Kd.R_drew)); exact HO9005.out) hb); have n1_ := Aside0.mk (Kd.R_below (by (with_reducible repeat (first | apply Kd.R_alloc | apply Kd.R_drewN | apply Kd.R_drew)); exact HO9008.out) hb); have n2_ := Aside0.mk (blk_below (g := gb9001) (o := .cells #[.slice A0_0 l0_0.length c0_0, .slice A0_1 l0_1.length c0_1] 24 (0, 0)) (by (with_reducible repeat (first | refine blk_drewN ?_ _ | refine blk_drew ?_ | refine blk_alloc ?_ _)); exact BK9001.out) hb); have n3_ := Aside0.mk (below_step (by repeat (first | (with_reducible first | exact HB.out | apply below_alloc | apply pw_below_drewN | apply below_drew1 | refine below_set ?_ GE9001.out) | exact HB.out)) hb); clear HO9005; clear HO9008; clear BK9001; clear HB; have HO9005 := n0_; have HO9008 := n1_; have BK9001 := n2_; have HB := n3_; clear n0_ n1_ n2_ n3_; (try clear hb); (try clear hb2); (try clear hk); (try clear hi); have hcz23_0 : w22.cell? ⟨gb9001, 0, none⟩ = some (.slice A0_0 l0_0.length c0_0) := (blk_cell BK9001.out 0).trans rfl; have hcz23_1 : w22.cell? ⟨gb9001, 1, none⟩ = some (.slice A0_1 l0_1.length c0_1) := (blk_cell BK9001.out 1).trans rfl; have hfz23_0 := blk_frozen BK9001.out 0; have hfz23_1 := blk_frozen BK9001.out 1) | (go_at_call 12; (with_reducible refine (guidevaneref09_CopyBasin.calls _ _ l0_0 _ _ l0_1 t9011 t9014 _ ?side1 ?side2 ?side3 ?side4 A14.out).mono ?_); (case side1 => repeat (first | exact (Kd.C_below HR0_0.out HB.out) | (with_reducible refine Kd.C_alloc ?_ _) | (with_reducible refine Kd.C_drewN ?_ _) | (with_reducible refine Kd.C_drew ?_))); (case side2 => exact HC0_0.out); (case side3 => repeat (first | exact (Kd.C_below HR0_1.out HB.out) | (with_reducible refine Kd.C_alloc ?_ _) | (with_reducible refine Kd.C_drewN ?_ _) | (with_reducible refine Kd.C_drew ?_))); (case side4 => exact HC0_1.out); rintro e w24 ⟨v9012, v9015, rfl, ho0, ho1, hb⟩; have n0_ := Aside0.mk (Kd.R_mono (Kd.R_told (Kd.R_told (Kd.R_old (by (with_reducible repeat (first | apply Kd.R_alloc | apply Kd.R_drewN | apply Kd.R_drew)); exact HO9005.out) hb) (Kd.R_base ho0)) (Kd.R_base ho1)) (fun _ h_ => h_.1)); have n1_ := Aside0.mk (Kd.R_mono (Kd.R_told (Kd.R_told (Kd.R_old (by (with_reducible repeat (first | apply Kd.R_alloc | apply Kd.R_drewN | apply Kd.R_drew)); exact HO9008.out) hb) (Kd.R_base ho0)) (Kd.R_base ho1)) (fun _ h_ => h_.1)); have n2_ := Aside0.mk (Kd.R_lower (Kd.R_new' (Kd.R_new' ho0 (Kd.R_lt (by (with_reducible repeat (first | apply Kd.R_alloc | apply Kd.R_drewN | apply Kd.R_drew)); exact HO9005.out))) (Kd.R_lt (by (with_reducible repeat (first | apply Kd.R_alloc | apply Kd.R_drewN | apply Kd.R_drew)); exact HO9008.out))) (below_size (by repeat (first | (with_reducible first | exact HB.out | apply below_alloc | apply pw_below_drewN | apply below_drew1 | refine below_set ?_ GE9001.out) | exact HB.out)))); have n3_ := Aside0.mk (Kd.R_lower (Kd.R_new' (Kd.R_new' ho1 (Kd.R_lt (by (with_reducible repeat (first | apply Kd.R_alloc | apply Kd.R_drewN | apply Kd.R_drew)); exact HO9005.out))) (Kd.R_lt (by (with_reducible repeat (first | apply Kd.R_alloc | apply Kd.R_drewN | apply Kd.R_drew)); exact HO9008.out))) (below_size (by repeat (first | (with_reducible first | exact HB.out | apply below_alloc | apply pw_below_drewN | apply below_drew1 | refine below_set ?_ GE9001.out) | exact HB.out)))); have n4_ := Aside0.mk (blk_below (g := gb9001) (o := .cells #[.slice A0_0 l0_0.length c0_0, .slice A0_1 l0_1.length c0_1] 24 (0, 0)) (by (with_reducible repeat (first | refine blk_drewN ?_ _ | refine blk_drew ?_ | refine blk_alloc ?_ _)); exact BK9001.out) hb); have n5_ := Aside0.mk (below_step (by repeat (first | (with_reducible first | exact HB.out | apply below_alloc | apply pw_below_drewN | apply below_drew1 | refine below_set ?_ GE9001.out) | exact HB.out)) hb); clear HO9005; clear HO9008; clear BK9001; clear HB; have HO9005 := n0_; have HO9008 := n1_; have HO9013 := n2_; have HO9016 := n3_; have BK9001 := n4_; have HB := n5_; clear n0_ n1_ n2_ n3_ n4_ n5_; (try clear hb); (try clear hb2); (try clear hk); (try clear hi); (try clear ho0); (try clear ho1); obtain ⟨Ao25, co25, eo25⟩ := Kd.R_slice HO9013.out; subst eo25; obtain ⟨Ao26, co26, eo26⟩ := Kd.R_slice HO9016.out; subst eo26) | (go_at_call 13; (with_reducible refine (dam_EmptyingOf.calls kj4 _ _ t9011 _ _ t9014 a1 t9017 t9018 _ ?side1 ?side2 ?side3 ?side4 A15.out).mono ?_); (case side1 => repeat (first | exact (Kd.R_reads' HO9013.out).2.2 | (with_reducible refine Kd.C_alloc ?_ _) | (with_reducible refine Kd.C_drewN ?_ _) | (with_reducible refine Kd.C_drew ?_))); (case side2 => exact (Kd.R_reads' HO9013.out).2.1); (case side3 => repeat (first | exact (Kd.R_reads' HO9016.out).2.2 | (with_reducible refine Kd.C_alloc ?_ _) | (with_reducible refine Kd.C_drewN ?_ _) | (with_reducible refine Kd.C_drew ?_))); (case side4 => exact (Kd.R_reads' HO9016.out).2.1); rintro e w27 ⟨rfl, hb⟩; have n0_ := Aside0.mk (Kd.R_below (by (with_reducible repeat (first | apply Kd.R_alloc | apply Kd.R_drewN | apply Kd.R_drew)); exact HO9005.out) hb); have n1_ := Aside0.mk (Kd.R_below (by (with_reducible repeat (first | apply Kd.R_alloc | apply Kd.R_drewN | apply Kd.R_drew)); exact HO9008.out) hb); have n2_ := Aside0.mk (Kd.R_below (by (with_reducible repeat (first | apply Kd.R_alloc | apply Kd.R_drewN | apply Kd.R_drew)); exact HO9013.out) hb); have n3_ := Aside0.mk (Kd.R_below (by (with_reducible repeat (first | apply Kd.R_alloc | apply Kd.R_drewN | apply Kd.R_drew)); exact HO9016.out) hb); have n4_ := Aside0.mk (blk_below (g := gb9001) (o := .cells #[.slice A0_0 l0_0.length c0_0, .slice A0_1 l0_1.length c0_1] 24 (0, 0)) (by (with_reducible repeat (first | refine blk_drewN ?_ _ | refine blk_drew ?_ | refine blk_alloc ?_ _)); exact BK9001.out) hb); have n5_ := Aside0.mk (below_step (by repeat (first | (with_reducible first | exact HB.out | apply below_alloc | apply pw_below_drewN | apply below_drew1 | refine below_set ?_ GE9001.out) | exact HB.out)) hb); clear HO9005; clear HO9008; clear HO9013; clear HO9016; clear BK9001; clear HB; have HO9005 := n0_; have HO9008 := n1_; have HO9013 := n2_; have HO9016 := n3_; have BK9001 := n4_; have HB := n5_; clear n0_ n1_ n2_ n3_ n4_ n5_; (try clear hb); (try clear hb2); (try clear hk); (try clear hi); have hcz28_0 : w27.cell? ⟨gb9001, 0, none⟩ = some (.slice A0_0 l0_0.length c0_0) := (blk_cell BK9001.out 0).trans rfl; have hcz28_1 : w27.cell? ⟨gb9001, 1, none⟩ = some (.slice A0_1 l0_1.length c0_1) := (blk_cell BK9001.out 1).trans rfl; have hfz28_0 := blk_frozen BK9001.out 0; have hfz28_1 := blk_frozen BK9001.out 1) | (go_at_call 14; (with_reducible refine (guidevaneref09_CheckBasin.calls kj4 _ _ l0_0 _ _ l0_1 t9019 t9020 _ ?side1 ?side2 ?side3 ?side4 A16.out).mono ?_); (case side1 => repeat (first | exact (Kd.C_below HR0_0.out HB.out) | (with_reducible refine Kd.C_alloc ?_ _) | (with_reducible refine Kd.C_drewN ?_ _) | (with_reducible refine Kd.C_drew ?_))); (case side2 => exact HC0_0.out); (case side3 => repeat (first | exact (Kd.C_below HR0_1.out HB.out) | (with_reducible refine Kd.C_alloc ?_ _) | (with_reducible refine Kd.C_drewN ?_ _) | (with_reducible refine Kd.C_drew ?_))); (case side4 => exact HC0_1.out); rintro e w29 ⟨rfl, hb⟩; have n0_ := Aside0.mk (Kd.R_below (by (with_reducible repeat (first | apply Kd.R_alloc | apply Kd.R_drewN | apply Kd.R_drew)); exact HO9005.out) hb); have n1_ := Aside0.mk (Kd.R_below (by (with_reducible repeat (first | apply Kd.R_alloc | apply Kd.R_drewN | apply Kd.R_drew)); exact HO9008.out) hb); have n2_ := Aside0.mk (Kd.R_below (by (with_reducible repeat (first | apply Kd.R_alloc | apply Kd.R_drewN | apply Kd.R_drew)); exact HO9013.out) hb); have n3_ := Aside0.mk (Kd.R_below (by (with_reducible repeat (first | apply Kd.R_alloc | apply Kd.R_drewN | apply Kd.R_drew)); exact HO9016.out) hb); have n4_ := Aside0.mk (blk_below (g := gb9001) (o := .cells #[.slice A0_0 l0_0.length c0_0, .slice A0_1 l0_1.length c0_1] 24 (0, 0)) (by (with_reducible repeat (first | refine blk_drewN ?_ _ | refine blk_drew ?_ | refine blk_alloc ?_ _)); exact BK9001.out) hb); have n5_ := Aside0.mk (below_step (by repeat (first | (with_reducible first | exact HB.out | apply below_alloc | apply pw_below_drewN | apply below_drew1 | refine below_set ?_ GE9001.out) | exact HB.out)) hb); clear HO9005; clear HO9008; clear HO9013; clear HO9016; clear BK9001; clear HB; have HO9005 := n0_; have HO9008 := n1_; have HO9013 := n2_; have HO9016 := n3_; have BK9001 := n4_; have HB := n5_; clear n0_ n1_ n2_ n3_ n4_ n5_; (try clear hb); (try clear hb2); (try clear hk); (try clear hi))); go_upto_region 8 with (first | (go_at_call 12; (with_reducible refine (guidevaneref09_CopyBasin.calls _ _ l0_0 _ _ l0_1 t9003 t9006 _ ?side1 ?side2 ?side3 ?side4 A12.out).mono ?_); (case side1 => repeat (first | exact (Kd.C_below HR0_0.out HB.out) | (with_reducible refine Kd.C_alloc ?_ _) | (with_reducible refine Kd.C_drewN ?_ _) | (with_reducible refine Kd.C_drew ?_))); (case side2 => exact HC0_0.out); (case side3 => repeat (first | exact (Kd.C_below HR0_1.out HB.out) | (with_reducible refine Kd.C_alloc ?_ _) | (with_reducible refine Kd.C_drewN ?_ _) | (with_reducible refine Kd.C_drew ?_))); (case side4 => exact HC0_1.out); rintro e w19 ⟨v9004, v9007, rfl, ho0, ho1, hb⟩; have n0_ := Aside0.mk (Kd.R_lower ho0 (below_size (by repeat (first | (with_reducible first | exact HB.out | apply below_alloc | apply pw_below_drewN | apply below_drew1 | refine below_set ?_ GE9001.out) | exact HB.out)))); have n1_ := Aside0.mk (Kd.R_lower ho1 (below_size (by repeat (first | (with_reducible first | exact HB.out | apply below_alloc | apply pw_below_drewN | apply below_drew1 | refine below_set ?_ GE9001.out) | exact HB.out)))); have n2_ := Aside0.mk (blk_below (g := gb9001) (o := .cells #[.slice A0_0 l0_0.length c0_0, .slice A0_1 l0_1.length c0_1] 24 (0, 0)) (by (with_reducible repeat (first | refine blk_drewN ?_ _ | refine blk_drew ?_ | refine blk_alloc ?_ _)); exact BK9001.out) hb); have n3_ := Aside0.mk (below_step (by repeat (first | (with_reducible first | exact HB.out | apply below_alloc | apply pw_below_drewN | apply below_drew1 | refine below_set ?_ GE9001.out) | exact HB.out)) hb); clear BK9001; clear HB; have HO9005 := n0_; have HO9008 := n1_; have BK9001 := n2_; have HB := n3_; clear n0_ n1_ n2_ n3_; (try clear hb); (try clear hb2); (try clear hk); (try clear hi); (try clear ho0); (try clear ho1); obtain ⟨Ao20, co20, eo20⟩ := Kd.R_slice HO9005.out; subst eo20; obtain ⟨Ao21, co21, eo21⟩ := Kd.R_slice HO9008.out; subst eo21) | (go_at_call 11; (with_reducible refine (dam_CheckBasin.calls kj4 _ _ t9003 _ _ t9006 t9009 t9010 _ ?side1 ?side2 ?side3 ?side4 A13.out).mono ?_); (case side1 => repeat (first | exact (Kd.R_reads' HO9005.out).2.2 | (with_reducible refine Kd.C_alloc ?_ _) | (with_reducible refine Kd.C_drewN ?_ _) | (with_reducible refine Kd.C_drew ?_))); (case side2 => exact (Kd.R_reads' HO9005.out).2.1); (case side3 => repeat (first | exact (Kd.R_reads' HO9008.out).2.2 | (with_reducible refine Kd.C_alloc ?_ _) | (with_reducible refine Kd.C_drewN ?_ _) | (with_reducible refine Kd.C_drew ?_))); (case side4 => exact (Kd.R_reads' HO9008.out).2.1); rintro e w22 ⟨rfl, hb⟩; have n0_ := Aside0.mk (Kd.R_below (by (with_reducible repeat (first | apply Kd.R_alloc | apply Kd.R_drewN | apply Kd.R_drew)); exact HO9005.out) hb); have n1_ := Aside0.mk (Kd.R_below (by (with_reducible repeat (first | apply Kd.R_alloc | apply Kd.R_drewN | apply Kd.R_drew)); exact HO9008.out) hb); have n2_ := Aside0.mk (blk_below (g := gb9001) (o := .cells #[.slice A0_0 l0_0.length c0_0, .slice A0_1 l0_1.length c0_1] 24 (0, 0)) (by (with_reducible repeat (first | refine blk_drewN ?_ _ | refine blk_drew ?_ | refine blk_alloc ?_ _)); exact BK9001.out) hb); have n3_ := Aside0.mk (below_step (by repeat (first | (with_reducible first | exact HB.out | apply below_alloc | apply pw_below_drewN | apply below_drew1 | refine below_set ?_ GE9001.out) | exact HB.out)) hb); clear HO9005; clear HO9008; clear BK9001; clear HB; have HO9005 := n0_; have HO9008 := n1_; have BK9001 := n2_; have HB := n3_; clear n0_ n1_ n2_ n3_; (try clear hb); (try clear hb2); (try clear hk); (try clear hi); have hcz23_0 : w22.cell? ⟨gb9001, 0, none⟩ = some (.slice A0_0 l0_0.length c0_0) := (blk_cell BK9001.out 0).trans rfl; have hcz23_1 : w22.cell? ⟨gb9001, 1, none⟩ = some (.slice A0_1 l0_1.length c0_1) := (blk_cell BK9001.out 1).trans rfl; have hfz23_0 := blk_frozen BK9001.out 0; have hfz23_1 := blk_frozen BK9001.out 1) | (go_at_call 12; (with_reducible refine (guidevaneref09_CopyBasin.calls _ _ l0_0 _ _ l0_1 t9011 t9014 _ ?side1 ?side2 ?side3 ?side4 A14.out).mono ?_); (case side1 => repeat (first | exact (Kd.C_below HR0_0.out HB.out) | (with_reducible refine Kd.C_alloc ?_ _) | (with_reducible refine Kd.C_drewN ?_ _) | (with_reducible refine Kd.C_drew ?_))); (case side2 => exact HC0_0.out); (case side3 => repeat (first | exact (Kd.C_below HR0_1.out HB.out) | (with_reducible refine Kd.C_alloc ?_ _) | (with_reducible refine Kd.C_drewN ?_ _) | (with_reducible refine Kd.C_drew ?_))); (case side4 => exact HC0_1.out); rintro e w24 ⟨v9012, v9015, rfl, ho0, ho1, hb⟩; have n0_ := Aside0.mk (Kd.R_mono (Kd.R_told (Kd.R_told (Kd.R_old (by (with_reducible repeat (first | apply Kd.R_alloc | apply Kd.R_drewN | apply Kd.R_drew)); exact HO9005.out) hb) (Kd.R_base ho0)) (Kd.R_base ho1)) (fun _ h_ => h_.1)); have n1_ := Aside0.mk (Kd.R_mono (Kd.R_told (Kd.R_told (Kd.R_old (by (with_reducible repeat (first | apply Kd.R_alloc | apply Kd.R_drewN | apply Kd.R_drew)); exact HO9008.out) hb) (Kd.R_base ho0)) (Kd.R_base ho1)) (fun _ h_ => h_.1)); have n2_ := Aside0.mk (Kd.R_lower (Kd.R_new' (Kd.R_new' ho0 (Kd.R_lt (by (with_reducible repeat (first | apply Kd.R_alloc | apply Kd.R_drewN | apply Kd.R_drew)); exact HO9005.out))) (Kd.R_lt (by (with_reducible repeat (first | apply Kd.R_alloc | apply Kd.R_drewN | apply Kd.R_drew)); exact HO9008.out))) (below_size (by repeat (first | (with_reducible first | exact HB.out | apply below_alloc | apply pw_below_drewN | apply below_drew1 | refine below_set ?_ GE9001.out) | exact HB.out)))); have n3_ := Aside0.mk (Kd.R_lower (Kd.R_new' (Kd.R_new' ho1 (Kd.R_lt (by (with_reducible repeat (first | apply Kd.R_alloc | apply Kd.R_drewN | apply Kd.R_drew)); exact HO9005.out))) (Kd.R_lt (by (with_reducible repeat (first | apply Kd.R_alloc | apply Kd.R_drewN | apply Kd.R_drew)); exact HO9008.out))) (below_size (by repeat (first | (with_reducible first | exact HB.out | apply below_alloc | apply pw_below_drewN | apply below_drew1 | refine below_set ?_ GE9001.out) | exact HB.out)))); have n4_ := Aside0.mk (blk_below (g := gb9001) (o := .cells #[.slice A0_0 l0_0.length c0_0, .slice A0_1 l0_1.length c0_1] 24 (0, 0)) (by (with_reducible repeat (first | refine blk_drewN ?_ _ | refine blk_drew ?_ | refine blk_alloc ?_ _)); exact BK9001.out) hb); have n5_ := Aside0.mk (below_step (by repeat (first | (with_reducible first | exact HB.out | apply below_alloc | apply pw_below_drewN | apply below_drew1 | refine below_set ?_ GE9001.out) | exact HB.out)) hb); clear HO9005; clear HO9008; clear BK9001; clear HB; have HO9005 := n0_; have HO9008 := n1_; have HO9013 := n2_; have HO9016 := n3_; have BK9001 := n4_; have HB := n5_; clear n0_ n1_ n2_ n3_ n4_ n5_; (try clear hb); (try clear hb2); (try clear hk); (try clear hi); (try clear ho0); (try clear ho1); obtain ⟨Ao25, co25, eo25⟩ := Kd.R_slice HO9013.out; subst eo25; obtain ⟨Ao26, co26, eo26⟩ := Kd.R_slice HO9016.out; subst eo26) | (go_at_call 13; (with_reducible refine (dam_EmptyingOf.calls kj4 _ _ t9011 _ _ t9014 a1 t9017 t9018 _ ?side1 ?side2 ?side3 ?side4 A15.out).mono ?_); (case side1 => repeat (first | exact (Kd.R_reads' HO9013.out).2.2 | (with_reducible refine Kd.C_alloc ?_ _) | (with_reducible refine Kd.C_drewN ?_ _) | (with_reducible refine Kd.C_drew ?_))); (case side2 => exact (Kd.R_reads' HO9013.out).2.1); (case side3 => repeat (first | exact (Kd.R_reads' HO9016.out).2.2 | (with_reducible refine Kd.C_alloc ?_ _) | (with_reducible refine Kd.C_drewN ?_ _) | (with_reducible refine Kd.C_drew ?_))); (case side4 => exact (Kd.R_reads' HO9016.out).2.1); rintro e w27 ⟨rfl, hb⟩; have n0_ := Aside0.mk (Kd.R_below (by (with_reducible repeat (first | apply Kd.R_alloc | apply Kd.R_drewN | apply Kd.R_drew)); exact HO9005.out) hb); have n1_ := Aside0.mk (Kd.R_below (by (with_reducible repeat (first | apply Kd.R_alloc | apply Kd.R_drewN | apply Kd.R_drew)); exact HO9008.out) hb); have n2_ := Aside0.mk (Kd.R_below (by (with_reducible repeat (first | apply Kd.R_alloc | apply Kd.R_drewN | apply Kd.R_drew)); exact HO9013.out) hb); have n3_ := Aside0.mk (Kd.R_below (by (with_reducible repeat (first | apply Kd.R_alloc | apply Kd.R_drewN | apply Kd.R_drew)); exact HO9016.out) hb); have n4_ := Aside0.mk (blk_below (g := gb9001) (o := .cells #[.slice A0_0 l0_0.length c0_0, .slice A0_1 l0_1.length c0_1] 24 (0, 0)) (by (with_reducible repeat (first | refine blk_drewN ?_ _ | refine blk_drew ?_ | refine blk_alloc ?_ _)); exact BK9001.out) hb); have n5_ := Aside0.mk (below_step (by repeat (first | (with_reducible first | exact HB.out | apply below_alloc | apply pw_below_drewN | apply below_drew1 | refine below_set ?_ GE9001.out) | exact HB.out)) hb); clear HO9005; clear HO9008; clear HO9013; clear HO9016; clear BK9001; clear HB; have HO9005 := n0_; have HO9008 := n1_; have HO9013 := n2_; have HO9016 := n3_; have BK9001 := n4_; have HB := n5_; clear n0_ n1_ n2_ n3_ n4_ n5_; (try clear hb); (try clear hb2); (try clear hk); (try clear hi); have hcz28_0 : w27.cell? ⟨gb9001, 0, none⟩ = some (.slice A0_0 l0_0.length c0_0) := (blk_cell BK9001.out 0).trans rfl; have hcz28_1 : w27.cell? ⟨gb9001, 1, none⟩ = some (.slice A0_1 l0_1.length c0_1) := (blk_cell BK9001.out 1).trans rfl; have hfz28_0 := blk_frozen BK9001.out 0; have hfz28_1 := blk_frozen BK9001.out 1) | (go_at_call 14; (with_reducible refine (guidevaneref09_CheckBasin.calls kj4 _ _ l0_0 _ _ l0_1 t9019 t9020 _ ?side1 ?side2 ?side3 ?side4 A16.out).mono ?_); (case side1 => repeat (first | exact (Kd.C_below HR0_0.out HB.out) | (with_reducible refine Kd.C_alloc ?_ _) | (with_reducible refine Kd.C_drewN ?_ _) | (with_reducible refine Kd.C_drew ?_))); (case side2 => exact HC0_0.out); (case side3 => repeat (first | exact (Kd.C_below HR0_1.out HB.out) | (with_reducible refine Kd.C_alloc ?_ _) | (with_reducible refine Kd.C_drewN ?_ _) | (with_reducible refine Kd.C_drew ?_))); (case side4 => exact HC0_1.out); rintro e w29 ⟨rfl, hb⟩; have n0_ := Aside0.mk (Kd.R_below (by (with_reducible repeat (first | apply Kd.R_alloc | apply Kd.R_drewN | apply Kd.R_drew)); exact HO9005.out) hb); have n1_ := Aside0.mk (Kd.R_below (by (with_reducible repeat (first | apply Kd.R_alloc | apply Kd.R_drewN | apply Kd.R_drew)); exact HO9008.out) hb); have n2_ := Aside0.mk (Kd.R_below (by (with_reducible repeat (first | apply Kd.R_alloc | apply Kd.R_drewN | apply Kd.R_drew)); exact HO9013.out) hb); have n3_ := Aside0.mk (Kd.R_below (by (with_reducible repeat (first | apply Kd.R_alloc | apply Kd.R_drewN | apply Kd.R_drew)); exact HO9016.out) hb); have n4_ := Aside0.mk (blk_below (g := gb9001) (o := .cells #[.slice A0_0 l0_0.length c0_0, .slice A0_1 l0_1.length c0_1] 24 (0, 0)) (by (with_reducible repeat (first | refine blk_drewN ?_ _ | refine blk_drew ?_ | refine blk_alloc ?_ _)); exact BK9001.out) hb); have n5_ := Aside0.mk (below_step (by repeat (first | (with_reducible first | exact HB.out | apply below_alloc | apply pw_below_drewN | apply below_drew1 | refine below_set ?_ GE9001.out) | exact HB.out)) hb); clear HO9005; clear HO9008; clear HO9013; clear HO9016; clear BK9001; clear HB; have HO9005 := n0_; have HO9008 := n1_; have HO9013 := n2_; have HO9016 := n3_; have BK9001 := n4_; have HB := n5_; clear n0_ n1_ n2_ n3_ n4_ n5_; (try clear hb); (try clear hb2); (try clear hk); (try clear hi))))
          (try simp only [Act.put, List.setIfInBounds_toArray, List.set_cons_zero, List.set_cons_succ])
          go_cut [50] (fun v50 wc => ∃ (kq : Nat) (x50_16 : Bool), v50 = .bool x50_16 ∧ Aside0 (guidevanelaw09_DamBasins.j1 kq a1 t9017 t9018 t9020 x50_16 l0_0 l0_1 = some r) ∧ Aside0 (kq ≤ kj4) ∧ Aside0 (wc.heap[gb9001]? = some (.cells #[(.slice A0_0 l0_0.length c0_0), (.slice A0_1 l0_1.length c0_1)] 24 (0, 0))) ∧ Aside0 (Below w.heap.size w wc))
          case first =>
            have H := HC17.out
            clear HC17
            by_cases c30 : t9010 = t9020
            · rw [if_pos c30] at H
              have c30b0 : (t9010 == t9020) = true := beq_iff_eq.mpr c30
              have c30b1 : (t9010 != t9020) = false := bne_eq_false_iff_eq.mpr c30
              clear c30
              (first | rw [c30b0] | (simp only [i64_w, i32_w]; rw [c30b0]) | skip)
              have H' := Aside0.mk H
              clear H
              go_wp2
              repeat (go_quiet (fail); try go_wp2)
              go_meet
              case rel => exact ⟨_, ((t9009 != t9019)), (by first | rfl | (simp; done) | (simp [*]; done)), H', ⟨by have := HJ4.out; first | omega | exact Nat.le_refl _⟩, ⟨by (with_reducible repeat (first | refine blk_drewN ?_ _ | refine blk_drew ?_ | refine blk_alloc ?_ _)); exact BK9001.out⟩, ⟨by repeat (first | (with_reducible first | exact HB.out | apply below_alloc | apply pw_below_drewN | apply below_drew1 | refine below_set ?_ GE9001.out) | exact HB.out)⟩⟩
            · rw [if_neg c30] at H
              have c30b0 : (t9010 == t9020) = false := beq_eq_false_iff_ne.mpr c30
              have c30b1 : (t9010 != t9020) = true := bne_iff_ne.mpr c30
              (first | rw [c30b0] | (simp only [i64_w, i32_w]; rw [c30b0]) | skip)
              have H' := Aside0.mk H
              clear H
              go_wp2
              repeat (go_quiet (fail); try go_wp2)
              go_meet
              case rel => exact ⟨_, (true), (by first | rfl | (simp; done) | (simp [*]; done)), H', ⟨by have := HJ4.out; first | omega | exact Nat.le_refl _⟩, ⟨by (with_reducible repeat (first | refine blk_drewN ?_ _ | refine blk_drew ?_ | refine blk_alloc ?_ _)); exact BK9001.out⟩, ⟨by repeat (first | (with_reducible first | exact HB.out | apply below_alloc | apply pw_below_drewN | apply below_drew1 | refine below_set ?_ GE9001.out) | exact HB.out)⟩⟩
          case rest =>
            clear HC17
            try clear c1
            try clear p2
            try clear c3
            try clear c4
            try clear c8
            try clear c8b0
            try clear c8b1
            try clear c11
            try clear c30
            try clear c30b0
            try clear c30b1
            try clear hcz10_0
            try clear hcz10_1
            try clear hcz18_0
            try clear hcz18_1
            try clear hcz23_0
            try clear hcz23_1
            try clear hcz28_0
            try clear hcz28_1
            try clear hcz9_0
            try clear hcz9_1
            try clear hfz10_0
            try clear hfz10_1
            try clear hfz18_0
            try clear hfz18_1
            try clear hfz23_0
            try clear hfz23_1
            try clear hfz28_0
            try clear hfz28_1
            try clear hfz9_0
            try clear hfz9_1
            try clear p2
            obtain ⟨kq, x50_16, rfl, HA, HJ16, BK9001, HB⟩ := hcut
            cases kq with
            | zero => exact absurd HA.out (by simp [guidevanelaw09_DamBasins.j1])
            | succ kj16 =>
              have H := HA.out
              clear HA
              simp only [guidevanelaw09_DamBasins.j1] at H
              by_cases c31 : x50_16 = true
              · subst c31
                have H1 : (some false) = some r := by rw [if_pos rfl] at H; exact H
                clear H
                have H := H1
                clear H1
                obtain rfl := Option.some.inj H
                go_wp2
                repeat (go_quiet (fail); try go_wp2)
                go_ret
                exact ⟨by first | rfl | (simp [errW_none, errW_some] <;> rfl) | (simp [*, errW_none, errW_some] <;> rfl), by repeat (first | (with_reducible first | exact HB.out | apply below_alloc | apply pw_below_drewN | apply below_drew1 | refine below_set ?_ GE9001.out) | exact HB.out)⟩
              · replace c31 := Bool.eq_false_iff.mpr c31
                subst c31
                have H1 : (if t9020 = 0 then ((guidevanebase_Within.f a1 0 (l0_0.length : Int)).bind fun t9021 => (guidevanelaw09_DamBasins.j2 kj16 a1 t9017 t9018 t9020 (!t9021) l0_0 l0_1)) else (guidevanelaw09_DamBasins.j2 kj16 a1 t9017 t9018 t9020 false l0_0 l0_1)) = some r := by rw [if_neg (show ¬ (false = true) by decide)] at H; exact H
                clear H
                have H := H1
                clear H1
                have HC32 := Aside0.mk H
                clear H
                go_upto_region 10 with (fail)
                repeat (go_quiet (fail); go_upto_region 10 with (fail))
                go_cut [60] (fun v60 wc => ∃ (kq : Nat) (x60_31 : Bool), v60 = .bool x60_31 ∧ Aside0 (guidevanelaw09_DamBasins.j2 kq a1 t9017 t9018 t9020 x60_31 l0_0 l0_1 = some r) ∧ Aside0 (kq ≤ kj16) ∧ Aside0 (wc.heap[gb9001]? = some (.cells #[(.slice A0_0 l0_0.length c0_0), (.slice A0_1 l0_1.length c0_1)] 24 (0, 0))) ∧ Aside0 (Below w.heap.size w wc))
                case first =>
                  have H := HC32.out
                  clear HC32
                  by_cases c33 : t9020 = 0
                  · rw [if_pos c33] at H
                    have c33b0 : (t9020 == 0) = true := beq_iff_eq.mpr c33
                    have c33b1 : (t9020 != 0) = false := bne_eq_false_iff_eq.mpr c33
                    clear c33
                    (first | rw [c33b0] | (simp only [i64_w, i32_w]; rw [c33b0]) | skip)
                    replace H := Option.bind_eq_some_iff.mp H
                    obtain ⟨t9021, A340, H⟩ := H
                    replace H : (guidevanelaw09_DamBasins.j2 kj16 a1 t9017 t9018 t9020 (!t9021) l0_0 l0_1) = some r := H
                    have A34 := Aside0.mk A340
                    clear A340
                    have H' := Aside0.mk H
                    clear H
                    have hcz35_0 : wc.cell? ⟨gb9001, 0, none⟩ = some (.slice A0_0 l0_0.length c0_0) := (blk_cell BK9001.out 0).trans rfl
                    have hcz35_1 : wc.cell? ⟨gb9001, 1, none⟩ = some (.slice A0_1 l0_1.length c0_1) := (blk_cell BK9001.out 1).trans rfl
                    have hfz35_0 := blk_frozen BK9001.out 0
                    have hfz35_1 := blk_frozen BK9001.out 1
                    go_wp2_with (first | (go_at_call 15; (with_reducible refine (guidevanebase_Within.calls a1 0 (l0_0.length : Int) t9021 _ A34.out).mono ?_); rintro e w' ⟨rfl, ⟨nd, rfl⟩⟩; (try first | exact ⟨rfl, _, World.drewN_drewN _ _ _⟩ | exact ⟨rfl, _, Eq.trans (World.drewN_drewN _ _ _) (congrArg (World.drewN _) (Nat.add_assoc _ _ _))⟩)))
                    repeat (go_quiet (first | (go_at_call 15; (with_reducible refine (guidevanebase_Within.calls a1 0 (l0_0.length : Int) t9021 _ A34.out).mono ?_); rintro e w' ⟨rfl, ⟨nd, rfl⟩⟩; (try first | exact ⟨rfl, _, World.drewN_drewN _ _ _⟩ | exact ⟨rfl, _, Eq.trans (World.drewN_drewN _ _ _) (congrArg (World.drewN _) (Nat.add_assoc _ _ _))⟩))); try go_wp2_with (first | (go_at_call 15; (with_reducible refine (guidevanebase_Within.calls a1 0 (l0_0.length : Int) t9021 _ A34.out).mono ?_); rintro e w' ⟨rfl, ⟨nd, rfl⟩⟩; (try first | exact ⟨rfl, _, World.drewN_drewN _ _ _⟩ | exact ⟨rfl, _, Eq.trans (World.drewN_drewN _ _ _) (congrArg (World.drewN _) (Nat.add_assoc _ _ _))⟩))))
                    go_meet
                    case rel => exact ⟨_, (!t9021), (by first | rfl | (simp; done) | (simp [*]; done)), H', ⟨by have := HJ4.out; have := HJ16.out; first | omega | exact Nat.le_refl _⟩, ⟨by (with_reducible repeat (first | refine blk_drewN ?_ _ | refine blk_drew ?_ | refine blk_alloc ?_ _)); exact BK9001.out⟩, ⟨by repeat (first | (with_reducible first | exact HB.out | apply below_alloc | apply pw_below_drewN | apply below_drew1 | refine below_set ?_ GE9001.out) | exact HB.out)⟩⟩
                  · rw [if_neg c33] at H
                    have c33b0 : (t9020 == 0) = false := beq_eq_false_iff_ne.mpr c33
                    have c33b1 : (t9020 != 0) = true := bne_iff_ne.mpr c33
                    (first | rw [c33b0] | (simp only [i64_w, i32_w]; rw [c33b0]) | skip)
                    have H' := Aside0.mk H
                    clear H
                    go_wp2
                    repeat (go_quiet (fail); try go_wp2)
                    go_meet
                    case rel => exact ⟨_, (false), (by first | rfl | (simp; done) | (simp [*]; done)), H', ⟨by have := HJ4.out; have := HJ16.out; first | omega | exact Nat.le_refl _⟩, ⟨by (with_reducible repeat (first | refine blk_drewN ?_ _ | refine blk_drew ?_ | refine blk_alloc ?_ _)); exact BK9001.out⟩, ⟨by repeat (first | (with_reducible first | exact HB.out | apply below_alloc | apply pw_below_drewN | apply below_drew1 | refine below_set ?_ GE9001.out) | exact HB.out)⟩⟩
                case rest =>
                  clear HC32
                  try clear c1
                  try clear p2
                  try clear c3
                  try clear c4
                  try clear c8
                  try clear c8b0
                  try clear c8b1
                  try clear c11
                  try clear c30
                  try clear c30b0
                  try clear c30b1
                  try clear c31
                  try clear c33
                  try clear c33b0
                  try clear c33b1
                  try clear hcz10_0
                  try clear hcz10_1
                  try clear hcz18_0
                  try clear hcz18_1
                  try clear hcz23_0
                  try clear hcz23_1
                  try clear hcz28_0
                  try clear hcz28_1
                  try clear hcz35_0
                  try clear hcz35_1
                  try clear hcz9_0
                  try clear hcz9_1
                  try clear hfz10_0
                  try clear hfz10_1
                  try clear hfz18_0
                  try clear hfz18_1
                  try clear hfz23_0
                  try clear hfz23_1
                  try clear hfz28_0
                  try clear hfz28_1
                  try clear hfz35_0
                  try clear hfz35_1
                  try clear hfz9_0
                  try clear hfz9_1
                  try clear p2
                  obtain ⟨kq, x60_31, rfl, HA, HJ31, BK9001, HB⟩ := hcut
                  cases kq with
                  | zero => exact absurd HA.out (by simp [guidevanelaw09_DamBasins.j2])
                  | succ kj31 =>
                    have H := HA.out
                    clear HA
                    simp only [guidevanelaw09_DamBasins.j2] at H
                    have HC36 := Aside0.mk H
                    clear H
                    go_upto_if 60 with (fail)
                    repeat (go_quiet (fail); go_upto_if 60 with (fail))
                    go_cut [10] (fun v10 wc => ∃ (kq : Nat) (x10_35 : Int), v10 = .int .i64 x10_35 ∧ Aside0 (guidevanelaw09_DamBasins.j3 kq a1 t9017 t9018 x10_35 l0_0 l0_1 = some r) ∧ Aside0 (kq ≤ kj31) ∧ Aside0 (wc.heap[gb9001]? = some (.cells #[(.slice A0_0 l0_0.length c0_0), (.slice A0_1 l0_1.length c0_1)] 24 (0, 0))) ∧ Aside0 (Below w.heap.size w wc))
                    case first =>
                      have H := HC36.out
                      clear HC36
                      by_cases c37 : x60_31 = true
                      · subst c37
                        have H1 : (guidevanelaw09_DamBasins.j3 kj31 a1 t9017 t9018 2 l0_0 l0_1) = some r := by rw [if_pos rfl] at H; exact H
                        clear H
                        have H := H1
                        clear H1
                        have H' := Aside0.mk H
                        clear H
                        go_wp2
                        repeat (go_quiet (fail); try go_wp2)
                        go_meet
                        case rel => exact ⟨_, (2), (by first | rfl | (simp; done) | (simp [*]; done)), H', ⟨by have := HJ4.out; have := HJ16.out; have := HJ31.out; first | omega | exact Nat.le_refl _⟩, ⟨by (with_reducible repeat (first | refine blk_drewN ?_ _ | refine blk_drew ?_ | refine blk_alloc ?_ _)); exact BK9001.out⟩, ⟨by repeat (first | (with_reducible first | exact HB.out | apply below_alloc | apply pw_below_drewN | apply below_drew1 | refine below_set ?_ GE9001.out) | exact HB.out)⟩⟩
                      · replace c37 := Bool.eq_false_iff.mpr c37
                        subst c37
                        have H1 : (guidevanelaw09_DamBasins.j3 kj31 a1 t9017 t9018 t9020 l0_0 l0_1) = some r := by rw [if_neg (show ¬ (false = true) by decide)] at H; exact H
                        clear H
                        have H := H1
                        clear H1
                        have H' := Aside0.mk H
                        clear H
                        go_wp2
                        repeat (go_quiet (fail); try go_wp2)
                        go_meet
                        case rel => exact ⟨_, (t9020), (by first | rfl | (simp; done) | (simp [*]; done)), H', ⟨by have := HJ4.out; have := HJ16.out; have := HJ31.out; first | omega | exact Nat.le_refl _⟩, ⟨by (with_reducible repeat (first | refine blk_drewN ?_ _ | refine blk_drew ?_ | refine blk_alloc ?_ _)); exact BK9001.out⟩, ⟨by repeat (first | (with_reducible first | exact HB.out | apply below_alloc | apply pw_below_drewN | apply below_drew1 | refine below_set ?_ GE9001.out) | exact HB.out)⟩⟩
                    case rest =>
                      clear HC36
                      try clear c1
                      try clear p2
                      try clear c3
                      try clear c4
                      try clear c8
                      try clear c8b0
                      try clear c8b1
                      try clear c11
                      try clear c30
                      try clear c30b0
                      try clear c30b1
                      try clear c31
                      try clear c33
                      try clear c33b0
                      try clear c33b1
                      try clear c37
                      try clear hcz10_0
                      try clear hcz10_1
                      try clear hcz18_0
                      try clear hcz18_1
                      try clear hcz23_0
                      try clear hcz23_1
                      try clear hcz28_0
                      try clear hcz28_1
                      try clear hcz35_0
                      try clear hcz35_1
                      try clear hcz9_0
                      try clear hcz9_1
                      try clear hfz10_0
                      try clear hfz10_1
                      try clear hfz18_0
                      try clear hfz18_1
                      try clear hfz23_0
                      try clear hfz23_1
                      try clear hfz28_0
                      try clear hfz28_1
                      try clear hfz35_0
                      try clear hfz35_1
                      try clear hfz9_0
                      try clear hfz9_1
                      try clear p2
                      obtain ⟨kq, x10_35, rfl, HA, HJ35, BK9001, HB⟩ := hcut
                      cases kq with
                      | zero => exact absurd HA.out (by simp [guidevanelaw09_DamBasins.j3])
                      | succ kj35 =>
                        have H := HA.out
                        clear HA
                        simp only [guidevanelaw09_DamBasins.j3] at H
                        by_cases c38 : x10_35 = 0
                        · rw [if_pos c38] at H
                          have c38b0 : (x10_35 == 0) = true := beq_iff_eq.mpr c38
                          have c38b1 : (x10_35 != 0) = false := bne_eq_false_iff_eq.mpr c38
                          clear c38
                          have HC39 := Aside0.mk H
                          clear H
                          go_upto_region 14 with (fail)
                          repeat (go_quiet (fail); go_upto_region 14 with (fail))
                          go_cut [78] (fun v78 wc => ∃ (kq : Nat) (x78_38 : Bool), v78 = .bool x78_38 ∧ Aside0 (guidevanelaw09_DamBasins.j4 kq a1 t9017 x78_38 l0_0 l0_1 = some r) ∧ Aside0 (kq ≤ kj35) ∧ Aside0 (wc.heap[gb9001]? = some (.cells #[(.slice A0_0 l0_0.length c0_0), (.slice A0_1 l0_1.length c0_1)] 24 (0, 0))) ∧ Aside0 (Below w.heap.size w wc))
                          case first =>
                            have H := HC39.out
                            clear HC39
                            by_cases c40 : t9018 = 0
                            · rw [if_pos c40] at H
                              have c40b0 : (t9018 == 0) = true := beq_iff_eq.mpr c40
                              have c40b1 : (t9018 != 0) = false := bne_eq_false_iff_eq.mpr c40
                              clear c40
                              (first | rw [c40b0] | (simp only [i64_w, i32_w]; rw [c40b0]) | skip)
                              replace H := Option.bind_eq_some_iff.mp H
                              obtain ⟨t9022, A410, H⟩ := H
                              replace H : (guidevanelaw09_DamBasins.j4 kj35 a1 t9017 (t9017 != t9022) l0_0 l0_1) = some r := H
                              have A41 := Aside0.mk A410
                              clear A410
                              have H' := Aside0.mk H
                              clear H
                              have hcz42_0 : wc.cell? ⟨gb9001, 0, none⟩ = some (.slice A0_0 l0_0.length c0_0) := (blk_cell BK9001.out 0).trans rfl
                              have hcz42_1 : wc.cell? ⟨gb9001, 1, none⟩ = some (.slice A0_1 l0_1.length c0_1) := (blk_cell BK9001.out 1).trans rfl
                              have hfz42_0 := blk_frozen BK9001.out 0
                              have hfz42_1 := blk_frozen BK9001.out 1
                              go_wp2_with (first | (go_at_call 16; (with_reducible refine (guidevaneref09_Emptying.calls kj35 _ _ l0_0 _ _ l0_1 a1 t9022 _ ?side1 ?side2 ?side3 ?side4 A41.out).mono ?_); (case side1 => repeat (first | exact (Kd.C_below HR0_0.out HB.out) | (with_reducible refine Kd.C_alloc ?_ _) | (with_reducible refine Kd.C_drewN ?_ _) | (with_reducible refine Kd.C_drew ?_))); (case side2 => exact HC0_0.out); (case side3 => repeat (first | exact (Kd.C_below HR0_1.out HB.out) | (with_reducible refine Kd.C_alloc ?_ _) | (with_reducible refine Kd.C_drewN ?_ _) | (with_reducible refine Kd.C_drew ?_))); (case side4 => exact HC0_1.out); rintro e w43 ⟨rfl, hb⟩; have n0_ := Aside0.mk (blk_below (g := gb9001) (o := .cells #[.slice A0_0 l0_0.length c0_0, .slice A0_1 l0_1.length c0_1] 24 (0, 0)) (by (with_reducible repeat (first | refine blk_drewN ?_ _ | refine blk_drew ?_ | refine blk_alloc ?_ _)); exact BK9001.out) hb); have n1_ := Aside0.mk (below_step (by repeat (first | (with_reducible first | exact HB.out | apply below_alloc | apply pw_below_drewN | apply below_drew1 | refine below_set ?_ GE9001.out) | exact HB.out)) hb); clear BK9001; clear HB; have BK9001 := n0_; have HB := n1_; clear n0_ n1_; (try clear hb); (try clear hb2); (try clear hk); (try clear hi)))
                              repeat (go_quiet (first | (go_at_call 16; (with_reducible refine (guidevaneref09_Emptying.calls kj35 _ _ l0_0 _ _ l0_1 a1 t9022 _ ?side1 ?side2 ?side3 ?side4 A41.out).mono ?_); (case side1 => repeat (first | exact (Kd.C_below HR0_0.out HB.out) | (with_reducible refine Kd.C_alloc ?_ _) | (with_reducible refine Kd.C_drewN ?_ _) | (with_reducible refine Kd.C_drew ?_))); (case side2 => exact HC0_0.out); (case side3 => repeat (first | exact (Kd.C_below HR0_1.out HB.out) | (with_reducible refine Kd.C_alloc ?_ _) | (with_reducible refine Kd.C_drewN ?_ _) | (with_reducible refine Kd.C_drew ?_))); (case side4 => exact HC0_1.out); rintro e w43 ⟨rfl, hb⟩; have n0_ := Aside0.mk (blk_below (g := gb9001) (o := .cells #[.slice A0_0 l0_0.length c0_0, .slice A0_1 l0_1.length c0_1] 24 (0, 0)) (by (with_reducible repeat (first | refine blk_drewN ?_ _ | refine blk_drew ?_ | refine blk_alloc ?_ _)); exact BK9001.out) hb); have n1_ := Aside0.mk (below_step (by repeat (first | (with_reducible first | exact HB.out | apply below_alloc | apply pw_below_drewN | apply below_drew1 | refine below_set ?_ GE9001.out) | exact HB.out)) hb); clear BK9001; clear HB; have BK9001 := n0_; have HB := n1_; clear n0_ n1_; (try clear hb); (try clear hb2); (try clear hk); (try clear hi))); try go_wp2_with (first | (go_at_call 16; (with_reducible refine (guidevaneref09_Emptying.calls kj35 _ _ l0_0 _ _ l0_1 a1 t9022 _ ?side1 ?side2 ?side3 ?side4 A41.out).mono ?_); (case side1 => repeat (first | exact (Kd.C_below HR0_0.out HB.out) | (with_reducible refine Kd.C_alloc ?_ _) | (with_reducible refine Kd.C_drewN ?_ _) | (with_reducible refine Kd.C_drew ?_))); (case side2 => exact HC0_0.out); (case side3 => repeat (first | exact (Kd.C_below HR0_1.out HB.out) | (with_reducible refine Kd.C_alloc ?_ _) | (with_reducible refine Kd.C_drewN ?_ _) | (with_reducible refine Kd.C_drew ?_))); (case side4 => exact HC0_1.out); rintro e w43 ⟨rfl, hb⟩; have n0_ := Aside0.mk (blk_below (g := gb9001) (o := .cells #[.slice A0_0 l0_0.length c0_0, .slice A0_1 l0_1.length c0_1] 24 (0, 0)) (by (with_reducible repeat (first | refine blk_drewN ?_ _ | refine blk_drew ?_ | refine blk_alloc ?_ _)); exact BK9001.out) hb); have n1_ := Aside0.mk (below_step (by repeat (first | (with_reducible first | exact HB.out | apply below_alloc | apply pw_below_drewN | apply below_drew1 | refine below_set ?_ GE9001.out) | exact HB.out)) hb); clear BK9001; clear HB; have BK9001 := n0_; have HB := n1_; clear n0_ n1_; (try clear hb); (try clear hb2); (try clear hk); (try clear hi))))
                              go_meet
                              case rel => exact ⟨_, ((t9017 != t9022)), (by first | rfl | (simp; done) | (simp [*]; done)), H', ⟨by have := HJ4.out; have := HJ16.out; have := HJ31.out; have := HJ35.out; first | omega | exact Nat.le_refl _⟩, ⟨by (with_reducible repeat (first | refine blk_drewN ?_ _ | refine blk_drew ?_ | refine blk_alloc ?_ _)); exact BK9001.out⟩, ⟨by repeat (first | (with_reducible first | exact HB.out | apply below_alloc | apply pw_below_drewN | apply below_drew1 | refine below_set ?_ GE9001.out) | exact HB.out)⟩⟩
                            · rw [if_neg c40] at H
                              have c40b0 : (t9018 == 0) = false := beq_eq_false_iff_ne.mpr c40
                              have c40b1 : (t9018 != 0) = true := bne_iff_ne.mpr c40
                              (first | rw [c40b0] | (simp only [i64_w, i32_w]; rw [c40b0]) | skip)
                              have H' := Aside0.mk H
                              clear H
                              go_wp2
                              repeat (go_quiet (fail); try go_wp2)
                              go_meet
                              case rel => exact ⟨_, (true), (by first | rfl | (simp; done) | (simp [*]; done)), H', ⟨by have := HJ4.out; have := HJ16.out; have := HJ31.out; have := HJ35.out; first | omega | exact Nat.le_refl _⟩, ⟨by (with_reducible repeat (first | refine blk_drewN ?_ _ | refine blk_drew ?_ | refine blk_alloc ?_ _)); exact BK9001.out⟩, ⟨by repeat (first | (with_reducible first | exact HB.out | apply below_alloc | apply pw_below_drewN | apply below_drew1 | refine below_set ?_ GE9001.out) | exact HB.out)⟩⟩
                          case rest =>
                            clear HC39
                            try clear c1
                            try clear p2
                            try clear c3
                            try clear c4
                            try clear c8
                            try clear c8b0
                            try clear c8b1
                            try clear c11
                            try clear c30
                            try clear c30b0
                            try clear c30b1
                            try clear c31
                            try clear c33
                            try clear c33b0
                            try clear c33b1
                            try clear c37
                            try clear c38
                            try clear c38b0
                            try clear c38b1
                            try clear c40
                            try clear c40b0
                            try clear c40b1
                            try clear hcz10_0
                            try clear hcz10_1
                            try clear hcz18_0
                            try clear hcz18_1
                            try clear hcz23_0
                            try clear hcz23_1
                            try clear hcz28_0
                            try clear hcz28_1
                            try clear hcz35_0
                            try clear hcz35_1
                            try clear hcz42_0
                            try clear hcz42_1
                            try clear hcz9_0
                            try clear hcz9_1
                            try clear hfz10_0
                            try clear hfz10_1
                            try clear hfz18_0
                            try clear hfz18_1
                            try clear hfz23_0
                            try clear hfz23_1
                            try clear hfz28_0
                            try clear hfz28_1
                            try clear hfz35_0
                            try clear hfz35_1
                            try clear hfz42_0
                            try clear hfz42_1
                            try clear hfz9_0
                            try clear hfz9_1
                            try clear p2
                            obtain ⟨kq, x78_38, rfl, HA, HJ38, BK9001, HB⟩ := hcut
                            cases kq with
                            | zero => exact absurd HA.out (by simp [guidevanelaw09_DamBasins.j4])
                            | succ kj38 =>
                              have H := HA.out
                              clear HA
                              simp only [guidevanelaw09_DamBasins.j4] at H
                              by_cases c44 : x78_38 = true
                              · subst c44
                                have H1 : (some false) = some r := by rw [if_pos rfl] at H; exact H
                                clear H
                                have H := H1
                                clear H1
                                obtain rfl := Option.some.inj H
                                go_wp2
                                repeat (go_quiet (fail); try go_wp2)
                                go_ret
                                exact ⟨by first | rfl | (simp [errW_none, errW_some] <;> rfl) | (simp [*, errW_none, errW_some] <;> rfl), by repeat (first | (with_reducible first | exact HB.out | apply below_alloc | apply pw_below_drewN | apply below_drew1 | refine below_set ?_ GE9001.out) | exact HB.out)⟩
                              · replace c44 := Bool.eq_false_iff.mpr c44
                                subst c44
                                have H1 : (if a1 = (l0_0.length : Int) then (some true) else ((guidevaneref09_CopyBasin.f l0_0 l0_1).bind fun bt9023 => ((dam_EmptyingOf.f kj38 bt9023.1 bt9023.2 (wrap64 (a1 + 1))).bind fun bt9029 => (if bt9029.2 = 0 then (if 0 ≤ a1 then (if a1 < (l0_0.length : Int) then (if a1 < (l0_1.length : Int) then ((guidevanebase_Ceil.f (rd l0_0 a1) (rd l0_1 a1)).bind fun t9033 => (some (bt9029.1 == (wrap64 (t9017 + t9033))))) else (none)) else (none)) else (none)) else (some false))))) = some r := by rw [if_neg (show ¬ (false = true) by decide)] at H; exact H
                                clear H
                                have H := H1
                                clear H1
                                by_cases c45 : a1 = (l0_0.length : Int)
                                · rw [if_pos c45] at H
                                  have c45b0 : (a1 == (l0_0.length : Int)) = true := beq_iff_eq.mpr c45
                                  have c45b1 : (a1 != (l0_0.length : Int)) = false := bne_eq_false_iff_eq.mpr c45
                                  clear c45
                                  obtain rfl := Option.some.inj H
                                  have hcz46_0 : wc.cell? ⟨gb9001, 0, none⟩ = some (.slice A0_0 l0_0.length c0_0) := (blk_cell BK9001.out 0).trans rfl
                                  have hcz46_1 : wc.cell? ⟨gb9001, 1, none⟩ = some (.slice A0_1 l0_1.length c0_1) := (blk_cell BK9001.out 1).trans rfl
                                  have hfz46_0 := blk_frozen BK9001.out 0
                                  have hfz46_1 := blk_frozen BK9001.out 1
                                  go_wp2
                                  repeat (go_quiet (fail); try go_wp2)
                                  go_ret
                                  exact ⟨by first | rfl | (simp [errW_none, errW_some] <;> rfl) | (simp [*, errW_none, errW_some] <;> rfl), by repeat (first | (with_reducible first | exact HB.out | apply below_alloc | apply pw_below_drewN | apply below_drew1 | refine below_set ?_ GE9001.out) | exact HB.out)⟩
                                · rw [if_neg c45] at H
                                  have c45b0 : (a1 == (l0_0.length : Int)) = false := beq_eq_false_iff_ne.mpr c45
                                  have c45b1 : (a1 != (l0_0.length : Int)) = true := bne_iff_ne.mpr c45
                                  replace H := Option.bind_eq_some_iff.mp H
                                  obtain ⟨⟨t9023, t9026⟩, A470, H⟩ := H
                                  replace H : ((dam_EmptyingOf.f kj38 t9023 t9026 (wrap64 (a1 + 1))).bind fun bt9029 => (if bt9029.2 = 0 then (if 0 ≤ a1 then (if a1 < (l0_0.length : Int) then (if a1 < (l0_1.length : Int) then ((guidevanebase_Ceil.f (rd l0_0 a1) (rd l0_1 a1)).bind fun t9033 => (some (bt9029.1 == (wrap64 (t9017 + t9033))))) else (none)) else (none)) else (none)) else (some false))) = some r := H
                                  have A47 := Aside0.mk A470
                                  clear A470
                                  replace H := Option.bind_eq_some_iff.mp H
                                  obtain ⟨⟨t9029, t9030⟩, A480, H⟩ := H
                                  replace H : (if t9030 = 0 then (if 0 ≤ a1 then (if a1 < (l0_0.length : Int) then (if a1 < (l0_1.length : Int) then ((guidevanebase_Ceil.f (rd l0_0 a1) (rd l0_1 a1)).bind fun t9033 => (some (t9029 == (wrap64 (t9017 + t9033))))) else (none)) else (none)) else (none)) else (some false)) = some r := H
                                  have A48 := Aside0.mk A480
                                  clear A480
                                  by_cases c49 : t9030 = 0
                                  · rw [if_pos c49] at H
                                    have c49b0 : (t9030 == 0) = true := beq_iff_eq.mpr c49
                                    have c49b1 : (t9030 != 0) = false := bne_eq_false_iff_eq.mpr c49
                                    clear c49
                                    by_cases c50 : 0 ≤ a1
                                    · rw [if_pos c50] at H
                                      have c50b0 : decide (0 ≤ a1) = true := decide_eq_true c50
                                      clear c50
                                      by_cases c51 : a1 < (l0_0.length : Int)
                                      · rw [if_pos c51] at H
                                        have c51b0 : decide (a1 < (l0_0.length : Int)) = true := decide_eq_true c51
                                        clear c51
                                        by_cases c52 : a1 < (l0_1.length : Int)
                                        · rw [if_pos c52] at H
                                          have c52b0 : decide (a1 < (l0_1.length : Int)) = true := decide_eq_true c52
                                          clear c52
                                          replace H := Option.bind_eq_some_iff.mp H
                                          obtain ⟨t9033, A530, H⟩ := H
                                          replace H : (some (t9029 == (wrap64 (t9017 + t9033)))) = some r := H
                                          have A53 := Aside0.mk A530
                                          clear A530
                                          obtain rfl := Option.some.inj H
                                          have hcz54_0 : wc.cell? ⟨gb9001, 0, none⟩ = some (.slice A0_0 l0_0.length c0_0) := (blk_cell BK9001.out 0).trans rfl
                                          have hcz54_1 : wc.cell? ⟨gb9001, 1, none⟩ = some (.slice A0_1 l0_1.length c0_1) := (blk_cell BK9001.out 1).trans rfl
                                          have hfz54_0 := blk_frozen BK9001.out 0
                                          have hfz54_1 := blk_frozen BK9001.out 1
                                          go_wp2_with (first | (go_at_call 12; (with_reducible refine (guidevaneref09_CopyBasin.calls _ _ l0_0 _ _ l0_1 t9023 t9026 _ ?side1 ?side2 ?side3 ?side4 A47.out).mono ?_); (case side1 => repeat (first | exact (Kd.C_below HR0_0.out HB.out) | (with_reducible refine Kd.C_alloc ?_ _) | (with_reducible refine Kd.C_drewN ?_ _) | (with_reducible refine Kd.C_drew ?_))); (case side2 => exact HC0_0.out); (case side3 => repeat (first | exact (Kd.C_below HR0_1.out HB.out) | (with_reducible refine Kd.C_alloc ?_ _) | (with_reducible refine Kd.C_drewN ?_ _) | (with_reducible refine Kd.C_drew ?_))); (case side4 => exact HC0_1.out); rintro e w55 ⟨v9024, v9027, rfl, ho0, ho1, hb⟩; have n0_ := Aside0.mk (Kd.R_lower ho0 (below_size (by repeat (first | (with_reducible first | exact HB.out | apply below_alloc | apply pw_below_drewN | apply below_drew1 | refine below_set ?_ GE9001.out) | exact HB.out)))); have n1_ := Aside0.mk (Kd.R_lower ho1 (below_size (by repeat (first | (with_reducible first | exact HB.out | apply below_alloc | apply pw_below_drewN | apply below_drew1 | refine below_set ?_ GE9001.out) | exact HB.out)))); have n2_ := Aside0.mk (blk_below (g := gb9001) (o := .cells #[.slice A0_0 l0_0.length c0_0, .slice A0_1 l0_1.length c0_1] 24 (0, 0)) (by (with_reducible repeat (first | refine blk_drewN ?_ _ | refine blk_drew ?_ | refine blk_alloc ?_ _)); exact BK9001.out) hb); have n3_ := Aside0.mk (below_step (by repeat (first | (with_reducible first | exact HB.out | apply below_alloc | apply pw_below_drewN | apply below_drew1 | refine below_set ?_ GE9001.out) | exact HB.out)) hb); clear BK9001; clear HB; have HO9025 := n0_; have HO9028 := n1_; have BK9001 := n2_; have HB := n3_; clear n0_ n1_ n2_ n3_; (try clear hb); (try clear hb2); (try clear hk); (try clear hi); (try clear ho0); (try clear ho1); obtain ⟨Ao56, co56, eo56⟩ := Kd.R_slice HO9025.out; subst eo56; obtain ⟨Ao57, co57, eo57⟩ := Kd.R_slice HO9028.out; subst eo57) | (go_at_call 13; (with_reducible refine (dam_EmptyingOf.calls kj38 _ _ t9023 _ _ t9026 (wrap64 (a1 + 1)) t9029 t9030 _ ?side1 ?side2 ?side3 ?side4 A48.out).mono ?_); (case side1 => repeat (first | exact (Kd.R_reads' HO9025.out).2.2 | (with_reducible refine Kd.C_alloc ?_ _) | (with_reducible refine Kd.C_drewN ?_ _) | (with_reducible refine Kd.C_drew ?_))); (case side2 => exact (Kd.R_reads' HO9025.out).2.1); (case side3 => repeat (first | exact (Kd.R_reads' HO9028.out).2.2 | (with_reducible refine Kd.C_alloc ?_ _) | (with_reducible refine Kd.C_drewN ?_ _) | (with_reducible refine Kd.C_drew ?_))); (case side4 => exact (Kd.R_reads' HO9028.out).2.1); rintro e w58 ⟨rfl, hb⟩; have n0_ := Aside0.mk (Kd.R_below (by (with_reducible repeat (first | apply Kd.R_alloc | apply Kd.R_drewN | apply Kd.R_drew)); exact HO9025.out) hb); have n1_ := Aside0.mk (Kd.R_below (by (with_reducible repeat (first | apply Kd.R_alloc | apply Kd.R_drewN | apply Kd.R_drew)); exact HO9028.out) hb); have n2_ := Aside0.mk (blk_below (g := gb9001) (o := .cells #[.slice A0_0 l0_0.length c0_0, .slice A0_1 l0_1.length c0_1] 24 (0, 0)) (by (with_reducible repeat (first | refine blk_drewN ?_ _ | refine blk_drew ?_ | refine blk_alloc ?_ _)); exact BK9001.out) hb); have n3_ := Aside0.mk (below_step (by repeat (first | (with_reducible first | exact HB.out | apply below_alloc | apply pw_below_drewN | apply below_drew1 | refine below_set ?_ GE9001.out) | exact HB.out)) hb); clear HO9025; clear HO9028; clear BK9001; clear HB; have HO9025 := n0_; have HO9028 := n1_; have BK9001 := n2_; have HB := n3_; clear n0_ n1_ n2_ n3_; (try clear hb); (try clear hb2); (try clear hk); (try clear hi); have hcz59_0 : w58.cell? ⟨gb9001, 0, none⟩ = some (.slice A0_0 l0_0.length c0_0) := (blk_cell BK9001.out 0).trans rfl; have hcz59_1 : w58.cell? ⟨gb9001, 1, none⟩ = some (.slice A0_1 l0_1.length c0_1) := (blk_cell BK9001.out 1).trans rfl; have hfz59_0 := blk_frozen BK9001.out 0; have hfz59_1 := blk_frozen BK9001.out 1; have p9031 : 0 ≤ (a1 : Int) := of_decide_eq_true (by first | (with_reducible assumption) | assumption); have q9031 : a1 < (l0_0.length : Int) := of_decide_eq_true (by first | (with_reducible assumption) | assumption); obtain ⟨ad9031, e9031, hx9031_0⟩ := Kd.at_int HR0_0.out a1 p9031 q9031; cases e9031; replace hx9031_0 := (HB.out.cell (World.block_lt_of_cell? w _ hx9031_0)).trans hx9031_0; replace p9031 := eq_true p9031; replace q9031 := eq_true q9031; have p9032 : 0 ≤ (a1 : Int) := of_decide_eq_true (by first | (with_reducible assumption) | assumption); have q9032 : a1 < (l0_1.length : Int) := of_decide_eq_true (by first | (with_reducible assumption) | assumption); obtain ⟨ad9032, e9032, hx9032_0⟩ := Kd.at_int HR0_1.out a1 p9032 q9032; cases e9032; replace hx9032_0 := (HB.out.cell (World.block_lt_of_cell? w _ hx9032_0)).trans hx9032_0; replace p9032 := eq_true p9032; replace q9032 := eq_true q9032) | (go_at_call 17; (with_reducible refine (guidevanebase_Ceil.calls (rd l0_0 a1) (rd l0_1 a1) t9033 _ A53.out).mono ?_); rintro e w' ⟨rfl, ⟨nd, rfl⟩⟩; (try first | exact ⟨rfl, _, World.drewN_drewN _ _ _⟩ | exact ⟨rfl, _, Eq.trans (World.drewN_drewN _ _ _) (congrArg (World.drewN _) (Nat.add_assoc _ _ _))⟩)))
                                          repeat (go_quiet (first | (go_at_call 12; (with_reducible refine (guidevaneref09_CopyBasin.calls _ _ l0_0 _ _ l0_1 t9023 t9026 _ ?side1 ?side2 ?side3 ?side4 A47.out).mono ?_); (case side1 => repeat (first | exact (Kd.C_below HR0_0.out HB.out) | (with_reducible refine Kd.C_alloc ?_ _) | (with_reducible refine Kd.C_drewN ?_ _) | (with_reducible refine Kd.C_drew ?_))); (case side2 => exact HC0_0.out); (case side3 => repeat (first | exact (Kd.C_below HR0_1.out HB.out) | (with_reducible refine Kd.C_alloc ?_ _) | (with_reducible refine Kd.C_drewN ?_ _) | (with_reducible refine Kd.C_drew ?_))); (case side4 => exact HC0_1.out); rintro e w55 ⟨v9024, v9027, rfl, ho0, ho1, hb⟩; have n0_ := Aside0.mk (Kd.R_lower ho0 (below_size (by repeat (first | (with_reducible first | exact HB.out | apply below_alloc | apply pw_below_drewN | apply below_drew1 | refine below_set ?_ GE9001.out) | exact HB.out)))); have n1_ := Aside0.mk (Kd.R_lower ho1 (below_size (by repeat (first | (with_reducible first | exact HB.out | apply below_alloc | apply pw_below_drewN | apply below_drew1 | refine below_set ?_ GE9001.out) | exact HB.out)))); have n2_ := Aside0.mk (blk_below (g := gb9001) (o := .cells #[.slice A0_0 l0_0.length c0_0, .slice A0_1 l0_1.length c0_1] 24 (0, 0)) (by (with_reducible repeat (first | refine blk_drewN ?_ _ | refine blk_drew ?_ | refine blk_alloc ?_ _)); exact BK9001.out) hb); have n3_ := Aside0.mk (below_step (by repeat (first | (with_reducible first | exact HB.out | apply below_alloc | apply pw_below_drewN | apply below_drew1 | refine below_set ?_ GE9001.out) | exact HB.out)) hb); clear BK9001; clear HB; have HO9025 := n0_; have HO9028 := n1_; have BK9001 := n2_; have HB := n3_; clear n0_ n1_ n2_ n3_; (try clear hb); (try clear hb2); (try clear hk); (try clear hi); (try clear ho0); (try clear ho1); obtain ⟨Ao56, co56, eo56⟩ := Kd.R_slice HO9025.out; subst eo56; obtain ⟨Ao57, co57, eo57⟩ := Kd.R_slice HO9028.out; subst eo57) | (go_at_call 13; (with_reducible refine (dam_EmptyingOf.calls kj38 _ _ t9023 _ _ t9026 (wrap64 (a1 + 1)) t9029 t9030 _ ?side1 ?side2 ?side3 ?side4 A48.out).mono ?_); (case side1 => repeat (first | exact (Kd.R_reads' HO9025.out).2.2 | (with_reducible refine Kd.C_alloc ?_ _) | (with_reducible refine Kd.C_drewN ?_ _) | (with_reducible refine Kd.C_drew ?_))); (case side2 => exact (Kd.R_reads' HO9025.out).2.1); (case side3 => repeat (first | exact (Kd.R_reads' HO9028.out).2.2 | (with_reducible refine Kd.C_alloc ?_ _) | (with_reducible refine Kd.C_drewN ?_ _) | (with_reducible refine Kd.C_drew ?_))); (case side4 => exact (Kd.R_reads' HO9028.out).2.1); rintro e w58 ⟨rfl, hb⟩; have n0_ := Aside0.mk (Kd.R_below (by (with_reducible repeat (first | apply Kd.R_alloc | apply Kd.R_drewN | apply Kd.R_drew)); exact HO9025.out) hb); have n1_ := Aside0.mk (Kd.R_below (by (with_reducible repeat (first | apply Kd.R_alloc | apply Kd.R_drewN | apply Kd.R_drew)); exact HO9028.out) hb); have n2_ := Aside0.mk (blk_below (g := gb9001) (o := .cells #[.slice A0_0 l0_0.length c0_0, .slice A0_1 l0_1.length c0_1] 24 (0, 0)) (by (with_reducible repeat (first | refine blk_drewN ?_ _ | refine blk_drew ?_ | refine blk_alloc ?_ _)); exact BK9001.out) hb); have n3_ := Aside0.mk (below_step (by repeat (first | (with_reducible first | exact HB.out | apply below_alloc | apply pw_below_drewN | apply below_drew1 | refine below_set ?_ GE9001.out) | exact HB.out)) hb); clear HO9025; clear HO9028; clear BK9001; clear HB; have HO9025 := n0_; have HO9028 := n1_; have BK9001 := n2_; have HB := n3_; clear n0_ n1_ n2_ n3_; (try clear hb); (try clear hb2); (try clear hk); (try clear hi); have hcz59_0 : w58.cell? ⟨gb9001, 0, none⟩ = some (.slice A0_0 l0_0.length c0_0) := (blk_cell BK9001.out 0).trans rfl; have hcz59_1 : w58.cell? ⟨gb9001, 1, none⟩ = some (.slice A0_1 l0_1.length c0_1) := (blk_cell BK9001.out 1).trans rfl; have hfz59_0 := blk_frozen BK9001.out 0; have hfz59_1 := blk_frozen BK9001.out 1; have p9031 : 0 ≤ (a1 : Int) := of_decide_eq_true (by first | (with_reducible assumption) | assumption); have q9031 : a1 < (l0_0.length : Int) := of_decide_eq_true (by first | (with_reducible assumption) | assumption); obtain ⟨ad9031, e9031, hx9031_0⟩ := Kd.at_int HR0_0.out a1 p9031 q9031; cases e9031; replace hx9031_0 := (HB.out.cell (World.block_lt_of_cell? w _ hx9031_0)).trans hx9031_0; replace p9031 := eq_true p9031; replace q9031 := eq_true q9031; have p9032 : 0 ≤ (a1 : Int) := of_decide_eq_true (by first | (with_reducible assumption) | assumption); have q9032 : a1 < (l0_1.length : Int) := of_decide_eq_true (by first | (with_reducible assumption) | assumption); obtain ⟨ad9032, e9032, hx9032_0⟩ := Kd.at_int HR0_1.out a1 p9032 q9032; cases e9032; replace hx9032_0 := (HB.out.cell (World.block_lt_of_cell? w _ hx9032_0)).trans hx9032_0; replace p9032 := eq_true p9032; replace q9032 := eq_true q9032) | (go_at_call 17; (with_reducible refine (guidevanebase_Ceil.calls (rd l0_0 a1) (rd l0_1 a1) t9033 _ A53.out).mono ?_); rintro e w' ⟨rfl, ⟨nd, rfl⟩⟩; (try first | exact ⟨rfl, _, World.drewN_drewN _ _ _⟩ | exact ⟨rfl, _, Eq.trans (World.drewN_drewN _ _ _) (congrArg (World.drewN _) (Nat.add_assoc _ _ _))⟩))); try go_wp2_with (first | (go_at_call 12; (with_reducible refine (guidevaneref09_CopyBasin.calls _ _ l0_0 _ _ l0_1 t9023 t9026 _ ?side1 ?side2 ?side3 ?side4 A47.out).mono ?_); (case side1 => repeat (first | exact (Kd.C_below HR0_0.out HB.out) | (with_reducible refine Kd.C_alloc ?_ _) | (with_reducible refine Kd.C_drewN ?_ _) | (with_reducible refine Kd.C_drew ?_))); (case side2 => exact HC0_0.out); (case side3 => repeat (first | exact (Kd.C_below HR0_1.out HB.out) | (with_reducible refine Kd.C_alloc ?_ _) | (with_reducible refine Kd.C_drewN ?_ _) | (with_reducible refine Kd.C_drew ?_))); (case side4 => exact HC0_1.out); rintro e w55 ⟨v9024, v9027, rfl, ho0, ho1, hb⟩; have n0_ := Aside0.mk (Kd.R_lower ho0 (below_size (by repeat (first | (with_reducible first | exact HB.out | apply below_alloc | apply pw_below_drewN | apply below_drew1 | refine below_set ?_ GE9001.out) | exact HB.out)))); have n1_ := Aside0.mk (Kd.R_lower ho1 (below_size (by repeat (first | (with_reducible first | exact HB.out | apply below_alloc | apply pw_below_drewN | apply below_drew1 | refine below_set ?_ GE9001.out) | exact HB.out)))); have n2_ := Aside0.mk (blk_below (g := gb9001) (o := .cells #[.slice A0_0 l0_0.length c0_0, .slice A0_1 l0_1.length c0_1] 24 (0, 0)) (by (with_reducible repeat (first | refine blk_drewN ?_ _ | refine blk_drew ?_ | refine blk_alloc ?_ _)); exact BK9001.out) hb); have n3_ := Aside0.mk (below_step (by repeat (first | (with_reducible first | exact HB.out | apply below_alloc | apply pw_below_drewN | apply below_drew1 | refine below_set ?_ GE9001.out) | exact HB.out)) hb); clear BK9001; clear HB; have HO9025 := n0_; have HO9028 := n1_; have BK9001 := n2_; have HB := n3_; clear n0_ n1_ n2_ n3_; (try clear hb); (try clear hb2); (try clear hk); (try clear hi); (try clear ho0); (try clear ho1); obtain ⟨Ao56, co56, eo56⟩ := Kd.R_slice HO9025.out; subst eo56; obtain ⟨Ao57, co57, eo57⟩ := Kd.R_slice HO9028.out; subst eo57) | (go_at_call 13; (with_reducible refine (dam_EmptyingOf.calls kj38 _ _ t9023 _ _ t9026 (wrap64 (a1 + 1)) t9029 t9030 _ ?side1 ?side2 ?side3 ?side4 A48.out).mono ?_); (case side1 => repeat (first | exact (Kd.R_reads' HO9025.out).2.2 | (with_reducible refine Kd.C_alloc ?_ _) | (with_reducible refine Kd.C_drewN ?_ _) | (with_reducible refine Kd.C_drew ?_))); (case side2 => exact (Kd.R_reads' HO9025.out).2.1); (case side3 => repeat (first | exact (Kd.R_reads' HO9028.out).2.2 | (with_reducible refine Kd.C_alloc ?_ _) | (with_reducible refine Kd.C_drewN ?_ _) | (with_reducible refine Kd.C_drew ?_))); (case side4 => exact (Kd.R_reads' HO9028.out).2.1); rintro e w58 ⟨rfl, hb⟩; have n0_ := Aside0.mk (Kd.R_below (by (with_reducible repeat (first | apply Kd.R_alloc | apply Kd.R_drewN | apply Kd.R_drew)); exact HO9025.out) hb); have n1_ := Aside0.mk (Kd.R_below (by (with_reducible repeat (first | apply Kd.R_alloc | apply Kd.R_drewN | apply Kd.R_drew)); exact HO9028.out) hb); have n2_ := Aside0.mk (blk_below (g := gb9001) (o := .cells #[.slice A0_0 l0_0.length c0_0, .slice A0_1 l0_1.length c0_1] 24 (0, 0)) (by (with_reducible repeat (first | refine blk_drewN ?_ _ | refine blk_drew ?_ | refine blk_alloc ?_ _)); exact BK9001.out) hb); have n3_ := Aside0.mk (below_step (by repeat (first | (with_reducible first | exact HB.out | apply below_alloc | apply pw_below_drewN | apply below_drew1 | refine below_set ?_ GE9001.out) | exact HB.out)) hb); clear HO9025; clear HO9028; clear BK9001; clear HB; have HO9025 := n0_; have HO9028 := n1_; have BK9001 := n2_; have HB := n3_; clear n0_ n1_ n2_ n3_; (try clear hb); (try clear hb2); (try clear hk); (try clear hi); have hcz59_0 : w58.cell? ⟨gb9001, 0, none⟩ = some (.slice A0_0 l0_0.length c0_0) := (blk_cell BK9001.out 0).trans rfl; have hcz59_1 : w58.cell? ⟨gb9001, 1, none⟩ = some (.slice A0_1 l0_1.length c0_1) := (blk_cell BK9001.out 1).trans rfl; have hfz59_0 := blk_frozen BK9001.out 0; have hfz59_1 := blk_frozen BK9001.out 1; have p9031 : 0 ≤ (a1 : Int) := of_decide_eq_true (by first | (with_reducible assumption) | assumption); have q9031 : a1 < (l0_0.length : Int) := of_decide_eq_true (by first | (with_reducible assumption) | assumption); obtain ⟨ad9031, e9031, hx9031_0⟩ := Kd.at_int HR0_0.out a1 p9031 q9031; cases e9031; replace hx9031_0 := (HB.out.cell (World.block_lt_of_cell? w _ hx9031_0)).trans hx9031_0; replace p9031 := eq_true p9031; replace q9031 := eq_true q9031; have p9032 : 0 ≤ (a1 : Int) := of_decide_eq_true (by first | (with_reducible assumption) | assumption); have q9032 : a1 < (l0_1.length : Int) := of_decide_eq_true (by first | (with_reducible assumption) | assumption); obtain ⟨ad9032, e9032, hx9032_0⟩ := Kd.at_int HR0_1.out a1 p9032 q9032; cases e9032; replace hx9032_0 := (HB.out.cell (World.block_lt_of_cell? w _ hx9032_0)).trans hx9032_0; replace p9032 := eq_true p9032; replace q9032 := eq_true q9032) | (go_at_call 17; (with_reducible refine (guidevanebase_Ceil.calls (rd l0_0 a1) (rd l0_1 a1) t9033 _ A53.out).mono ?_); rintro e w' ⟨rfl, ⟨nd, rfl⟩⟩; (try first | exact ⟨rfl, _, World.drewN_drewN _ _ _⟩ | exact ⟨rfl, _, Eq.trans (World.drewN_drewN _ _ _) (congrArg (World.drewN _) (Nat.add_assoc _ _ _))⟩))))
                                          go_ret
                                          exact ⟨by first | rfl | (simp [errW_none, errW_some] <;> rfl) | (simp [*, errW_none, errW_some] <;> rfl), by repeat (first | (with_reducible first | exact HB.out | apply below_alloc | apply pw_below_drewN | apply below_drew1 | refine below_set ?_ GE9001.out) | exact HB.out)⟩
                                        · rw [if_neg c52] at H
                                          exact absurd H (by simp)
                                      · rw [if_neg c51] at H
                                        exact absurd H (by simp)
                                    · rw [if_neg c50] at H
                                      exact absurd H (by simp)
                                  · rw [if_neg c49] at H
                                    have c49b0 : (t9030 == 0) = false := beq_eq_false_iff_ne.mpr c49
                                    have c49b1 : (t9030 != 0) = true := bne_iff_ne.mpr c49
                                    obtain rfl := Option.some.inj H
                                    have hcz60_0 : wc.cell? ⟨gb9001, 0, none⟩ = some (.slice A0_0 l0_0.length c0_0) := (blk_cell BK9001.out 0).trans rfl
                                    have hcz60_1 : wc.cell? ⟨gb9001, 1, none⟩ = some (.slice A0_1 l0_1.length c0_1) := (blk_cell BK9001.out 1).trans rfl
                                    have hfz60_0 := blk_frozen BK9001.out 0
                                    have hfz60_1 := blk_frozen BK9001.out 1
                                    go_wp2_with (first | (go_at_call 12; (with_reducible refine (guidevaneref09_CopyBasin.calls _ _ l0_0 _ _ l0_1 t9023 t9026 _ ?side1 ?side2 ?side3 ?side4 A47.out).mono ?_); (case side1 => repeat (first | exact (Kd.C_below HR0_0.out HB.out) | (with_reducible refine Kd.C_alloc ?_ _) | (with_reducible refine Kd.C_drewN ?_ _) | (with_reducible refine Kd.C_drew ?_))); (case side2 => exact HC0_0.out); (case side3 => repeat (first | exact (Kd.C_below HR0_1.out HB.out) | (with_reducible refine Kd.C_alloc ?_ _) | (with_reducible refine Kd.C_drewN ?_ _) | (with_reducible refine Kd.C_drew ?_))); (case side4 => exact HC0_1.out); rintro e w61 ⟨v9024, v9027, rfl, ho0, ho1, hb⟩; have n0_ := Aside0.mk (Kd.R_lower ho0 (below_size (by repeat (first | (with_reducible first | exact HB.out | apply below_alloc | apply pw_below_drewN | apply below_drew1 | refine below_set ?_ GE9001.out) | exact HB.out)))); have n1_ := Aside0.mk (Kd.R_lower ho1 (below_size (by repeat (first | (with_reducible first | exact HB.out | apply below_alloc | apply pw_below_drewN | apply below_drew1 | refine below_set ?_ GE9001.out) | exact HB.out)))); have n2_ := Aside0.mk (blk_below (g := gb9001) (o := .cells #[.slice A0_0 l0_0.length c0_0, .slice A0_1 l0_1.length c0_1] 24 (0, 0)) (by (with_reducible repeat (first | refine blk_drewN ?_ _ | refine blk_drew ?_ | refine blk_alloc ?_ _)); exact BK9001.out) hb); have n3_ := Aside0.mk (below_step (by repeat (first | (with_reducible first | exact HB.out | apply below_alloc | apply pw_below_drewN | apply below_drew1 | refine below_set ?_ GE9001.out) | exact HB.out)) hb); clear BK9001; clear HB; have HO9025 := n0_; have HO9028 := n1_; have BK9001 := n2_; have HB := n3_; clear n0_ n1_ n2_ n3_; (try clear hb); (try clear hb2); (try clear hk); (try clear hi); (try clear ho0); (try clear ho1); obtain ⟨Ao62, co62, eo62⟩ := Kd.R_slice HO9025.out; subst eo62; obtain ⟨Ao63, co63, eo63⟩ := Kd.R_slice HO9028.out; subst eo63) | (go_at_call 13; (with_reducible refine (dam_EmptyingOf.calls kj38 _ _ t9023 _ _ t9026 (wrap64 (a1 + 1)) t9029 t9030 _ ?side1 ?side2 ?side3 ?side4 A48.out).mono ?_); (case side1 => repeat (first | exact (Kd.R_reads' HO9025.out).2.2 | (with_reducible refine Kd.C_alloc ?_ _) | (with_reducible refine Kd.C_drewN ?_ _) | (with_reducible refine Kd.C_drew ?_))); (case side2 => exact (Kd.R_reads' HO9025.out).2.1); (case side3 => repeat (first | exact (Kd.R_reads' HO9028.out).2.2 | (with_reducible refine Kd.C_alloc ?_ _) | (with_reducible refine Kd.C_drewN ?_ _) | (with_reducible refine Kd.C_drew ?_))); (case side4 => exact (Kd.R_reads' HO9028.out).2.1); rintro e w64 ⟨rfl, hb⟩; have n0_ := Aside0.mk (Kd.R_below (by (with_reducible repeat (first | apply Kd.R_alloc | apply Kd.R_drewN | apply Kd.R_drew)); exact HO9025.out) hb); have n1_ := Aside0.mk (Kd.R_below (by (with_reducible repeat (first | apply Kd.R_alloc | apply Kd.R_drewN | apply Kd.R_drew)); exact HO9028.out) hb); have n2_ := Aside0.mk (blk_below (g := gb9001) (o := .cells #[.slice A0_0 l0_0.length c0_0, .slice A0_1 l0_1.length c0_1] 24 (0, 0)) (by (with_reducible repeat (first | refine blk_drewN ?_ _ | refine blk_drew ?_ | refine blk_alloc ?_ _)); exact BK9001.out) hb); have n3_ := Aside0.mk (below_step (by repeat (first | (with_reducible first | exact HB.out | apply below_alloc | apply pw_below_drewN | apply below_drew1 | refine below_set ?_ GE9001.out) | exact HB.out)) hb); clear HO9025; clear HO9028; clear BK9001; clear HB; have HO9025 := n0_; have HO9028 := n1_; have BK9001 := n2_; have HB := n3_; clear n0_ n1_ n2_ n3_; (try clear hb); (try clear hb2); (try clear hk); (try clear hi)))
                                    repeat (go_quiet (first | (go_at_call 12; (with_reducible refine (guidevaneref09_CopyBasin.calls _ _ l0_0 _ _ l0_1 t9023 t9026 _ ?side1 ?side2 ?side3 ?side4 A47.out).mono ?_); (case side1 => repeat (first | exact (Kd.C_below HR0_0.out HB.out) | (with_reducible refine Kd.C_alloc ?_ _) | (with_reducible refine Kd.C_drewN ?_ _) | (with_reducible refine Kd.C_drew ?_))); (case side2 => exact HC0_0.out); (case side3 => repeat (first | exact (Kd.C_below HR0_1.out HB.out) | (with_reducible refine Kd.C_alloc ?_ _) | (with_reducible refine Kd.C_drewN ?_ _) | (with_reducible refine Kd.C_drew ?_))); (case side4 => exact HC0_1.out); rintro e w61 ⟨v9024, v9027, rfl, ho0, ho1, hb⟩; have n0_ := Aside0.mk (Kd.R_lower ho0 (below_size (by repeat (first | (with_reducible first | exact HB.out | apply below_alloc | apply pw_below_drewN | apply below_drew1 | refine below_set ?_ GE9001.out) | exact HB.out)))); have n1_ := Aside0.mk (Kd.R_lower ho1 (below_size (by repeat (first | (with_reducible first | exact HB.out | apply below_alloc | apply pw_below_drewN | apply below_drew1 | refine below_set ?_ GE9001.out) | exact HB.out)))); have n2_ := Aside0.mk (blk_below (g := gb9001) (o := .cells #[.slice A0_0 l0_0.length c0_0, .slice A0_1 l0_1.length c0_1] 24 (0, 0)) (by (with_reducible repeat (first | refine blk_drewN ?_ _ | refine blk_drew ?_ | refine blk_alloc ?_ _)); exact BK9001.out) hb); have n3_ := Aside0.mk (below_step (by repeat (first | (with_reducible first | exact HB.out | apply below_alloc | apply pw_below_drewN | apply below_drew1 | refine below_set ?_ GE9001.out) | exact HB.out)) hb); clear BK9001; clear HB; have HO9025 := n0_; have HO9028 := n1_; have BK9001 := n2_; have HB := n3_; clear n0_ n1_ n2_ n3_; (try clear hb); (try clear hb2); (try clear hk); (try clear hi); (try clear ho0); (try clear ho1); obtain ⟨Ao62, co62, eo62⟩ := Kd.R_slice HO9025.out; subst eo62; obtain ⟨Ao63, co63, eo63⟩ := Kd.R_slice HO9028.out; subst eo63) | (go_at_call 13; (with_reducible refine (dam_EmptyingOf.calls kj38 _ _ t9023 _ _ t9026 (wrap64 (a1 + 1)) t9029 t9030 _ ?side1 ?side2 ?side3 ?side4 A48.out).mono ?_); (case side1 => repeat (first | exact (Kd.R_reads' HO9025.out).2.2 | (with_reducible refine Kd.C_alloc ?_ _) | (with_reducible refine Kd.C_drewN ?_ _) | (with_reducible refine Kd.C_drew ?_))); (case side2 => exact (Kd.R_reads' HO9025.out).2.1); (case side3 => repeat (first | exact (Kd.R_reads' HO9028.out).2.2 | (with_reducible refine Kd.C_alloc ?_ _) | (with_reducible refine Kd.C_drewN ?_ _) | (with_reducible refine Kd.C_drew ?_))); (case side4 => exact (Kd.R_reads' HO9028.out).2.1); rintro e w64 ⟨rfl, hb⟩; have n0_ := Aside0.mk (Kd.R_below (by (with_reducible repeat (first | apply Kd.R_alloc | apply Kd.R_drewN | apply Kd.R_drew)); exact HO9025.out) hb); have n1_ := Aside0.mk (Kd.R_below (by (with_reducible repeat (first | apply Kd.R_alloc | apply Kd.R_drewN | apply Kd.R_drew)); exact HO9028.out) hb); have n2_ := Aside0.mk (blk_below (g := gb9001) (o := .cells #[.slice A0_0 l0_0.length c0_0, .slice A0_1 l0_1.length c0_1] 24 (0, 0)) (by (with_reducible repeat (first | refine blk_drewN ?_ _ | refine blk_drew ?_ | refine blk_alloc ?_ _)); exact BK9001.out) hb); have n3_ := Aside0.mk (below_step (by repeat (first | (with_reducible first | exact HB.out | apply below_alloc | apply pw_below_drewN | apply below_drew1 | refine below_set ?_ GE9001.out) | exact HB.out)) hb); clear HO9025; clear HO9028; clear BK9001; clear HB; have HO9025 := n0_; have HO9028 := n1_; have BK9001 := n2_; have HB := n3_; clear n0_ n1_ n2_ n3_; (try clear hb); (try clear hb2); (try clear hk); (try clear hi))); try go_wp2_with (first | (go_at_call 12; (with_reducible refine (guidevaneref09_CopyBasin.calls _ _ l0_0 _ _ l0_1 t9023 t9026 _ ?side1 ?side2 ?side3 ?side4 A47.out).mono ?_); (case side1 => repeat (first | exact (Kd.C_below HR0_0.out HB.out) | (with_reducible refine Kd.C_alloc ?_ _) | (with_reducible refine Kd.C_drewN ?_ _) | (with_reducible refine Kd.C_drew ?_))); (case side2 => exact HC0_0.out); (case side3 => repeat (first | exact (Kd.C_below HR0_1.out HB.out) | (with_reducible refine Kd.C_alloc ?_ _) | (with_reducible refine Kd.C_drewN ?_ _) | (with_reducible refine Kd.C_drew ?_))); (case side4 => exact HC0_1.out); rintro e w61 ⟨v9024, v9027, rfl, ho0, ho1, hb⟩; have n0_ := Aside0.mk (Kd.R_lower ho0 (below_size (by repeat (first | (with_reducible first | exact HB.out | apply below_alloc | apply pw_below_drewN | apply below_drew1 | refine below_set ?_ GE9001.out) | exact HB.out)))); have n1_ := Aside0.mk (Kd.R_lower ho1 (below_size (by repeat (first | (with_reducible first | exact HB.out | apply below_alloc | apply pw_below_drewN | apply below_drew1 | refine below_set ?_ GE9001.out) | exact HB.out)))); have n2_ := Aside0.mk (blk_below (g := gb9001) (o := .cells #[.slice A0_0 l0_0.length c0_0, .slice A0_1 l0_1.length c0_1] 24 (0, 0)) (by (with_reducible repeat (first | refine blk_drewN ?_ _ | refine blk_drew ?_ | refine blk_alloc ?_ _)); exact BK9001.out) hb); have n3_ := Aside0.mk (below_step (by repeat (first | (with_reducible first | exact HB.out | apply below_alloc | apply pw_below_drewN | apply below_drew1 | refine below_set ?_ GE9001.out) | exact HB.out)) hb); clear BK9001; clear HB; have HO9025 := n0_; have HO9028 := n1_; have BK9001 := n2_; have HB := n3_; clear n0_ n1_ n2_ n3_; (try clear hb); (try clear hb2); (try clear hk); (try clear hi); (try clear ho0); (try clear ho1); obtain ⟨Ao62, co62, eo62⟩ := Kd.R_slice HO9025.out; subst eo62; obtain ⟨Ao63, co63, eo63⟩ := Kd.R_slice HO9028.out; subst eo63) | (go_at_call 13; (with_reducible refine (dam_EmptyingOf.calls kj38 _ _ t9023 _ _ t9026 (wrap64 (a1 + 1)) t9029 t9030 _ ?side1 ?side2 ?side3 ?side4 A48.out).mono ?_); (case side1 => repeat (first | exact (Kd.R_reads' HO9025.out).2.2 | (with_reducible refine Kd.C_alloc ?_ _) | (with_reducible refine Kd.C_drewN ?_ _) | (with_reducible refine Kd.C_drew ?_))); (case side2 => exact (Kd.R_reads' HO9025.out).2.1); (case side3 => repeat (first | exact (Kd.R_reads' HO9028.out).2.2 | (with_reducible refine Kd.C_alloc ?_ _) | (with_reducible refine Kd.C_drewN ?_ _) | (with_reducible refine Kd.C_drew ?_))); (case side4 => exact (Kd.R_reads' HO9028.out).2.1); rintro e w64 ⟨rfl, hb⟩; have n0_ := Aside0.mk (Kd.R_below (by (with_reducible repeat (first | apply Kd.R_alloc | apply Kd.R_drewN | apply Kd.R_drew)); exact HO9025.out) hb); have n1_ := Aside0.mk (Kd.R_below (by (with_reducible repeat (first | apply Kd.R_alloc | apply Kd.R_drewN | apply Kd.R_drew)); exact HO9028.out) hb); have n2_ := Aside0.mk (blk_below (g := gb9001) (o := .cells #[.slice A0_0 l0_0.length c0_0, .slice A0_1 l0_1.length c0_1] 24 (0, 0)) (by (with_reducible repeat (first | refine blk_drewN ?_ _ | refine blk_drew ?_ | refine blk_alloc ?_ _)); exact BK9001.out) hb); have n3_ := Aside0.mk (below_step (by repeat (first | (with_reducible first | exact HB.out | apply below_alloc | apply pw_below_drewN | apply below_drew1 | refine below_set ?_ GE9001.out) | exact HB.out)) hb); clear HO9025; clear HO9028; clear BK9001; clear HB; have HO9025 := n0_; have HO9028 := n1_; have BK9001 := n2_; have HB := n3_; clear n0_ n1_ n2_ n3_; (try clear hb); (try clear hb2); (try clear hk); (try clear hi))))
                                    go_ret
                                    exact ⟨by first | rfl | (simp [errW_none, errW_some] <;> rfl) | (simp [*, errW_none, errW_some] <;> rfl), by repeat (first | (with_reducible first | exact HB.out | apply below_alloc | apply pw_below_drewN | apply below_drew1 | refine below_set ?_ GE9001.out) | exact HB.out)⟩
                        · rw [if_neg c38] at H
                          have c38b0 : (x10_35 == 0) = false := beq_eq_false_iff_ne.mpr c38
                          have c38b1 : (x10_35 != 0) = true := bne_iff_ne.mpr c38
                          by_cases c65 : t9018 = x10_35
                          · rw [if_pos c65] at H
                            have c65b0 : (t9018 == x10_35) = true := beq_iff_eq.mpr c65
                            have c65b1 : (t9018 != x10_35) = false := bne_eq_false_iff_eq.mpr c65
                            clear c65
                            obtain rfl := Option.some.inj H
                            go_wp2
                            repeat (go_quiet (fail); try go_wp2)
                            go_ret
                            exact ⟨by first | rfl | (simp [errW_none, errW_some] <;> rfl) | (simp [*, errW_none, errW_some] <;> rfl), by repeat (first | (with_reducible first | exact HB.out | apply below_alloc | apply pw_below_drewN | apply below_drew1 | refine below_set ?_ GE9001.out) | exact HB.out)⟩
                          · rw [if_neg c65] at H
                            have c65b0 : (t9018 == x10_35) = false := beq_eq_false_iff_ne.mpr c65
                            have c65b1 : (t9018 != x10_35) = true := bne_iff_ne.mpr c65
                            obtain rfl := Option.some.inj H
                            go_wp2
                            repeat (go_quiet (fail); try go_wp2)
                            go_ret
                            exact ⟨by first | rfl | (simp [errW_none, errW_some] <;> rfl) | (simp [*, errW_none, errW_some] <;> rfl), by repeat (first | (with_reducible first | exact HB.out | apply below_alloc | apply pw_below_drewN | apply below_drew1 | refine below_set ?_ GE9001.out) | exact HB.out)⟩
  · replace c4 := Bool.eq_false_iff.mpr c4
    subst c4
    have H1 : (some false) = some r := by rw [if_neg (show ¬ (false = true) by decide)] at H; exact H
    clear H
    have H := H1
    clear H1
    obtain rfl := Option.some.inj H
    go_enter Try.func3, Try.ntmps3
    go_wp2_with (first | ((with_reducible refine gate_dst (N := 2) rfl ?_); (try (refine gate_guard (by rfl) ?_; dsimp only)); refine box_event ?hg (N := 2) ?hd (cs := #[.slice A0_0 l0_0.length c0_0, .slice A0_1 l0_1.length c0_1]) (t := 24) ?hr ?_; (case hd => rfl); (case hg => rfl); (case hr => first | (go_simp; done) | (go_simp; rfl)); intro gb9001 hg w66 hbox hb; have n0_ := Aside0.mk (below_step (by repeat (first | (with_reducible first | exact HB.out | apply below_alloc | apply pw_below_drewN | apply below_drew1) | exact HB.out)) hb); have n1_ := Aside0.mk (hbox); have n2_ := Aside0.mk ((by rw [hg]; exact (below_size (by repeat (first | (with_reducible first | exact HB.out | apply below_alloc | apply pw_below_drewN | apply below_drew1) | exact HB.out))) : w.heap.size ≤ gb9001)); have n3_ := Aside0.mk ((by rw [hg]; exact (below_size (by repeat (first | (with_reducible first | exact HB.out | apply below_alloc | apply pw_below_drewN | apply below_drew1) | exact HB.out))) : w.heap.size ≤ gb9001)); clear HB; have HB := n0_; have BK9001 := n1_; have GW9001 := n2_; have GE9001 := n3_; clear n0_ n1_ n2_ n3_; clear hb hbox hg) | (go_at_call 10; (with_reducible refine (guidevanelaw09_awake.calls  false _ A3.out).mono ?_); rintro e w67 ⟨rfl, hb⟩; have n0_ := Aside0.mk (blk_below (g := gb9001) (o := .cells #[.slice A0_0 l0_0.length c0_0, .slice A0_1 l0_1.length c0_1] 24 (0, 0)) (by (with_reducible repeat (first | refine blk_drewN ?_ _ | refine blk_drew ?_ | refine blk_alloc ?_ _)); exact BK9001.out) hb); have n1_ := Aside0.mk (below_step (by repeat (first | (with_reducible first | exact HB.out | apply below_alloc | apply pw_below_drewN | apply below_drew1 | refine below_set ?_ GE9001.out) | exact HB.out)) hb); clear BK9001; clear HB; have BK9001 := n0_; have HB := n1_; clear n0_ n1_; (try clear hb); (try clear hb2); (try clear hk); (try clear hi)))
    repeat (go_quiet (first | ((with_reducible refine gate_dst (N := 2) rfl ?_); (try (refine gate_guard (by rfl) ?_; dsimp only)); refine box_event ?hg (N := 2) ?hd (cs := #[.slice A0_0 l0_0.length c0_0, .slice A0_1 l0_1.length c0_1]) (t := 24) ?hr ?_; (case hd => rfl); (case hg => rfl); (case hr => first | (go_simp; done) | (go_simp; rfl)); intro gb9001 hg w66 hbox hb; have n0_ := Aside0.mk (below_step (by repeat (first | (with_reducible first | exact HB.out | apply below_alloc | apply pw_below_drewN | apply below_drew1) | exact HB.out)) hb); have n1_ := Aside0.mk (hbox); have n2_ := Aside0.mk ((by rw [hg]; exact (below_size (by repeat (first | (with_reducible first | exact HB.out | apply below_alloc | apply pw_below_drewN | apply below_drew1) | exact HB.out))) : w.heap.size ≤ gb9001)); have n3_ := Aside0.mk ((by rw [hg]; exact (below_size (by repeat (first | (with_reducible first | exact HB.out | apply below_alloc | apply pw_below_drewN | apply below_drew1) | exact HB.out))) : w.heap.size ≤ gb9001)); clear HB; have HB := n0_; have BK9001 := n1_; have GW9001 := n2_; have GE9001 := n3_; clear n0_ n1_ n2_ n3_; clear hb hbox hg) | (go_at_call 10; (with_reducible refine (guidevanelaw09_awake.calls  false _ A3.out).mono ?_); rintro e w67 ⟨rfl, hb⟩; have n0_ := Aside0.mk (blk_below (g := gb9001) (o := .cells #[.slice A0_0 l0_0.length c0_0, .slice A0_1 l0_1.length c0_1] 24 (0, 0)) (by (with_reducible repeat (first | refine blk_drewN ?_ _ | refine blk_drew ?_ | refine blk_alloc ?_ _)); exact BK9001.out) hb); have n1_ := Aside0.mk (below_step (by repeat (first | (with_reducible first | exact HB.out | apply below_alloc | apply pw_below_drewN | apply below_drew1 | refine below_set ?_ GE9001.out) | exact HB.out)) hb); clear BK9001; clear HB; have BK9001 := n0_; have HB := n1_; clear n0_ n1_; (try clear hb); (try clear hb2); (try clear hk); (try clear hi))); try go_wp2_with (first | ((with_reducible refine gate_dst (N := 2) rfl ?_); (try (refine gate_guard (by rfl) ?_; dsimp only)); refine box_event ?hg (N := 2) ?hd (cs := #[.slice A0_0 l0_0.length c0_0, .slice A0_1 l0_1.length c0_1]) (t := 24) ?hr ?_; (case hd => rfl); (case hg => rfl); (case hr => first | (go_simp; done) | (go_simp; rfl)); intro gb9001 hg w66 hbox hb; have n0_ := Aside0.mk (below_step (by repeat (first | (with_reducible first | exact HB.out | apply below_alloc | apply pw_below_drewN | apply below_drew1) | exact HB.out)) hb); have n1_ := Aside0.mk (hbox); have n2_ := Aside0.mk ((by rw [hg]; exact (below_size (by repeat (first | (with_reducible first | exact HB.out | apply below_alloc | apply pw_below_drewN | apply below_drew1) | exact HB.out))) : w.heap.size ≤ gb9001)); have n3_ := Aside0.mk ((by rw [hg]; exact (below_size (by repeat (first | (with_reducible first | exact HB.out | apply below_alloc | apply pw_below_drewN | apply below_drew1) | exact HB.out))) : w.heap.size ≤ gb9001)); clear HB; have HB := n0_; have BK9001 := n1_; have GW9001 := n2_; have GE9001 := n3_; clear n0_ n1_ n2_ n3_; clear hb hbox hg) | (go_at_call 10; (with_reducible refine (guidevanelaw09_awake.calls  false _ A3.out).mono ?_); rintro e w67 ⟨rfl, hb⟩; have n0_ := Aside0.mk (blk_below (g := gb9001) (o := .cells #[.slice A0_0 l0_0.length c0_0, .slice A0_1 l0_1.length c0_1] 24 (0, 0)) (by (with_reducible repeat (first | refine blk_drewN ?_ _ | refine blk_drew ?_ | refine blk_alloc ?_ _)); exact BK9001.out) hb); have n1_ := Aside0.mk (below_step (by repeat (first | (with_reducible first | exact HB.out | apply below_alloc | apply pw_below_drewN | apply below_drew1 | refine below_set ?_ GE9001.out) | exact HB.out)) hb); clear BK9001; clear HB; have BK9001 := n0_; have HB := n1_; clear n0_ n1_; (try clear hb); (try clear hb2); (try clear hk); (try clear hi))))
    go_ret
    exact ⟨by first | rfl | (simp [errW_none, errW_some] <;> rfl) | (simp [*, errW_none, errW_some] <;> rfl), by repeat (first | (with_reducible first | exact HB.out | apply below_alloc | apply pw_below_drewN | apply below_drew1 | refine below_set ?_ GE9001.out) | exact HB.out)⟩

end Go.Proofs.Yteopooljohdoiaa.Px

/- DamBasins' pure law: which basins are valid, and the time to empty layers, are as the reference has them. -/
set_option linter.unusedVariables false
set_option linter.unusedSimpArgs false
namespace Go.Proofs.Yteopooljohdoiaa.Px
open Go.RowKit Go.Proofs.YteopooljohdoiaaW.PrintWords Go.Proofs.YteopooljohdoiaaW.PrintLast

def badLayer (vs os : List Int) (i : Nat) : Bool := !(decide (0 ≤ vs.getD i 0) && decide (vs.getD i 0 ≤ 1000000000)) || !(decide (1 ≤ os.getD i 0) && decide (os.getD i 0 ≤ 1000000000))
def basinOut (vs os : List Int) : Int × Int := if vs.length = 0 ∨ os.length ≠ vs.length then (0, 10) else if 20 < vs.length then (0, 8) else firstAt (badLayer vs os) 2 0 vs.length
theorem checkBasin_go (vs os : List Int) (hl : vs.length ≤ 1000) (ho : os.length = vs.length) : ∀ (d i k : Nat), i + d = vs.length → d < k → dam_CheckBasin.l0 k vs (vs.length : Int) (i : Int) vs os = some (firstAt (badLayer vs os) 2 i d) := by
  intro d
  induction d with
  | zero =>
    intro i k hi hk
    obtain ⟨k, rfl⟩ : ∃ m, k = m + 1 := ⟨k - 1, by omega⟩
    simp only [dam_CheckBasin.l0]
    rw [if_neg (by omega)]; rfl
  | succ d ih =>
    intro i k hi hk
    obtain ⟨k, rfl⟩ : ∃ m, k = m + 1 := ⟨k - 1, by omega⟩
    simp only [dam_CheckBasin.l0]
    rw [if_pos (by omega), if_pos (by omega), if_pos (by omega), dwithin_f, dwithin_f, rd_nat, rd_nat]
    rw [show firstAt (badLayer vs os) 2 i (d + 1) = if badLayer vs os i = true then ((i : Int), 2) else firstAt (badLayer vs os) 2 (i + 1) d from rfl]
    rw [show badLayer vs os i = (!(decide (0 ≤ vs.getD i 0) && decide (vs.getD i 0 ≤ 1000000000)) || !(decide (1 ≤ os.getD i 0) && decide (os.getD i 0 ≤ 1000000000))) from rfl]
    simp only [Option.bind_some]
    cases (decide (0 ≤ vs.getD i 0) && decide (vs.getD i 0 ≤ 1000000000))
    · rfl
    · rw [if_pos rfl, if_pos (by omega)]
      cases (decide (1 ≤ os.getD i 0) && decide (os.getD i 0 ≤ 1000000000))
      · rfl
      · rw [if_pos rfl, if_neg (by decide), pw64 (by omega) (by omega), show ((i : Int) + 1) = ((i + 1 : Nat) : Int) from rfl, ih (i + 1) k (by omega) (by omega)]
theorem refBasin_go (vs os : List Int) (hl : vs.length ≤ 1000) (ho : os.length = vs.length) : ∀ (d i k : Nat), i + d = vs.length → d < k → guidevaneref09_CheckBasin.l0 k (i : Int) vs os = some (firstAt (badLayer vs os) 2 i d) := by
  intro d
  induction d with
  | zero =>
    intro i k hi hk
    obtain ⟨k, rfl⟩ : ∃ m, k = m + 1 := ⟨k - 1, by omega⟩
    simp only [guidevaneref09_CheckBasin.l0]
    rw [if_neg (by omega)]; rfl
  | succ d ih =>
    intro i k hi hk
    obtain ⟨k, rfl⟩ : ∃ m, k = m + 1 := ⟨k - 1, by omega⟩
    simp only [guidevaneref09_CheckBasin.l0]
    rw [if_pos (by omega), if_pos (by omega), bwithin_f, bwithin_f, rd_nat, rd_nat]
    rw [show firstAt (badLayer vs os) 2 i (d + 1) = if badLayer vs os i = true then ((i : Int), 2) else firstAt (badLayer vs os) 2 (i + 1) d from rfl]
    rw [show badLayer vs os i = (!(decide (0 ≤ vs.getD i 0) && decide (vs.getD i 0 ≤ 1000000000)) || !(decide (1 ≤ os.getD i 0) && decide (os.getD i 0 ≤ 1000000000))) from rfl]
    simp only [Option.bind_some]
    cases (decide (0 ≤ vs.getD i 0) && decide (vs.getD i 0 ≤ 1000000000))
    · rfl
    · rw [if_pos rfl, if_pos (by omega)]
      cases (decide (1 ≤ os.getD i 0) && decide (os.getD i 0 ≤ 1000000000))
      · rfl
      · rw [if_pos rfl, if_neg (by decide), pw64 (by omega) (by omega), show ((i : Int) + 1) = ((i + 1 : Nat) : Int) from rfl, ih (i + 1) k (by omega) (by omega)]
theorem checkBasin_f (vs os : List Int) (k : Nat) (hv : vs.length ≤ 22) (ho : os.length ≤ 22) (hk : 40 < k) : dam_CheckBasin.f k vs os = some (basinOut vs os) := by
  obtain ⟨k, rfl⟩ : ∃ m, k = m + 1 := ⟨k - 1, by omega⟩
  unfold dam_CheckBasin.f basinOut
  simp only [dunless_f, Option.bind_some]
  rw [dfirst_f _ _ (by simp) (by simp; omega), dfirst_f _ _ (by simp) (by simp; omega)]
  simp only [Option.bind_some, dam_CheckBasin.j0]
  by_cases h0 : vs.length = 0
  · rw [if_neg (by omega), if_pos (show vs.length = 0 ∨ os.length ≠ vs.length from .inl h0)]; rfl
  · rw [if_pos (by omega)]
    by_cases h1 : os.length = vs.length
    · rw [if_neg (show ¬ (vs.length = 0 ∨ os.length ≠ vs.length) by omega)]
      have hb : ((os.length : Int) == (vs.length : Int)) = true := beq_iff_eq.2 (by omega)
      rw [hb]
      by_cases h2 : 20 < vs.length
      · rw [if_pos h2, show decide ((vs.length : Int) ≤ 20) = false from decide_eq_false (by omega)]; rfl
      · rw [if_neg h2, show decide ((vs.length : Int) ≤ 20) = true from decide_eq_true (by omega), show firstE [if true = true then 0 else 10, if true = true then 0 else 8] = 0 from rfl, if_pos rfl]
        exact checkBasin_go vs os (by omega) h1 vs.length 0 k (by omega) (by omega)
    · rw [if_pos (show vs.length = 0 ∨ os.length ≠ vs.length from .inr h1)]
      have hb : ((os.length : Int) == (vs.length : Int)) = false := beq_eq_false_iff_ne.2 (by omega)
      rw [hb]; rfl
theorem refBasin_f (vs os : List Int) (k : Nat) (hv : vs.length ≤ 22) (ho : os.length ≤ 22) (hk : 40 < k) : guidevaneref09_CheckBasin.f k vs os = some (basinOut vs os) := by
  obtain ⟨k, rfl⟩ : ∃ m, k = m + 1 := ⟨k - 1, by omega⟩
  unfold guidevaneref09_CheckBasin.f basinOut
  simp only [guidevaneref09_CheckBasin.j0]
  by_cases h0 : vs.length = 0
  · rw [if_pos (by omega), if_pos (show vs.length = 0 ∨ os.length ≠ vs.length from .inl h0)]; rfl
  · rw [if_neg (by omega)]
    by_cases h1 : os.length = vs.length
    · rw [if_neg (show ¬ (vs.length = 0 ∨ os.length ≠ vs.length) by omega)]
      have hb : ((os.length : Int) != (vs.length : Int)) = false := by rw [bne_eq_false_iff_eq]; omega
      rw [hb, if_neg (by decide)]
      by_cases h2 : 20 < vs.length
      · rw [if_pos h2, if_pos (by omega)]
      · rw [if_neg h2, if_neg (by omega)]
        exact refBasin_go vs os (by omega) h1 vs.length 0 k (by omega) (by omega)
    · rw [if_pos (show vs.length = 0 ∨ os.length ≠ vs.length from .inr h1)]
      have hb : ((os.length : Int) != (vs.length : Int)) = true := by rw [bne_iff_ne]; omega
      rw [hb]; rfl
def cl (v o : Int) : Int := (v + o - 1) / o
theorem cl_bd {v o : Int} (h1 : 0 ≤ v) (h2 : v ≤ 1000000000) (h3 : 1 ≤ o) : 0 ≤ cl v o ∧ cl v o ≤ 1000000000 := by
  unfold cl
  refine ⟨Int.ediv_nonneg (by omega) (by omega), ?_⟩
  rcases (show v < 1 ∨ 1 ≤ v by omega) with h | h
  · obtain rfl : v = 0 := by omega
    rw [Int.ediv_eq_zero_of_lt (by omega) (by omega)]; omega
  · have h4 : (v + o - 1) / o ≤ (v * o) / o := by
      apply Int.ediv_le_ediv (by omega)
      have := Int.mul_le_mul (show (1 : Int) ≤ v from h) (show (1 : Int) ≤ o from h3) (by omega) (by omega)
      have h6 : 0 ≤ (v - 1) * (o - 1) := Int.mul_nonneg (by omega) (by omega)
      rw [Int.sub_mul, Int.mul_sub] at h6
      omega
    rw [Int.mul_ediv_cancel _ (by omega)] at h4
    omega
theorem cl_split {v o : Int} (h1 : 0 ≤ v) (h3 : 1 ≤ o) : cl v o = v / o + if 0 < v % o then 1 else 0 := by
  unfold cl
  have hm := Int.emod_add_mul_ediv v o
  have hr := Int.emod_nonneg v (show o ≠ 0 by omega)
  have hr2 := Int.emod_lt_of_pos v (show 0 < o by omega)
  have he : v + o - 1 = (v % o + o - 1) + o * (v / o) := by omega
  rw [he, Int.add_mul_ediv_left _ _ (by omega)]
  by_cases h : 0 < v % o
  · rw [if_pos h]
    have : v % o + o - 1 = (v % o - 1) + o * 1 := by omega
    rw [this, Int.add_mul_ediv_left _ _ (by omega), Int.ediv_eq_zero_of_lt (by omega) (by omega)]
    omega
  · rw [if_neg h, Int.ediv_eq_zero_of_lt (by omega) (by omega)]
    omega
theorem ceil_f {v o : Int} (h1 : 0 ≤ v) (h2 : v ≤ 1000000000) (h3 : 1 ≤ o) (h4 : o ≤ 1000000000) : guidevanebase_Ceil.f v o = some (cl v o) := by
  unfold guidevanebase_Ceil.f guidevanebase_Floor.f
  have hq : 0 ≤ v / o ∧ v / o ≤ v := ⟨Int.ediv_nonneg h1 (by omega), Int.ediv_le_self _ h1⟩
  rw [pw64 (n := -v) (by omega) (by omega), if_neg (by omega), Int.neg_tdiv, Int.neg_tmod, Int.tdiv_eq_ediv_of_nonneg h1, Int.tmod_eq_emod_of_nonneg h1, pw64 (n := -(v / o)) (by omega) (by omega), cl_split h1 h3]
  have hr := Int.emod_nonneg v (show o ≠ 0 by omega)
  by_cases h : 0 < v % o
  · rw [if_pos (by omega), if_pos h]
    simp only [Option.bind_some, Option.some.injEq]
    unfold wrap64; omega
  · rw [if_neg (by omega), if_neg h]
    simp only [Option.bind_some, Option.some.injEq]
    unfold wrap64; omega
def timeTo (vs os : List Int) : Nat → Int
  | 0 => 0
  | i + 1 => timeTo vs os i + cl (vs.getD i 0) (os.getD i 0)
def okLayers (vs os : List Int) : Prop := os.length = vs.length ∧ 0 < vs.length ∧ vs.length ≤ 20 ∧ ∀ j, j < vs.length → (0 ≤ vs.getD j 0 ∧ vs.getD j 0 ≤ 1000000000) ∧ (1 ≤ os.getD j 0 ∧ os.getD j 0 ≤ 1000000000)
theorem timeTo_bd {vs os : List Int} (h : okLayers vs os) : ∀ i, i ≤ vs.length → 0 ≤ timeTo vs os i ∧ timeTo vs os i ≤ 1000000000 * i
  | 0, _ => by simp [timeTo]
  | i + 1, hi => by
    have h1 := timeTo_bd h i (by omega)
    have h2 := h.2.2.2 i (by omega)
    have h3 := cl_bd h2.1.1 h2.1.2 h2.2.1
    unfold timeTo
    omega
theorem emptying_go (vs os : List Int) (h : okLayers vs os) (m : Nat) (hm : m ≤ vs.length) : ∀ (d i k : Nat), i + d = m → d < k → dam_EmptyingOf.l0 k (timeTo vs os i) (vs.take m) ((vs.take m).length : Int) (i : Int) vs os = some (timeTo vs os m, 0) := by
  have hlt : (vs.take m).length = m := by simp; omega
  have hl := h.2.2.1
  have ho := h.1
  rw [hlt]
  intro d
  induction d with
  | zero =>
    intro i k hi hk
    obtain ⟨k, rfl⟩ : ∃ m, k = m + 1 := ⟨k - 1, by omega⟩
    obtain rfl : i = m := by omega
    simp only [dam_EmptyingOf.l0]
    rw [if_neg (by omega)]
  | succ d ih =>
    intro i k hi hk
    obtain ⟨k, rfl⟩ : ∃ m, k = m + 1 := ⟨k - 1, by omega⟩
    have hv := h.2.2.2 i (by omega)
    have ht := timeTo_bd h i (by omega)
    have hc := cl_bd hv.1.1 hv.1.2 hv.2.1
    simp only [dam_EmptyingOf.l0]
    rw [if_pos (by omega), if_pos (by omega), if_pos (by omega), if_pos (by omega), rd_nat, rd_nat]
    have e1 : (vs.take m).getD i 0 = vs.getD i 0 := by
      rw [List.getD_eq_getElem?_getD, List.getD_eq_getElem?_getD, List.getElem?_take, if_pos (by omega)]
    rw [e1, if_neg (by omega), pw64 (n := vs.getD i 0 + os.getD i 0) (by omega) (by omega), pw64 (n := vs.getD i 0 + os.getD i 0 - 1) (by omega) (by omega), Int.tdiv_eq_ediv_of_nonneg (by omega),
      show (vs.getD i 0 + os.getD i 0 - 1) / os.getD i 0 = cl (vs.getD i 0) (os.getD i 0) from rfl, pw64 (n := cl (vs.getD i 0) (os.getD i 0)) (by omega) (by omega),
      pw64 (n := timeTo vs os i + cl (vs.getD i 0) (os.getD i 0)) (by omega) (by omega), pw64 (n := (i : Int) + 1) (by omega) (by omega), show ((i : Int) + 1) = ((i + 1 : Nat) : Int) from rfl]
    exact ih (i + 1) k (by omega) (by omega)
theorem refEmpty_go (vs os : List Int) (h : okLayers vs os) (m : Nat) (hm : m ≤ vs.length) : ∀ (d i k : Nat), i + d = m → d < k → guidevaneref09_Emptying.l0 k (m : Int) (timeTo vs os i) (i : Int) vs os = some (timeTo vs os m) := by
  have hl := h.2.2.1
  have ho := h.1
  intro d
  induction d with
  | zero =>
    intro i k hi hk
    obtain ⟨k, rfl⟩ : ∃ m, k = m + 1 := ⟨k - 1, by omega⟩
    obtain rfl : i = m := by omega
    simp only [guidevaneref09_Emptying.l0]
    rw [if_neg (by omega)]
  | succ d ih =>
    intro i k hi hk
    obtain ⟨k, rfl⟩ : ∃ m, k = m + 1 := ⟨k - 1, by omega⟩
    have hv := h.2.2.2 i (by omega)
    have ht := timeTo_bd h i (by omega)
    have hc := cl_bd hv.1.1 hv.1.2 hv.2.1
    simp only [guidevaneref09_Emptying.l0]
    rw [if_pos (by omega), if_pos (by omega), if_pos (by omega), if_pos (by omega), rd_nat, rd_nat, ceil_f hv.1.1 hv.1.2 hv.2.1 hv.2.2]
    simp only [Option.bind_some]
    rw [pw64 (n := timeTo vs os i + cl (vs.getD i 0) (os.getD i 0)) (by omega) (by omega), pw64 (n := (i : Int) + 1) (by omega) (by omega), show ((i : Int) + 1) = ((i + 1 : Nat) : Int) from rfl]
    exact ih (i + 1) k (by omega) (by omega)
theorem basin_cases (vs os : List Int) : (okLayers vs os ∧ (basinOut vs os).2 = 0) ∨ ¬ (basinOut vs os).2 = 0 := by
  unfold basinOut
  by_cases h : vs.length = 0 ∨ os.length ≠ vs.length
  · rw [if_pos h]; exact .inr (by decide)
  · rw [if_neg h]
    by_cases h2 : 20 < vs.length
    · rw [if_pos h2]; exact .inr (by decide)
    · rw [if_neg h2]
      rcases firstAt_err (badLayer vs os) 2 (by decide) vs.length 0 with ⟨h3, h4⟩ | h3
      · refine .inl ⟨⟨by omega, by omega, by omega, fun j hj => ?_⟩, h3⟩
        have := h4 j (by omega) (by omega)
        unfold badLayer at this
        simp only [Bool.or_eq_false_iff, Bool.not_eq_false', Bool.and_eq_true, decide_eq_true_eq] at this
        omega
      · exact .inr (by rw [h3]; decide)
theorem emptyingOf_f (vs os : List Int) (a : Int) (k : Nat) (hv : vs.length ≤ 22) (ho : os.length ≤ 22) (hk : 40 < k) :
    dam_EmptyingOf.f k vs os a = some (if (basinOut vs os).2 = 0 then (if 0 ≤ a ∧ a ≤ vs.length then (timeTo vs os a.toNat, 0) else (0, 2)) else (0, (basinOut vs os).2)) := by
  unfold dam_EmptyingOf.f
  rw [checkBasin_f vs os k hv ho hk]
  simp only [Option.bind_some, dwithin_f, dunless_f]
  rw [dfirst_f _ _ (by simp) (by simp; omega)]
  simp only [Option.bind_some, firstE]
  rcases basin_cases vs os with ⟨h1, h2⟩ | h1
  · rw [if_pos h2, if_pos h2]
    by_cases hw : 0 ≤ a ∧ a ≤ vs.length
    · rw [if_pos hw, show (decide (0 ≤ a) && decide (a ≤ (vs.length : Int))) = true by simp [hw.1, hw.2]]
      simp only [if_true]
      rw [if_pos hw.1, if_pos hw.2]
      exact emptying_go vs os h1 a.toNat (by omega) a.toNat 0 k (by omega) (by have := h1.2.2.1; omega)
    · rw [if_neg hw]
      have hb : (decide (0 ≤ a) && decide (a ≤ (vs.length : Int))) = false := by
        rw [Bool.and_eq_false_iff]
        by_cases h : 0 ≤ a
        · right; exact decide_eq_false (fun h' => hw ⟨h, h'⟩)
        · left; exact decide_eq_false h
      rw [hb]; rfl
  · rw [if_neg h1, if_neg h1, if_neg h1]
theorem copyBasin_f (vs os : List Int) (hv : vs.length ≤ 22) (ho : os.length ≤ 22) : guidevaneref09_CopyBasin.f vs os = some (vs, os) := by
  unfold guidevaneref09_CopyBasin.f
  rw [copyInts_f _ (by omega), copyInts_f _ (by omega)]; rfl
theorem DamBasins_pure (vs os : List Int) (a : Int) : guidevanelaw09_DamBasins.f 100 vs os a = some true := by
  unfold guidevanelaw09_DamBasins.f
  rw [show guidevanelaw09_awake.f = some true from rfl]
  simp only [Option.bind_some, if_true]
  by_cases hv : 22 < vs.length
  · rw [if_pos (by omega)]; rfl
  replace hv : vs.length ≤ 22 := by omega
  rw [if_neg (by omega)]
  by_cases ho : 22 < os.length
  · rw [show decide ((os.length : Int) > 22) = true from decide_eq_true (by omega)]; rfl
  replace ho : os.length ≤ 22 := by omega
  rw [show decide ((os.length : Int) > 22) = false from decide_eq_false (by omega)]
  rw [show (100 : Nat) = 99 + 1 from rfl]
  simp only [guidevanelaw09_DamBasins.j0]
  rw [if_neg (by decide), copyBasin_f vs os hv ho]
  simp only [Option.bind_some]
  rw [checkBasin_f vs os _ hv ho (by omega), emptyingOf_f vs os a _ hv ho (by omega), refBasin_f vs os _ hv ho (by omega)]
  simp only [Option.bind_some, if_true, bne_self_eq_false]
  rw [show (99 : Nat) = 98 + 1 from rfl]
  simp only [guidevanelaw09_DamBasins.j1]
  rw [if_neg (by decide)]
  rcases basin_cases vs os with ⟨h1, h2⟩ | h1
  · have hl := h1.2.2.1
    have hoe := h1.1
    rw [if_pos h2, if_pos h2, bwithin_f]
    simp only [Option.bind_some]
    rw [show (98 : Nat) = 97 + 1 from rfl]
    simp only [guidevanelaw09_DamBasins.j2]
    rw [show (97 : Nat) = 96 + 1 from rfl]
    simp only [guidevanelaw09_DamBasins.j3]
    by_cases hw : 0 ≤ a ∧ a ≤ vs.length
    · rw [if_pos hw, show (decide (0 ≤ a) && decide (a ≤ (vs.length : Int))) = true by simp [hw.1, hw.2], h2]
      have ht := timeTo_bd h1 a.toNat (by omega)
      simp only [Bool.not_true, if_true]
      rw [if_neg (by decide)]
      unfold guidevaneref09_Emptying.f
      have hr := refEmpty_go vs os h1 a.toNat (by omega) a.toNat 0 96 (by omega) (by omega)
      rw [show ((a.toNat : Nat) : Int) = a by omega] at hr
      rw [show guidevaneref09_Emptying.l0 96 a 0 0 vs os = some (timeTo vs os a.toNat) from hr]
      simp only [Option.bind_some, bne_self_eq_false]
      rw [show (96 : Nat) = 95 + 1 from rfl]
      simp only [guidevanelaw09_DamBasins.j4]
      rw [if_neg (by decide)]
      by_cases he : a = (vs.length : Int)
      · rw [if_pos he]
      · rw [if_neg he, copyBasin_f vs os hv ho]
        simp only [Option.bind_some]
        rw [pw64 (n := a + 1) (by omega) (by omega), emptyingOf_f vs os (a + 1) _ hv ho (by omega), if_pos h2, if_pos ⟨by omega, by omega⟩]
        simp only [Option.bind_some, if_true]
        have hv2 := h1.2.2.2 a.toNat (by omega)
        have hc := cl_bd hv2.1.1 hv2.1.2 hv2.2.1
        rw [if_pos hw.1, if_pos (by omega), if_pos (by omega), show rd vs a = vs.getD a.toNat 0 from rfl, show rd os a = os.getD a.toNat 0 from rfl, ceil_f hv2.1.1 hv2.1.2 hv2.2.1 hv2.2.2]
        simp only [Option.bind_some]
        rw [pw64 (n := timeTo vs os a.toNat + cl (vs.getD a.toNat 0) (os.getD a.toNat 0)) (by omega) (by omega), show (a + 1).toNat = a.toNat + 1 by omega]
        simp [timeTo]
    · rw [if_neg hw]
      have hb : (decide (0 ≤ a) && decide (a ≤ (vs.length : Int))) = false := by
        rw [Bool.and_eq_false_iff]
        by_cases h : 0 ≤ a
        · right; exact decide_eq_false (fun h' => hw ⟨h, h'⟩)
        · left; exact decide_eq_false h
      rw [hb]
      simp
  · rw [if_neg h1, if_neg h1]
    rw [show (98 : Nat) = 97 + 1 from rfl]
    simp only [guidevanelaw09_DamBasins.j2]
    rw [if_neg (by decide), show (97 : Nat) = 96 + 1 from rfl]
    simp only [guidevanelaw09_DamBasins.j3]
    rw [if_neg h1]
    simp
end Go.Proofs.Yteopooljohdoiaa.Px
