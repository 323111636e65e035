/- DamDeviations: for every input the call returns true and each argument reads afterwards as it read before; no condition. (its contracts and its pure law) -/
import Derived.Test.YteopooljohdoiaaK1
import Derived.Test.YteopooljohdoiaaDDamDeviations1
import Derived.Test.YteopooljohdoiaaK3
set_option linter.unusedVariables false
set_option linter.unusedSimpArgs false
namespace Go.Proofs.Yteopooljohdoiaa.Px
open Go.RowKit Go.Proofs.YteopooljohdoiaaW.PrintWords Go.Proofs.YteopooljohdoiaaW.PrintLast Go.Proofs.YteopooljohdoiaaW.PrintMore
attribute [local go_sem] max2_int min2_int max_two min_two max_three min_three max_four min_four
def guidevaneref09_Watch.l0 : Nat → List Int → Int → List Int → List Int → Int → List (S135) → Int → Int → Int → Option (Int × Int × Int)
  | 0, _, _, _, _, _, _, _, _, _ => none
  | k + 1, x1, x6, x156002000, x156002001, x156002002, x156002003, x156004000, x156004001, x156004002 => if x6 < (x1.length : Int) then (if 0 ≤ x6 then ((guidevaneref09_Watched.f k x156002000 x156002001 x156002002 x156002003 x156004000 x156004001 x156004002 (rd x1 x6)).bind fun bt156005 => (guidevaneref09_Watch.l0 k x1 (wrap64 (x6 + 1)) x156002000 x156002001 x156002002 x156002003 bt156005.1 bt156005.2.1 bt156005.2.2)) else (none)) else (some (x156004000, x156004001, x156004002))
def guidevaneref09_Watch.f (k : Nat) (l0_0 : List Int) (l0_1 : List Int) (a0_2 : Int) (l0_3 : List (S135)) (l1 : List Int) : Option (Int × Int × Int) := guidevaneref09_Watch.l0 k l1 0 l0_0 l0_1 a0_2 l0_3 0 0 0
theorem guidevaneref09_Watch.mono_l : ∀ k, (∀ y0 y1 y2 y3 y4 y5 y6 y7 y8, LeO (guidevaneref09_Watch.l0 k y0 y1 y2 y3 y4 y5 y6 y7 y8) (guidevaneref09_Watch.l0 (k + 1) y0 y1 y2 y3 y4 y5 y6 y7 y8))
  | 0 => fun _ _ _ _ _ _ _ _ _ r h => by simp [guidevaneref09_Watch.l0] at h
  | k + 1 => by
    have ih0 := guidevaneref09_Watch.mono_l k
    · intro y0 y1 y2 y3 y4 y5 y6 y7 y8
      unfold guidevaneref09_Watch.l0
      repeat' first
      | (with_reducible exact ih0 _ _ _ _ _ _ _ _ _)
      | (with_reducible exact guidevaneref09_Watched.mono _ _ _ _ _ _ _ _ _)
      | (with_reducible exact LeO.refl _)
      | (with_reducible exact LeO.none _)
      | (with_reducible refine LeO.ite ?_ ?_)
      | (with_reducible refine LeO.bind ?_ (fun _ => ?_))
      | exact ih0 _ _ _ _ _ _ _ _ _
      | exact guidevaneref09_Watched.mono _ _ _ _ _ _ _ _ _
      | exact LeO.none _
      | refine LeO.ite ?_ ?_
      | refine LeO.bind ?_ (fun _ => ?_)
theorem guidevaneref09_Watch.mono : ∀ a0 a1 a2 a3 a4 k, LeO (guidevaneref09_Watch.f k a0 a1 a2 a3 a4) (guidevaneref09_Watch.f (k + 1) a0 a1 a2 a3 a4) := by
  intro a0 a1 a2 a3 a4 k
  have ih0 := guidevaneref09_Watch.mono_l k
  unfold guidevaneref09_Watch.f
  repeat' first
      | (with_reducible exact ih0 _ _ _ _ _ _ _ _ _)
      | (with_reducible exact guidevaneref09_Watched.mono _ _ _ _ _ _ _ _ _)
      | (with_reducible exact LeO.refl _)
      | (with_reducible exact LeO.none _)
      | (with_reducible refine LeO.ite ?_ ?_)
      | (with_reducible refine LeO.bind ?_ (fun _ => ?_))
      | exact ih0 _ _ _ _ _ _ _ _ _
      | exact guidevaneref09_Watched.mono _ _ _ _ _ _ _ _ _
      | exact LeO.none _
      | refine LeO.ite ?_ ?_
      | refine LeO.bind ?_ (fun _ => ?_)
def guidevaneref09_Watch.T5 : Bool × List (List Nat × List Nat) := (true, [([], []), ([], []), ([], []), ([], []), ([2, 3], [2, 3]), ([4], [4]), ([0, 1, 5], [0, 1, 5]), ([6, 6, 0, 1, 2, 3, 4, 5, 6], [6])])
def guidevaneref09_Watch.B5 : List Nat := [0, 0, 0, 0, 12, 28, 63, 127]
theorem guidevaneref09_Watch.tab5 : rtab .any (opsOf Try.f52 5) = guidevaneref09_Watch.T5 := by kernel_rfl
theorem guidevaneref09_Watch.bits5 : waitsOk guidevaneref09_Watch.T5.2 guidevaneref09_Watch.B5 = true := by kernel_rfl
set_option maxHeartbeats 8000000 in
set_option maxRecDepth 100000 in
theorem guidevaneref09_Watch.calls (k : Nat) (A0_0 : Option Addr) (c0_0 : Nat) (l0_0 : List Int) (A0_1 : Option Addr) (c0_1 : Nat) (l0_1 : List Int) (a0_2 : Int) (A0_3 : Option Addr) (c0_3 : Nat) (l0_3 : List (S135)) (A1 : Option Addr) (c1 : Nat) (l1 : List Int) (r1 : Int) (r2 : Int) (r3 : Int) (w : World) (hr0_0 : Kd.C (Kd.int .i64) w A0_0 l0_0.length l0_0) (hc0_0 : l0_0.length ≤ c0_0) (hr0_1 : Kd.C (Kd.int .i64) w A0_1 l0_1.length l0_1) (hc0_1 : l0_1.length ≤ c0_1) (hr0_3 : Kd.C k135 w A0_3 l0_3.length l0_3) (hc0_3 : l0_3.length ≤ c0_3) (hr1 : Kd.C (Kd.int .i64) w A1 l1.length l1) (hc1 : l1.length ≤ c1) (h : guidevaneref09_Watch.f k l0_0 l0_1 a0_2 l0_3 l1 = some (r1, r2, r3)) :
    Calls Try.prog 52 #[.agg #[.slice A0_0 l0_0.length c0_0, .slice A0_1 l0_1.length c0_1, .int .i64 a0_2, .slice A0_3 l0_3.length c0_3], .slice A1 l1.length c1] w fun e w' => e = .returned (.agg #[.int .i64 r1, .int .i64 r2, .int .i64 r3]) ∧ Below w.heap.size w w' := by
  have hu85 := Try.underlying85
  have hu88 := Try.underlying88
  have HR0_0 := Aside0.mk hr0_0
  have HC0_0 := Aside0.mk hc0_0
  clear hr0_0 hc0_0
  have HR0_1 := Aside0.mk hr0_1
  have HC0_1 := Aside0.mk hc0_1
  clear hr0_1 hc0_1
  have HR0_3 := Aside0.mk hr0_3
  have HC0_3 := Aside0.mk hc0_3
  clear hr0_3 hc0_3
  have HR1 := Aside0.mk hr1
  have HC1 := Aside0.mk hc1
  clear hr1 hc1
  have HB := Aside0.mk (Below.refl w.heap.size w)
  have H : (guidevaneref09_Watch.l0 k l1 0 l0_0 l0_1 a0_2 l0_3 0 0 0) = some (r1, r2, r3) := h
  clear h
  have H' := Aside0.mk H
  clear H
  go_enter Try.func52, Try.ntmps52
  go_wp2_with (first | ((with_reducible refine gate_dst (N := 2) rfl ?_); refine box_event ?hg (N := 2) ?hd (cs := #[.slice A0_0 l0_0.length c0_0, .slice A0_1 l0_1.length c0_1, .int .i64 a0_2, .slice A0_3 l0_3.length c0_3]) (t := 85) ?hr ?_; (case hd => rfl); (case hg => rfl); (case hr => first | (go_simp; done) | (go_simp; rfl)); intro gb156001 hg w3 hbox hb; have n0_ := Aside0.mk (below_step (by repeat (first | (with_reducible first | exact HB.out | apply below_alloc | apply pw_below_drewN | apply below_drew1) | exact HB.out)) hb); have n1_ := Aside0.mk (hbox); have n2_ := Aside0.mk ((by rw [hg]; exact (below_size (by repeat (first | (with_reducible first | exact HB.out | apply below_alloc | apply pw_below_drewN | apply below_drew1) | exact HB.out))) : w.heap.size ≤ gb156001)); have n3_ := Aside0.mk ((by rw [hg]; exact (below_size (by repeat (first | (with_reducible first | exact HB.out | apply below_alloc | apply pw_below_drewN | apply below_drew1) | exact HB.out))) : w.heap.size ≤ gb156001)); clear HB; have HB := n0_; have BK156001 := n1_; have GW156001 := n2_; have GE156001 := n3_; clear n0_ n1_ n2_ n3_; clear hb hbox hg) | ((with_reducible refine gate_dst (N := 4) rfl ?_); refine box_event ?hg (N := 4) ?hd (cs := #[.int .i64 0, .int .i64 0, .int .i64 0]) (t := 88) ?hr ?_; (case hd => rfl); (case hg => rfl); (case hr => first | (go_simp; done) | (go_simp; rfl)); intro gb156002 hg w4 hbox hb; have n0_ := Aside0.mk (blk_below (g := gb156001) (o := .cells #[.slice A0_0 l0_0.length c0_0, .slice A0_1 l0_1.length c0_1, .int .i64 a0_2, .slice A0_3 l0_3.length c0_3] 85 (0, 0)) (by (with_reducible repeat (first | refine blk_drewN ?_ _ | refine blk_drew ?_ | refine blk_alloc ?_ _)); exact BK156001.out) hb); have n1_ := Aside0.mk (below_step (by repeat (first | (with_reducible first | exact HB.out | apply below_alloc | apply pw_below_drewN | apply below_drew1 | refine below_set ?_ GE156001.out) | exact HB.out)) hb); have n2_ := Aside0.mk (hbox); have n3_ := Aside0.mk ((by rw [hg]; exact (below_size (by repeat (first | (with_reducible first | exact HB.out | apply below_alloc | apply pw_below_drewN | apply below_drew1 | refine below_set ?_ GE156001.out) | exact HB.out))) : w.heap.size ≤ gb156002)); have n4_ := Aside0.mk ((by rw [hg]; exact (below_size (by repeat (first | (with_reducible first | exact HB.out | apply below_alloc | apply pw_below_drewN | apply below_drew1 | refine below_set ?_ GE156001.out) | exact HB.out))) : w.heap.size ≤ gb156002)); have n5_ := Aside0.mk ((by rw [hg]; exact Nat.ne_of_lt (blk_lt (g := gb156001) (o := .cells #[.slice A0_0 l0_0.length c0_0, .slice A0_1 l0_1.length c0_1, .int .i64 a0_2, .slice A0_3 l0_3.length c0_3] 85 (0, 0)) (by (with_reducible repeat (first | refine blk_drewN ?_ _ | refine blk_drew ?_ | refine blk_alloc ?_ _)); exact BK156001.out)) : gb156001 ≠ gb156002)); have n6_ := Aside0.mk ((by rw [hg]; exact Nat.ne_of_gt (blk_lt (g := gb156001) (o := .cells #[.slice A0_0 l0_0.length c0_0, .slice A0_1 l0_1.length c0_1, .int .i64 a0_2, .slice A0_3 l0_3.length c0_3] 85 (0, 0)) (by (with_reducible repeat (first | refine blk_drewN ?_ _ | refine blk_drew ?_ | refine blk_alloc ?_ _)); exact BK156001.out)) : gb156002 ≠ gb156001)); clear BK156001; clear HB; have BK156001 := n0_; have HB := n1_; have BK156002 := n2_; have GW156002 := n3_; have GE156002 := n4_; have NB156001_156002 := n5_; have NB156002_156001 := n6_; clear n0_ n1_ n2_ n3_ n4_ n5_ n6_; clear hb hbox hg) | ((with_reducible refine gate_dst (N := 5) rfl ?_); refine box_event ?hg (N := 5) ?hd (cs := #[.int .i64 0, .int .i64 0, .int .i64 0]) (t := 88) ?hr ?_; (case hd => rfl); (case hg => rfl); (case hr => first | (go_simp; done) | (go_simp; rfl)); intro gb156003 hg w5 hbox hb; have n0_ := Aside0.mk (blk_below (g := gb156001) (o := .cells #[.slice A0_0 l0_0.length c0_0, .slice A0_1 l0_1.length c0_1, .int .i64 a0_2, .slice A0_3 l0_3.length c0_3] 85 (0, 0)) (by (with_reducible repeat (first | refine blk_drewN ?_ _ | refine blk_drew ?_ | refine blk_alloc ?_ _)); exact BK156001.out) hb); have n1_ := Aside0.mk (blk_below (g := gb156002) (o := .cells #[.int .i64 0, .int .i64 0, .int .i64 0] 88 (0, 0)) (by (with_reducible repeat (first | refine blk_drewN ?_ _ | refine blk_drew ?_ | refine blk_alloc ?_ _)); exact BK156002.out) hb); have n2_ := Aside0.mk (below_step (by repeat (first | (with_reducible first | exact HB.out | apply below_alloc | apply pw_below_drewN | apply below_drew1 | refine below_set ?_ GE156001.out | refine below_set ?_ GE156002.out) | exact HB.out)) hb); have n3_ := Aside0.mk (hbox); have n4_ := Aside0.mk ((by rw [hg]; exact (below_size (by repeat (first | (with_reducible first | exact HB.out | apply below_alloc | apply pw_below_drewN | apply below_drew1 | refine below_set ?_ GE156001.out | refine below_set ?_ GE156002.out) | exact HB.out))) : w.heap.size ≤ gb156003)); have n5_ := Aside0.mk ((by rw [hg]; exact (below_size (by repeat (first | (with_reducible first | exact HB.out | apply below_alloc | apply pw_below_drewN | apply below_drew1 | refine below_set ?_ GE156001.out | refine below_set ?_ GE156002.out) | exact HB.out))) : w.heap.size ≤ gb156003)); have n6_ := Aside0.mk ((by rw [hg]; exact Nat.ne_of_lt (blk_lt (g := gb156001) (o := .cells #[.slice A0_0 l0_0.length c0_0, .slice A0_1 l0_1.length c0_1, .int .i64 a0_2, .slice A0_3 l0_3.length c0_3] 85 (0, 0)) (by (with_reducible repeat (first | refine blk_drewN ?_ _ | refine blk_drew ?_ | refine blk_alloc ?_ _)); exact BK156001.out)) : gb156001 ≠ gb156003)); have n7_ := Aside0.mk ((by rw [hg]; exact Nat.ne_of_gt (blk_lt (g := gb156001) (o := .cells #[.slice A0_0 l0_0.length c0_0, .slice A0_1 l0_1.length c0_1, .int .i64 a0_2, .slice A0_3 l0_3.length c0_3] 85 (0, 0)) (by (with_reducible repeat (first | refine blk_drewN ?_ _ | refine blk_drew ?_ | refine blk_alloc ?_ _)); exact BK156001.out)) : gb156003 ≠ gb156001)); have n8_ := Aside0.mk ((by rw [hg]; exact Nat.ne_of_lt (blk_lt (g := gb156002) (o := .cells #[.int .i64 0, .int .i64 0, .int .i64 0] 88 (0, 0)) (by (with_reducible repeat (first | refine blk_drewN ?_ _ | refine blk_drew ?_ | refine blk_alloc ?_ _)); exact BK156002.out)) : gb156002 ≠ gb156003)); have n9_ := Aside0.mk ((by rw [hg]; exact Nat.ne_of_gt (blk_lt (g := gb156002) (o := .cells #[.int .i64 0, .int .i64 0, .int .i64 0] 88 (0, 0)) (by (with_reducible repeat (first | refine blk_drewN ?_ _ | refine blk_drew ?_ | refine blk_alloc ?_ _)); exact BK156002.out)) : gb156003 ≠ gb156002)); clear BK156001; clear BK156002; clear HB; have BK156001 := n0_; have BK156002 := n1_; have HB := n2_; have BK156003 := n3_; have GW156003 := n4_; have GE156003 := n5_; have NB156001_156003 := n6_; have NB156003_156001 := n7_; have NB156002_156003 := n8_; have NB156003_156002 := n9_; clear n0_ n1_ n2_ n3_ n4_ n5_ n6_ n7_ n8_ n9_; clear hb hbox hg))
  go_loopg [6] k (fun kq v6 w' => ∃ (x6_1 : Int) (x156004000_1 : Int) (x156004001_1 : Int) (x156004002_1 : Int), v6 = .int .i64 x6_1 ∧ Aside0 (guidevaneref09_Watch.l0 kq l1 x6_1 l0_0 l0_1 a0_2 l0_3 x156004000_1 x156004001_1 x156004002_1 = some (r1, r2, r3)) ∧ Aside0 (kq ≤ k) ∧ Aside0 (w'.heap[gb156001]? = some (.cells #[(.slice A0_0 l0_0.length c0_0), (.slice A0_1 l0_1.length c0_1), .int .i64 a0_2, (.slice A0_3 l0_3.length c0_3)] 85 (0, 0))) ∧ Aside0 (w'.heap[gb156002]? = some (.cells #[.int .i64 0, .int .i64 0, .int .i64 0] 88 (0, 0))) ∧ Aside0 (w'.heap[gb156003]? = some (.cells #[.int .i64 x156004000_1, .int .i64 x156004001_1, .int .i64 x156004002_1] 88 (0, 0))) ∧ Aside0 (Below w.heap.size w w'))
  case atStart => exact ⟨(0), (0), (0), (0), (by first | rfl | (simp; done) | (simp [*]; done)), H', ⟨Nat.le_refl _⟩, ⟨by (with_reducible repeat (first | refine blk_drewN ?_ _ | refine blk_drew ?_ | refine blk_alloc ?_ _)); exact BK156001.out⟩, ⟨by (with_reducible repeat (first | refine blk_drewN ?_ _ | refine blk_drew ?_ | refine blk_alloc ?_ _)); exact BK156002.out⟩, ⟨by (with_reducible repeat (first | refine blk_drewN ?_ _ | refine blk_drew ?_ | refine blk_alloc ?_ _)); exact BK156003.out⟩, ⟨by repeat (first | (with_reducible first | exact HB.out | apply below_alloc | apply pw_below_drewN | apply below_drew1 | refine below_set ?_ GE156001.out | refine below_set ?_ GE156002.out | refine below_set ?_ GE156003.out) | exact HB.out)⟩⟩
  case round =>
    clear H'
    try clear c1
    try clear p2
    try clear c5
    obtain ⟨x6_1, x156004000_1, x156004001_1, x156004002_1, rfl, HA, HK1, BK156001, BK156002, BK156003, HB⟩ := hrel
    cases gk with
    | zero => exact absurd HA.out (by simp [guidevaneref09_Watch.l0])
    | succ k1 =>
      have H := HA.out
      clear HA
      simp only [guidevaneref09_Watch.l0] at H
      by_cases c6 : x6_1 < (l1.length : Int)
      · rw [if_pos c6] at H
        have c6b0 : decide (x6_1 < (l1.length : Int)) = true := decide_eq_true c6
        clear c6
        by_cases c7 : 0 ≤ x6_1
        · rw [if_pos c7] at H
          have c7b0 : decide (0 ≤ x6_1) = true := decide_eq_true c7
          clear c7
          replace H := Option.bind_eq_some_iff.mp H
          obtain ⟨⟨t156005, t156006, t156007⟩, A80, H⟩ := H
          replace H : (guidevaneref09_Watch.l0 k1 l1 (wrap64 (x6_1 + 1)) l0_0 l0_1 a0_2 l0_3 t156005 t156006 t156007) = some (r1, r2, r3) := H
          have A8 := Aside0.mk A80
          clear A80
          have H' := Aside0.mk H
          clear H
          try go_wp2
          have n0_ := Aside0.mk (blk_drew BK156001.out)
          have n1_ := Aside0.mk (blk_drew BK156002.out)
          have n2_ := Aside0.mk (blk_drew BK156003.out)
          have n3_ := Aside0.mk (below_drew1 HB.out)
          clear BK156001
          clear BK156002
          clear BK156003
          clear HB
          have BK156001 := n0_
          have BK156002 := n1_
          have BK156003 := n2_
          have HB := n3_
          clear n0_ n1_ n2_ n3_
          have p156004 : 0 ≤ (x6_1 : Int) := of_decide_eq_true (by first | (with_reducible assumption) | assumption)
          have q156004 : x6_1 < (l1.length : Int) := of_decide_eq_true (by first | (with_reducible assumption) | assumption)
          obtain ⟨ad156004, e156004, hx156004_0⟩ := Kd.at_int HR1.out x6_1 p156004 q156004
          have hw156004_0 := hx156004_0
          cases e156004
          replace hx156004_0 := (HB.out.cell (World.block_lt_of_cell? w _ hx156004_0)).trans hx156004_0
          replace p156004 := eq_true p156004
          replace q156004 := eq_true q156004
          refine start_ (n := 8) (S := fun w' => w'.cell? ⟨gb156001, 0, none⟩ = some (.slice A0_0 l0_0.length c0_0) ∧ w'.cell? ⟨gb156001, 1, none⟩ = some (.slice A0_1 l0_1.length c0_1) ∧ w'.cell? ⟨gb156001, 2, none⟩ = some (.int .i64 a0_2) ∧ w'.cell? ⟨gb156001, 3, none⟩ = some (.slice A0_3 l0_3.length c0_3) ∧ w'.cell? ⟨gb156003, 0, none⟩ = some (.int .i64 x156004000_1) ∧ w'.cell? ⟨gb156003, 1, none⟩ = some (.int .i64 x156004001_1) ∧ w'.cell? ⟨gb156003, 2, none⟩ = some (.int .i64 x156004002_1) ∧ w'.cell? (ad156004.add (x6_1).toNat) = some (.int .i64 (rd l1 x6_1))) (ds := [7]) #[false, false, false, false, false, false, false, false] (by kernel_rfl) rfl rfl ⟨(blk_cell BK156001.out 0).trans rfl, (blk_cell BK156001.out 1).trans rfl, (blk_cell BK156001.out 2).trans rfl, (blk_cell BK156001.out 3).trans rfl, (blk_cell BK156003.out 0).trans rfl, (blk_cell BK156003.out 1).trans rfl, (blk_cell BK156003.out 2).trans rfl, ((HB.out.cell (World.block_lt_of_cell? w _ hw156004_0)).trans hw156004_0)⟩ (fun hHeld => ?_); refine with_tabW guidevaneref09_Watch.tab5 guidevaneref09_Watch.bits5 (fun HT_ HW_ => ?_)
          generalize wr.drew = w9 at BK156001 BK156002 BK156003 HB hx156004_0 hHeld ⊢
          refine pure_ (i := 2) (N := some 15) (v := ?_) (a' := ?_) #[false, false, true, false, false, false, false, false] rfl rfl (any_of HT_.out (by kernel_rfl)) (fun _ _ _ h => h) (Or.inl ⟨by rfl, ?_⟩) ?_ ?_
          rotate_left
          · intro w'
            go_simp
            with_reducible rfl
          rotate_left
          · simp only [Act.put, List.setIfInBounds_toArray, List.set_cons_zero, List.set_cons_succ, i64_w, i32_w]
            rfl
          refine pure_ (i := 3) (N := some 16) (v := ?_) (a' := ?_) #[false, false, true, true, false, false, false, false] rfl rfl (any_of HT_.out (by kernel_rfl)) (fun _ _ _ h => h) (Or.inl ⟨by rfl, ?_⟩) ?_ ?_
          rotate_left
          · intro w'
            go_simp
            with_reducible rfl
          rotate_left
          · simp only [Act.put, List.setIfInBounds_toArray, List.set_cons_zero, List.set_cons_succ, i64_w, i32_w]
            rfl
          refine pure_ (i := 4) (N := some 17) (v := ?_) (a' := ?_) #[false, false, true, true, true, false, false, false] rfl rfl (any_of HT_.out (by kernel_rfl)) (fun _ _ _ h => h) (Or.inl ⟨by rfl, ?_⟩) ?_ ?_
          rotate_left
          · intro w'
            go_simp
            with_reducible rfl
          rotate_left
          · simp only [Act.put, List.setIfInBounds_toArray, List.set_cons_zero, List.set_cons_succ, i64_w, i32_w]
            rfl
          refine take_ (i := 0) (N := some 13) (v := ?_) (a' := ?_) #[true, false, true, true, true, false, false, false] rfl rfl (take_ofW HT_.out HW_.out (by kernel_rfl)) (fun _ _ _ h => h) (Or.inl ⟨by rfl, ?_⟩) hHeld ?_ ?_
          rotate_left
          · rintro w' ⟨s0, s1, s2, s3, s4, s5, s6, s7⟩
            go_simp
            with_reducible rfl
          rotate_left
          · simp only [Act.put, List.setIfInBounds_toArray, List.set_cons_zero, List.set_cons_succ, i64_w, i32_w]
            rfl
          refine take_ (i := 1) (N := some 14) (v := ?_) (a' := ?_) #[true, true, true, true, true, false, false, false] rfl rfl (take_ofW HT_.out HW_.out (by kernel_rfl)) (fun _ _ _ h => h) (Or.inl ⟨by rfl, ?_⟩) hHeld ?_ ?_
          rotate_left
          · rintro w' ⟨s0, s1, s2, s3, s4, s5, s6, s7⟩
            go_simp
            with_reducible rfl
          rotate_left
          · simp only [Act.put, List.setIfInBounds_toArray, List.set_cons_zero, List.set_cons_succ, i64_w, i32_w]
            rfl
          refine take_ (i := 5) (N := some 18) (v := ?_) (a' := ?_) #[true, true, true, true, true, true, false, false] rfl rfl (take_ofW HT_.out HW_.out (by kernel_rfl)) (fun _ _ _ h => h) (Or.inl ⟨by rfl, ?_⟩) hHeld ?_ ?_
          rotate_left
          · rintro w' ⟨s0, s1, s2, s3, s4, s5, s6, s7⟩
            go_simp
            with_reducible rfl
          rotate_left
          · simp only [Act.put, List.setIfInBounds_toArray, List.set_cons_zero, List.set_cons_succ, i64_w, i32_w]
            rfl
          refine one_ (i := 6) (N := some 19) #[true, true, true, true, true, true, true, false] rfl rfl (one_of HT_.out (by kernel_rfl)) (by decide) (fun K hK => ?_)
          refine goes_ Try.func59 (by kernel_rfl) rfl #[.agg #[.slice A0_0 l0_0.length c0_0, .slice A0_1 l0_1.length c0_1, .int .i64 a0_2, .slice A0_3 l0_3.length c0_3], .agg #[.int .i64 x156004000_1, .int .i64 x156004001_1, .int .i64 x156004002_1], .int .i64 (rd l1 x6_1)] (by rfl) rfl rfl (by (try simp only [List.map_toArray, List.map_cons, List.map_nil]); first | done | rfl | (simp only [List.length_drop, List.length_take]; rfl)) ?_
          with_reducible refine (guidevaneref09_Watched.calls k1 _ _ l0_0 _ _ l0_1 a0_2 _ _ l0_3 x156004000_1 x156004001_1 x156004002_1 (rd l1 x6_1) t156005 t156006 t156007 _ ?side1 ?side2 ?side3 ?side4 ?side5 ?side6 A8.out).mono ?_
          (case side1 => repeat (first | exact (Kd.C_below HR0_0.out HB.out) | (with_reducible refine Kd.C_alloc ?_ _) | (with_reducible refine Kd.C_drewN ?_ _) | (with_reducible refine Kd.C_drew ?_)))
          (case side2 => exact HC0_0.out)
          (case side3 => repeat (first | exact (Kd.C_below HR0_1.out HB.out) | (with_reducible refine Kd.C_alloc ?_ _) | (with_reducible refine Kd.C_drewN ?_ _) | (with_reducible refine Kd.C_drew ?_)))
          (case side4 => exact HC0_1.out)
          (case side5 => repeat (first | exact (Kd.C_below HR0_3.out HB.out) | (with_reducible refine Kd.C_alloc ?_ _) | (with_reducible refine Kd.C_drewN ?_ _) | (with_reducible refine Kd.C_drew ?_)))
          (case side6 => exact HC0_3.out)
          rintro e w10 ⟨rfl, hb⟩
          refine ⟨_, rfl, ?_⟩
          have n0_ := Aside0.mk (blk_below (g := gb156001) (o := .cells #[.slice A0_0 l0_0.length c0_0, .slice A0_1 l0_1.length c0_1, .int .i64 a0_2, .slice A0_3 l0_3.length c0_3] 85 (0, 0)) (by (with_reducible repeat (first | refine blk_drewN ?_ _ | refine blk_drew ?_ | refine blk_alloc ?_ _)); exact BK156001.out) hb)
          have n1_ := Aside0.mk (blk_below (g := gb156002) (o := .cells #[.int .i64 0, .int .i64 0, .int .i64 0] 88 (0, 0)) (by (with_reducible repeat (first | refine blk_drewN ?_ _ | refine blk_drew ?_ | refine blk_alloc ?_ _)); exact BK156002.out) hb)
          have n2_ := Aside0.mk (blk_below (g := gb156003) (o := .cells #[.int .i64 x156004000_1, .int .i64 x156004001_1, .int .i64 x156004002_1] 88 (0, 0)) (by (with_reducible repeat (first | refine blk_drewN ?_ _ | refine blk_drew ?_ | refine blk_alloc ?_ _)); exact BK156003.out) hb)
          have n3_ := Aside0.mk (below_step (by repeat (first | (with_reducible first | exact HB.out | apply below_alloc | apply pw_below_drewN | apply below_drew1 | refine below_set ?_ GE156001.out | refine below_set ?_ GE156002.out | refine below_set ?_ GE156003.out) | exact HB.out)) hb)
          clear BK156001
          clear BK156002
          clear BK156003
          clear HB
          have BK156001 := n0_
          have BK156002 := n1_
          have BK156003 := n2_
          have HB := n3_
          clear n0_ n1_ n2_ n3_
          (try clear hb)
          (try clear hb2)
          (try clear hk)
          (try clear hi)
          refine hK.out _ _ ⟨(blk_cell BK156001.out 0).trans rfl, (blk_cell BK156001.out 1).trans rfl, (blk_cell BK156001.out 2).trans rfl, (blk_cell BK156001.out 3).trans rfl, (blk_cell BK156003.out 0).trans rfl, (blk_cell BK156003.out 1).trans rfl, (blk_cell BK156003.out 2).trans rfl, ((HB.out.cell (World.block_lt_of_cell? w _ hw156004_0)).trans hw156004_0)⟩ (fun hHeld => ?_)
          clear hK K
          refine norm_ (a' := ?_) ?_ ?_
          rotate_left
          · show Act.put _ (some 19) _ = _
            simp only [Act.put, List.setIfInBounds_toArray, List.set_cons_zero, List.set_cons_succ, i64_w, i32_w]
            rfl
          refine last_ (i := 7) (N := none) #[true, true, true, true, true, true, true, true] rfl rfl (one_of HT_.out (by kernel_rfl)) (by decide) (fun K hK => ?_)
          have hs11 : w10.cell? ⟨gb156003, 0, none⟩ = some (.int .i64 x156004000_1) := (blk_cell BK156003.out 0).trans rfl
          have hfs11 := blk_frozen BK156003.out 0
          have hns11_0 := NB156001_156003.out
          have hns11_1 := NB156002_156003.out
          have hms11_0 := NB156003_156001.out
          have hms11_1 := NB156003_156002.out
          have hs12 : w10.cell? ⟨gb156003, 1, none⟩ = some (.int .i64 x156004001_1) := (blk_cell BK156003.out 1).trans rfl
          have hfs12 := blk_frozen BK156003.out 1
          have hns12_0 := NB156001_156003.out
          have hns12_1 := NB156002_156003.out
          have hms12_0 := NB156003_156001.out
          have hms12_1 := NB156003_156002.out
          have hs13 : w10.cell? ⟨gb156003, 2, none⟩ = some (.int .i64 x156004002_1) := (blk_cell BK156003.out 2).trans rfl
          have hfs13 := blk_frozen BK156003.out 2
          have hns13_0 := NB156001_156003.out
          have hns13_1 := NB156002_156003.out
          have hms13_0 := NB156003_156001.out
          have hms13_1 := NB156003_156002.out
          refine skip_ (w1 := ?_) (by rfl) rfl ?_ ?_
          rotate_left
          · go_simp
            rfl
          refine hK.out _ _ ?_
          clear hK K
          refine done_ (done_of HT_.out (by kernel_rfl)) ?_
          try go_wp2
          go_roundg k1
          case measure => have := HK1.out; omega
          case rel => exact ⟨(wrap64 (x6_1 + 1)), (t156005), (t156006), (t156007), (by first | rfl | (simp; done) | (simp [*]; done)), H', ⟨by have := HK1.out; omega⟩, ⟨by (with_reducible repeat (first | refine blk_drewN ?_ _ | refine blk_drew ?_ | refine blk_alloc ?_ _)); refine blk_far ?_ NB156001_156003.out _; (with_reducible repeat (first | refine blk_drewN ?_ _ | refine blk_drew ?_ | refine blk_alloc ?_ _)); refine blk_far ?_ NB156001_156003.out _; (with_reducible repeat (first | refine blk_drewN ?_ _ | refine blk_drew ?_ | refine blk_alloc ?_ _)); refine blk_far ?_ NB156001_156003.out _; (with_reducible repeat (first | refine blk_drewN ?_ _ | refine blk_drew ?_ | refine blk_alloc ?_ _)); exact BK156001.out⟩, ⟨by (with_reducible repeat (first | refine blk_drewN ?_ _ | refine blk_drew ?_ | refine blk_alloc ?_ _)); refine blk_far ?_ NB156002_156003.out _; (with_reducible repeat (first | refine blk_drewN ?_ _ | refine blk_drew ?_ | refine blk_alloc ?_ _)); refine blk_far ?_ NB156002_156003.out _; (with_reducible repeat (first | refine blk_drewN ?_ _ | refine blk_drew ?_ | refine blk_alloc ?_ _)); refine blk_far ?_ NB156002_156003.out _; (with_reducible repeat (first | refine blk_drewN ?_ _ | refine blk_drew ?_ | refine blk_alloc ?_ _)); exact BK156002.out⟩, ⟨by (with_reducible repeat (first | refine blk_drewN ?_ _ | refine blk_drew ?_ | refine blk_alloc ?_ _)); refine blk_put (cs := #[.int .i64 t156005, .int .i64 t156006, .int .i64 x156004002_1]) ?_ 2 _ rfl; (with_reducible repeat (first | refine blk_drewN ?_ _ | refine blk_drew ?_ | refine blk_alloc ?_ _)); refine blk_put (cs := #[.int .i64 t156005, .int .i64 x156004001_1, .int .i64 x156004002_1]) ?_ 1 _ rfl; (with_reducible repeat (first | refine blk_drewN ?_ _ | refine blk_drew ?_ | refine blk_alloc ?_ _)); refine blk_put (cs := #[.int .i64 x156004000_1, .int .i64 x156004001_1, .int .i64 x156004002_1]) ?_ 0 _ rfl; (with_reducible repeat (first | refine blk_drewN ?_ _ | refine blk_drew ?_ | refine blk_alloc ?_ _)); exact BK156003.out⟩, ⟨by repeat (first | (with_reducible first | exact HB.out | apply below_alloc | apply pw_below_drewN | apply below_drew1 | refine below_set ?_ GE156001.out | refine below_set ?_ GE156002.out | refine below_set ?_ GE156003.out) | exact HB.out)⟩⟩
        · rw [if_neg c7] at H
          exact absurd H (by simp)
      · rw [if_neg c6] at H
        have c6b0 : decide (x6_1 < (l1.length : Int)) = false := decide_eq_false c6
        clear c6
        simp only [Option.some.injEq, Prod.mk.injEq] at H
        obtain ⟨rfl, rfl, rfl⟩ := H
        have hnb14 := NB156003_156001.out
        have hnc14 := NB156001_156003.out
        have hnb15 := NB156003_156002.out
        have hnc15 := NB156002_156003.out
        have hcz16_0 : wr.cell? ⟨gb156003, 0, none⟩ = some (.int .i64 x156004000_1) := (blk_cell BK156003.out 0).trans rfl
        have hcz16_1 : wr.cell? ⟨gb156003, 1, none⟩ = some (.int .i64 x156004001_1) := (blk_cell BK156003.out 1).trans rfl
        have hcz16_2 : wr.cell? ⟨gb156003, 2, none⟩ = some (.int .i64 x156004002_1) := (blk_cell BK156003.out 2).trans rfl
        have hfz16_0 := blk_frozen BK156003.out 0
        have hfz16_1 := blk_frozen BK156003.out 1
        have hfz16_2 := blk_frozen BK156003.out 2
        have hnb17 := NB156002_156001.out
        have hnc17 := NB156001_156002.out
        have hcz18_0 : wr.cell? ⟨gb156002, 0, none⟩ = some (.int .i64 0) := (blk_cell BK156002.out 0).trans rfl
        have hcz18_1 : wr.cell? ⟨gb156002, 1, none⟩ = some (.int .i64 0) := (blk_cell BK156002.out 1).trans rfl
        have hcz18_2 : wr.cell? ⟨gb156002, 2, none⟩ = some (.int .i64 0) := (blk_cell BK156002.out 2).trans rfl
        have hfz18_0 := blk_frozen BK156002.out 0
        have hfz18_1 := blk_frozen BK156002.out 1
        have hfz18_2 := blk_frozen BK156002.out 2
        go_wp2
        refine bodyPost_ret (results_cell_row rfl _ _ gb156002 88 #[.int .i64 x156004000_1, .int .i64 x156004001_1, .int .i64 x156004002_1] (0, 0) _ rfl (by (with_reducible repeat (first | refine blk_drewN ?_ _ | refine blk_drew ?_ | refine blk_alloc ?_ _)); refine blk_put (cs := #[.int .i64 x156004000_1, .int .i64 x156004001_1, .int .i64 0]) ?_ 2 _ rfl; (with_reducible repeat (first | refine blk_drewN ?_ _ | refine blk_drew ?_ | refine blk_alloc ?_ _)); refine blk_put (cs := #[.int .i64 x156004000_1, .int .i64 0, .int .i64 0]) ?_ 1 _ rfl; (with_reducible repeat (first | refine blk_drewN ?_ _ | refine blk_drew ?_ | refine blk_alloc ?_ _)); refine blk_put (cs := #[.int .i64 0, .int .i64 0, .int .i64 0]) ?_ 0 _ rfl; (with_reducible repeat (first | refine blk_drewN ?_ _ | refine blk_drew ?_ | refine blk_alloc ?_ _)); exact BK156002.out) Try.underlying88 rfl (by kernel_rfl)) rfl ?_
        exact ⟨by first | rfl | (simp [errW_none, errW_some] <;> rfl) | (simp [*, errW_none, errW_some] <;> rfl), by repeat (first | (with_reducible first | exact HB.out | apply below_alloc | apply pw_below_drewN | apply below_drew1 | refine below_set ?_ GE156001.out | refine below_set ?_ GE156002.out | refine below_set ?_ GE156003.out) | exact HB.out)⟩
def guidevaneref09_RulesErr.f (l0_0 : List Int) (l0_1 : List Int) (a0_2 : Int) (l0_3 : List (S135)) : Option (Int) := (guidevaneref09_CheckRules.f l0_0 l0_1 a0_2 l0_3).bind fun bt150002 => (some bt150002.2)
set_option maxHeartbeats 8000000 in
set_option maxRecDepth 100000 in
theorem guidevaneref09_RulesErr.calls (A0_0 : Option Addr) (c0_0 : Nat) (l0_0 : List Int) (A0_1 : Option Addr) (c0_1 : Nat) (l0_1 : List Int) (a0_2 : Int) (A0_3 : Option Addr) (c0_3 : Nat) (l0_3 : List (S135)) (r : Int) (w : World) (hr0_0 : Kd.C (Kd.int .i64) w A0_0 l0_0.length l0_0) (hc0_0 : l0_0.length ≤ c0_0) (hr0_1 : Kd.C (Kd.int .i64) w A0_1 l0_1.length l0_1) (hc0_1 : l0_1.length ≤ c0_1) (hr0_3 : Kd.C k135 w A0_3 l0_3.length l0_3) (hc0_3 : l0_3.length ≤ c0_3) (h : guidevaneref09_RulesErr.f l0_0 l0_1 a0_2 l0_3 = some r) :
    Calls Try.prog 50 #[.agg #[.slice A0_0 l0_0.length c0_0, .slice A0_1 l0_1.length c0_1, .int .i64 a0_2, .slice A0_3 l0_3.length c0_3]] w fun e w' => e = .returned (.int .i64 r) ∧ Below w.heap.size w w' := by
  have hu85 := Try.underlying85
  have HR0_0 := Aside0.mk hr0_0
  have HC0_0 := Aside0.mk hc0_0
  clear hr0_0 hc0_0
  have HR0_1 := Aside0.mk hr0_1
  have HC0_1 := Aside0.mk hc0_1
  clear hr0_1 hc0_1
  have HR0_3 := Aside0.mk hr0_3
  have HC0_3 := Aside0.mk hc0_3
  clear hr0_3 hc0_3
  have HB := Aside0.mk (Below.refl w.heap.size w)
  have H : ((guidevaneref09_CheckRules.f l0_0 l0_1 a0_2 l0_3).bind fun bt150002 => (some bt150002.2)) = some r := h
  clear h
  replace H := Option.bind_eq_some_iff.mp H
  obtain ⟨⟨t150002, t150003⟩, A20, H⟩ := H
  replace H : (some t150003) = some r := H
  have A2 := Aside0.mk A20
  clear A20
  obtain rfl := Option.some.inj H
  go_enter Try.func50, Try.ntmps50
  go_wp2_with (first | ((with_reducible refine gate_dst (N := 1) rfl ?_); refine box_event ?hg (N := 1) ?hd (cs := #[.slice A0_0 l0_0.length c0_0, .slice A0_1 l0_1.length c0_1, .int .i64 a0_2, .slice A0_3 l0_3.length c0_3]) (t := 85) ?hr ?_; (case hd => rfl); (case hg => rfl); (case hr => first | (go_simp; done) | (go_simp; rfl)); intro gb150001 hg w3 hbox hb; have n0_ := Aside0.mk (below_step (by repeat (first | (with_reducible first | exact HB.out | apply below_alloc | apply pw_below_drewN | apply below_drew1) | exact HB.out)) hb); have n1_ := Aside0.mk (hbox); have n2_ := Aside0.mk ((by rw [hg]; exact (below_size (by repeat (first | (with_reducible first | exact HB.out | apply below_alloc | apply pw_below_drewN | apply below_drew1) | exact HB.out))) : w.heap.size ≤ gb150001)); have n3_ := Aside0.mk ((by rw [hg]; exact (below_size (by repeat (first | (with_reducible first | exact HB.out | apply below_alloc | apply pw_below_drewN | apply below_drew1) | exact HB.out))) : w.heap.size ≤ gb150001)); clear HB; have HB := n0_; have BK150001 := n1_; have GW150001 := n2_; have GE150001 := n3_; clear n0_ n1_ n2_ n3_; clear hb hbox hg; have hcz4_0 : w3.cell? ⟨gb150001, 0, none⟩ = some (.slice A0_0 l0_0.length c0_0) := (blk_cell BK150001.out 0).trans rfl; have hcz4_1 : w3.cell? ⟨gb150001, 1, none⟩ = some (.slice A0_1 l0_1.length c0_1) := (blk_cell BK150001.out 1).trans rfl; have hcz4_2 : w3.cell? ⟨gb150001, 2, none⟩ = some (.int .i64 a0_2) := (blk_cell BK150001.out 2).trans rfl; have hcz4_3 : w3.cell? ⟨gb150001, 3, none⟩ = some (.slice A0_3 l0_3.length c0_3) := (blk_cell BK150001.out 3).trans rfl; have hfz4_0 := blk_frozen BK150001.out 0; have hfz4_1 := blk_frozen BK150001.out 1; have hfz4_2 := blk_frozen BK150001.out 2; have hfz4_3 := blk_frozen BK150001.out 3) | ((with_reducible refine gate_callee (f := 56) rfl ?_); refine goesL_ (some 7) rfl rfl Try.func56 (by kernel_rfl) rfl #[.agg #[.slice A0_0 l0_0.length c0_0, .slice A0_1 l0_1.length c0_1, .int .i64 a0_2, .slice A0_3 l0_3.length c0_3]] rfl (by (try simp only [List.map_toArray, List.map_cons, List.map_nil]); first | done | rfl | (simp only [List.length_drop, List.length_take]; rfl)) ?_; (with_reducible refine (guidevaneref09_CheckRules.calls _ _ l0_0 _ _ l0_1 a0_2 _ _ l0_3 t150002 t150003 _ ?side1 ?side2 ?side3 ?side4 ?side5 ?side6 A2.out).mono ?_); (case side1 => repeat (first | exact (Kd.C_below HR0_0.out HB.out) | (with_reducible refine Kd.C_alloc ?_ _) | (with_reducible refine Kd.C_drewN ?_ _) | (with_reducible refine Kd.C_drew ?_))); (case side2 => exact HC0_0.out); (case side3 => repeat (first | exact (Kd.C_below HR0_1.out HB.out) | (with_reducible refine Kd.C_alloc ?_ _) | (with_reducible refine Kd.C_drewN ?_ _) | (with_reducible refine Kd.C_drew ?_))); (case side4 => exact HC0_1.out); (case side5 => repeat (first | exact (Kd.C_below HR0_3.out HB.out) | (with_reducible refine Kd.C_alloc ?_ _) | (with_reducible refine Kd.C_drewN ?_ _) | (with_reducible refine Kd.C_drew ?_))); (case side6 => exact HC0_3.out); rintro e w5 ⟨rfl, hb⟩; refine ⟨_, rfl, ?_⟩; have n0_ := Aside0.mk (blk_below (g := gb150001) (o := .cells #[.slice A0_0 l0_0.length c0_0, .slice A0_1 l0_1.length c0_1, .int .i64 a0_2, .slice A0_3 l0_3.length c0_3] 85 (0, 0)) (by (with_reducible repeat (first | refine blk_drewN ?_ _ | refine blk_drew ?_ | refine blk_alloc ?_ _)); exact BK150001.out) hb); have n1_ := Aside0.mk (below_step (by repeat (first | (with_reducible first | exact HB.out | apply below_alloc | apply pw_below_drewN | apply below_drew1 | refine below_set ?_ GE150001.out) | exact HB.out)) hb); clear BK150001; clear HB; have BK150001 := n0_; have HB := n1_; clear n0_ n1_; (try clear hb); (try clear hb2); (try clear hk); (try clear hi)))
  go_ret
  exact ⟨by first | rfl | (simp [errW_none, errW_some] <;> rfl) | (simp [*, errW_none, errW_some] <;> rfl), by repeat (first | (with_reducible first | exact HB.out | apply below_alloc | apply pw_below_drewN | apply below_drew1 | refine below_set ?_ GE150001.out) | exact HB.out)⟩
end Go.Proofs.Yteopooljohdoiaa.Px
namespace Go.Proofs.Yteopooljohdoiaa.Px
open Go.RowKit Go.Proofs.YteopooljohdoiaaW.PrintWords Go.Proofs.YteopooljohdoiaaW.PrintLast Go.Proofs.YteopooljohdoiaaW.PrintMore
def dL (d0 : Int) (l : List Int) : Nat → Int
  | 0 => d0
  | i + 1 => if dL d0 l i = 0 then (if isDev (l.getD i 0) = true then 0 else 2) else dL d0 l i
def mvL (l : List Int) : Nat → Int
  | 0 => 0
  | i + 1 => l.getD i 0
theorem dL_nz (d0 : Int) (l : List Int) (h : ¬ d0 = 0) : ∀ i, dL d0 l i = d0
  | 0 => rfl
  | i + 1 => by show (if dL d0 l i = 0 then _ else dL d0 l i) = d0; rw [dL_nz d0 l h i, if_neg h]
theorem dL_02 (l : List Int) : ∀ i, dL 0 l i = 0 ∨ dL 0 l i = 2
  | 0 => .inl rfl
  | i + 1 => by
    show (if dL 0 l i = 0 then _ else dL 0 l i) = 0 ∨ (if dL 0 l i = 0 then _ else dL 0 l i) = 2
    rcases dL_02 l i with h | h
    · rw [h, if_pos rfl]; cases isDev (l.getD i 0) <;> simp
    · rw [h]; simp
theorem dL_all (l : List Int) : ∀ i, (∀ j, j < i → isDev (l.getD j 0) = true) → dL 0 l i = 0
  | 0, _ => rfl
  | i + 1, h => by
    show (if dL 0 l i = 0 then _ else dL 0 l i) = 0
    rw [dL_all l i (fun j hj => h j (by omega)), if_pos rfl, h i (by omega), if_pos rfl]
theorem dL_bad (l : List Int) (j : Nat) (hb : isDev (l.getD j 0) = false) : ∀ i, j < i → dL 0 l i = 2
  | 0, h => by omega
  | i + 1, h => by
    show (if dL 0 l i = 0 then _ else dL 0 l i) = 2
    by_cases hj : j = i
    · subst hj
      rcases dL_02 l j with h1 | h1
      · rw [h1, if_pos rfl, hb]; rfl
      · rw [h1]; rfl
    · rw [dL_bad l j hb i (by omega)]; rfl
theorem watchS_bd (downs : List Int) (c n : Nat) (a b d : Int) (hc : c ≤ n) (ha : 0 ≤ a ∧ a ≤ n) : 0 ≤ (watchS downs c a b d).1 ∧ (watchS downs c a b d).1 ≤ n := by
  unfold watchS
  by_cases h1 : (c : Int) > a
  · rw [if_pos h1]; simp only; omega
  · rw [if_neg h1]
    by_cases h2 : a > 0
    · rw [if_pos h2]
      by_cases h3 : d < rd downs (a - 1)
      · rw [if_pos h3]; exact ha
      · rw [if_neg h3]; exact ha
    · rw [if_neg h2]; exact ha
theorem watch_go (ups downs : List Int) (hold : Int) (ps : List Pers) (l : List Int) (h : OkRules ups downs) (hl : l.length ≤ 1000) : ∀ (m i k : Nat) (a b x : Int), i + m = l.length → m + 30 < k → (0 ≤ a ∧ a ≤ ups.length) →
    ∃ s : Int × Int × Int, watchAll 1000 ups downs hold ps a b x (l.drop i) = some s ∧ guidevaneref09_Watch.l0 k l (i : Int) ups downs hold ps a b x = some s := by
  intro m
  induction m with
  | zero =>
    intro i k a b x hi hk ha
    obtain ⟨k, rfl⟩ : ∃ m, k = m + 1 := ⟨k - 1, by omega⟩
    refine ⟨(a, b, x), ?_, ?_⟩
    · rw [List.drop_eq_nil_of_le (by omega)]; rfl
    · simp only [guidevaneref09_Watch.l0]
      rw [if_neg (by omega)]
  | succ m ih =>
    intro i k a b x hi hk ha
    obtain ⟨k, rfl⟩ : ∃ m, k = m + 1 := ⟨k - 1, by omega⟩
    obtain ⟨c, hc⟩ := step_ex ups downs h (l.getD i 0)
    have h1 := dwatched_f ups downs hold ps a b x (l.getD i 0) 1000 h ha (by omega) c hc
    have h2 := rwatched_f ups downs hold ps a b x (l.getD i 0) k h ha (by omega) c hc
    have hb := watchS_bd downs c ups.length a b (l.getD i 0) hc.1 ha
    have hdr : l.drop i = l.getD i 0 :: l.drop (i + 1) := by
      have hin : i < l.length := by omega
      rw [List.drop_eq_getElem_cons hin, List.getD_eq_getElem?_getD, List.getElem?_eq_getElem hin]
      rfl
    obtain ⟨s, h3, h4⟩ := ih (i + 1) k (watchS downs c a b (l.getD i 0)).1 (watchS downs c a b (l.getD i 0)).2.1 (watchS downs c a b (l.getD i 0)).2.2 (by omega) (by omega) hb
    refine ⟨s, ?_, ?_⟩
    · rw [hdr]
      simp only [watchAll]
      rw [h1]
      exact h3
    · simp only [guidevaneref09_Watch.l0]
      rw [if_pos (by omega), if_pos (by omega), rd_nat, h2, pw64 (n := (i : Int) + 1) (by omega) (by omega)]
      exact h4
theorem rulesErr_f (ups downs : List Int) (hold : Int) (ps : List Pers) (h : fewR ups downs ps) : guidevaneref09_RulesErr.f ups downs hold ps = some (rulesOut ups downs hold ps).2 := by
  unfold guidevaneref09_RulesErr.f
  rw [rcheck_f ups downs hold ps h]; rfl
def lenErr (e : Int) (n : Nat) : Int := if e = 0 ∧ 100 < n then 8 else e
theorem dev_cases (ups downs : List Int) (hold : Int) (ps : List Pers) (l : List Int) (h : fewR ups downs ps) (hl : l.length ≤ 102) : ∃ e s0 s1 s2 g D : Int,
    dam_WatchOf.f 1000 ups downs hold ps l = some (s0, s1, s2, g) ∧ guidevaneref09_RulesErr.f ups downs hold ps = some e ∧ D = dL (lenErr e l.length) l l.length ∧
    ((¬ D = 0 ∧ g = D ∧ s0 = 0 ∧ s1 = 0 ∧ s2 = 0) ∨ (D = 0 ∧ g = 0 ∧ guidevaneref09_Watch.f 1000 ups downs hold ps l = some (s0, s1, s2))) := by
  have hr := rulesErr_f ups downs hold ps h
  have hck := dcheck_f ups downs hold ps h
  by_cases he : (rulesOut ups downs hold ps).2 = 0
  · by_cases hn : 100 < l.length
    · have hw : watchErr (rulesOut ups downs hold ps).2 l = 8 := by
        unfold watchErr
        rw [he, firstI_z, show decide ((l.length : Int) ≤ 100) = false from decide_eq_false (by omega)]
        rfl
      refine ⟨_, 0, 0, 0, 8, 8, ?_, hr, ?_, .inl ⟨by decide, rfl, rfl, rfl, rfl⟩⟩
      · unfold dam_WatchOf.f
        rw [hck]; simp only [Option.bind_some]
        rw [hw, if_neg (by decide)]
      · rw [show lenErr (rulesOut ups downs hold ps).2 l.length = 8 from by unfold lenErr; rw [if_pos ⟨he, hn⟩], dL_nz 8 l (by decide)]
    · have hz : lenErr (rulesOut ups downs hold ps).2 l.length = 0 := by unfold lenErr; rw [if_neg (by omega), he]
      cases ha : l.any fun n => !isDev n
      · have hw : watchErr (rulesOut ups downs hold ps).2 l = 0 := by
          unfold watchErr
          rw [he, firstI_z, show decide ((l.length : Int) ≤ 100) = true from decide_eq_true (by omega), ha]
          rfl
        have hall : ∀ j, j < l.length → isDev (l.getD j 0) = true := by
          intro j hj
          rw [List.any_eq_false] at ha
          have := ha (l.getD j 0) (by rw [List.getD_eq_getElem?_getD, List.getElem?_eq_getElem hj]; exact List.getElem_mem hj)
          simpa using this
        obtain ⟨⟨t0, t1, t2⟩, h3, h4⟩ := watch_go ups downs hold ps l (okRules_of he) (by omega) l.length 0 1000 0 0 0 (by omega) (by omega) ⟨by omega, by omega⟩
        refine ⟨_, t0, t1, t2, 0, 0, ?_, hr, ?_, .inr ⟨rfl, rfl, h4⟩⟩
        · unfold dam_WatchOf.f
          rw [hck]; simp only [Option.bind_some]
          rw [hw, if_pos rfl, show watchAll 1000 ups downs hold ps 0 0 0 l = some (t0, t1, t2) from h3]; rfl
        · rw [hz, dL_all l l.length hall]
      · have hw : watchErr (rulesOut ups downs hold ps).2 l = 2 := by
          unfold watchErr
          rw [he, firstI_z, show decide ((l.length : Int) ≤ 100) = true from decide_eq_true (by omega), ha]
          rfl
        rw [List.any_eq_true] at ha
        obtain ⟨x, hx, hx2⟩ := ha
        obtain ⟨j, hj, rfl⟩ := List.mem_iff_getElem.1 hx
        have hb : isDev (l.getD j 0) = false := by
          rw [List.getD_eq_getElem?_getD, List.getElem?_eq_getElem hj]; simpa using hx2
        refine ⟨_, 0, 0, 0, 2, 2, ?_, hr, ?_, .inl ⟨by decide, rfl, rfl, rfl, rfl⟩⟩
        · unfold dam_WatchOf.f
          rw [hck]; simp only [Option.bind_some]
          rw [hw, if_neg (by decide)]
        · rw [hz, dL_bad l j hb l.length hj]
  · have hw : watchErr (rulesOut ups downs hold ps).2 l = (rulesOut ups downs hold ps).2 := by unfold watchErr; rw [firstI_ne he]
    refine ⟨_, 0, 0, 0, _, _, ?_, hr, ?_, .inl ⟨he, rfl, rfl, rfl, rfl⟩⟩
    · unfold dam_WatchOf.f
      rw [hck]; simp only [Option.bind_some]
      rw [hw, if_neg he]
    · rw [show lenErr (rulesOut ups downs hold ps).2 l.length = (rulesOut ups downs hold ps).2 from by unfold lenErr; rw [if_neg (by omega)], dL_nz _ l he]
def isVal (n : Int) : Bool := decide (-1000000 ≤ n) && decide (n ≤ 1000000)
theorem devOf_cases (lo hi m : Int) : ∃ n f : Int, dam_DeviationOf.f 1000 lo hi m = some (n, f) ∧
    (((isVal lo = false ∨ isVal hi = false ∨ isVal m = false) ∧ n = 0 ∧ f = 2) ∨ (isVal lo = true ∧ isVal hi = true ∧ isVal m = true ∧ hi < lo ∧ n = 0 ∧ f = 9) ∨
      (isVal lo = true ∧ isVal hi = true ∧ isVal m = true ∧ lo ≤ hi ∧ n = mx (mx 0 (lo - m)) (m - hi) ∧ f = 0)) := by
  have hv : ∀ n, dam_isValue.f n = some (isVal n) := by
    intro n
    unfold dam_isValue.f dam_isSized.f
    rw [dwithin_f, pw64 (n := -1000000) (by decide) (by decide)]; rfl
  have hj : ∀ b, dam_DeviationOf.j0 1000 m b lo hi = some (if b = true then (if lo ≤ hi then (mx (mx 0 (wrap64 (lo - m))) (wrap64 (m - hi)), 0) else (0, 9)) else (0, 2)) := by
    intro b
    rw [show (1000 : Nat) = 999 + 1 from rfl]
    simp only [dam_DeviationOf.j0]
    rw [dunless_f, dunless_f]
    simp only [Option.bind_some]
    rw [dfirst_f _ _ (by simp) (by simp)]
    simp only [Option.bind_some]
    cases b
    · rfl
    · by_cases h : lo ≤ hi
      · rw [if_pos rfl, if_pos h, show decide (lo ≤ hi) = true from decide_eq_true h]; rfl
      · rw [if_pos rfl, if_neg h, show decide (lo ≤ hi) = false from decide_eq_false h]; rfl
  unfold dam_DeviationOf.f
  rw [hv lo, hv hi, hv m]
  simp only [Option.bind_some]
  rw [hj, hj]
  cases h1 : isVal lo
  · exact ⟨0, 2, rfl, .inl ⟨.inl rfl, rfl, rfl⟩⟩
  cases h2 : isVal hi
  · exact ⟨0, 2, rfl, .inl ⟨.inr (.inl rfl), rfl, rfl⟩⟩
  cases h3 : isVal m
  · exact ⟨0, 2, rfl, .inl ⟨.inr (.inr rfl), rfl, rfl⟩⟩
  unfold isVal at h1 h2 h3
  simp only [Bool.and_eq_true, decide_eq_true_eq] at h1 h2 h3
  by_cases h : lo ≤ hi
  · refine ⟨_, _, ?_, .inr (.inr ⟨rfl, rfl, rfl, h, rfl, rfl⟩)⟩
    simp only [if_true]
    rw [if_pos h, pw64 (n := lo - m) (by omega) (by omega), pw64 (n := m - hi) (by omega) (by omega)]
  · refine ⟨_, _, ?_, .inr (.inl ⟨rfl, rfl, rfl, by omega, rfl, rfl⟩)⟩
    simp only [if_true]
    rw [if_neg h]
end Go.Proofs.Yteopooljohdoiaa.Px
namespace Go.Proofs.Yteopooljohdoiaa.Px
open Go.RowKit Go.Proofs.YteopooljohdoiaaW.PrintWords Go.Proofs.YteopooljohdoiaaW.PrintLast Go.Proofs.YteopooljohdoiaaW.PrintMore
attribute [local go_sem] max2_int min2_int max_two min_two max_three min_three max_four min_four
attribute [local go_sem high] eqA88
theorem take_op {P : Program} {md : Region.Mode} {l : List Oper} {Q : Exit → Act → World → Prop} {S : World → Prop} {i : Nat} {oi : Oper} {v : Value} {fuel : Nat} {listed : Array Bool} {a : Act} {w : World} (hi : l[i]? = some oi)
    (hs : Region.noSelect l.toArray = true) (hf : Region.free md l.toArray listed i = true) (hr : (Region.ready md l.toArray listed).contains i = true)
    (hQ : ∀ c a w, Q (.panic c) (a.put oi.dst v) w → Q (.panic c) a w) (hy : YieldsIf P l.toArray S oi v a) (hS : S w)
    (h : wpAnyH P md l.toArray Q S fuel (listed.setIfInBounds i true) (a.put oi.dst v) w) : wpAnyH P md l.toArray Q S (fuel + 1) listed a w :=
  wpAnyH_take (ops := l.toArray) (by simpa using hi) hs hf hr hQ hy hS h
theorem take_call {P : Program} {md : Region.Mode} {l : List Oper} {Q : Exit → Act → World → Prop} {S : World → Prop} {i : Nat} {oi : Oper} {fuel : Nat} {listed : Array Bool} {a : Act} {w : World} (hr : Region.ready md l.toArray listed = [i]) (hi : l[i]? = some oi)
    (h : ∀ K' : Act → World → Prop, Shut (∀ a w, S w → (S w → wpAnyH P md l.toArray Q S fuel (listed.setIfInBounds i true) a w) → K' a w) → if Region.wanted oi (yielded l.toArray a.tmps) = true then Oper.wp P oi a w K' Q else K' (a.put oi.dst undef) w) : wpAnyH P md l.toArray Q S (fuel + 1) listed a w :=
  wpAnyH_ready hr (by simp) (AllReadyH.cons (by simpa using hi) h AllReadyH.nil)
theorem cel4 {w : World} {g : Nat} {t : TypeId} {a b c d : Value} (h : w.heap[g]? = some (.cells #[a, b, c, d] t (0, 0))) : w.cell? ⟨g, 0, none⟩ = some a ∧ w.cell? ⟨g, 1, none⟩ = some b ∧ w.cell? ⟨g, 2, none⟩ = some c ∧ w.cell? ⟨g, 3, none⟩ = some d :=
  ⟨(blk_cell h 0).trans rfl, (blk_cell h 1).trans rfl, (blk_cell h 2).trans rfl, (blk_cell h 3).trans rfl⟩
theorem cel3 {w : World} {g : Nat} {t : TypeId} {a b c : Value} (h : w.heap[g]? = some (.cells #[a, b, c] t (0, 0))) : w.cell? ⟨g, 0, none⟩ = some a ∧ w.cell? ⟨g, 1, none⟩ = some b ∧ w.cell? ⟨g, 2, none⟩ = some c :=
  ⟨(blk_cell h 0).trans rfl, (blk_cell h 1).trans rfl, (blk_cell h 2).trans rfl⟩
theorem alo1 (w : World) (a : Array Value) (ta : TypeId) : ∃ w1, w1 = w.alloc (.cells a ta) ∧ w1.heap[w.heap.size]? = some (.cells a ta (0, 0)) ∧ Below w.heap.size w w1 := ⟨_, rfl, blk_new _ _, below_alloc (Below.refl _ _) _⟩
theorem alo2 (w : World) (a b : Array Value) (ta tb : TypeId) : ∃ w1, w1 = (w.alloc (.cells a ta)).alloc (.cells b tb) ∧ w1.heap[w.heap.size]? = some (.cells a ta (0, 0)) ∧ w1.heap[w.heap.size + 1]? = some (.cells b tb (0, 0)) ∧ Below w.heap.size w w1 := by
  refine ⟨_, rfl, blk_alloc (blk_new _ _) _, ?_, below_alloc (below_alloc (Below.refl _ _) _) _⟩
  have h := blk_new (w.alloc (.cells a ta)) (.cells b tb)
  rwa [show (w.alloc (.cells a ta)).heap.size = w.heap.size + 1 from Array.size_push _] at h
theorem cel2 {w : World} {g : Nat} {t : TypeId} {a b : Value} (h : w.heap[g]? = some (.cells #[a, b] t (0, 0))) : w.cell? ⟨g, 0, none⟩ = some a ∧ w.cell? ⟨g, 1, none⟩ = some b :=
  ⟨(blk_cell h 0).trans rfl, (blk_cell h 1).trans rfl⟩
theorem keepXD {wr W : World} {X D : Nat} {T V : TypeId} {a b c d p q r : Value} (hX : wr.heap[X]? = some (.cells #[a, b, c, d] T (0, 0))) (hD : wr.heap[D]? = some (.cells #[p, q, r] V (0, 0))) (h : Below wr.heap.size wr W) :
    W.cell? ⟨D, 0, none⟩ = some p ∧ W.cell? ⟨D, 1, none⟩ = some q ∧ W.cell? ⟨D, 2, none⟩ = some r ∧ W.cell? ⟨X, 0, none⟩ = some a ∧ W.cell? ⟨X, 1, none⟩ = some b ∧ W.cell? ⟨X, 2, none⟩ = some c ∧ W.cell? ⟨X, 3, none⟩ = some d ∧ Below wr.heap.size wr W := by
  obtain ⟨h0, h1, h2⟩ := cel3 (blk_below hD h)
  obtain ⟨x0, x1, x2, x3⟩ := cel4 (blk_below hX h)
  exact ⟨h0, h1, h2, x0, x1, x2, x3, h⟩
set_option maxHeartbeats 8000000 in
set_option maxRecDepth 100000 in
theorem damDeviations_walk (A0_0 : Option Addr) (c0_0 : Nat) (l0_0 : List Int) (A0_1 : Option Addr) (c0_1 : Nat) (l0_1 : List Int) (a0_2 : Int) (A0_3 : Option Addr) (c0_3 : Nat) (l0_3 : List S135) (A1 : Option Addr) (c1 : Nat) (l1 : List Int) (a2_0 a2_1 : Int) (w : World) (hr0_0 : Kd.C (Kd.int .i64) w A0_0 l0_0.length l0_0) (hc0_0 : l0_0.length ≤ c0_0) (hr0_1 : Kd.C (Kd.int .i64) w A0_1 l0_1.length l0_1) (hc0_1 : l0_1.length ≤ c0_1) (hr0_3 : Kd.C k135 w A0_3 l0_3.length l0_3) (hc0_3 : l0_3.length ≤ c0_3) (hr1 : Kd.C (Kd.int .i64) w A1 l1.length l1) (hc1 : l1.length ≤ c1) :
    Calls Try.prog 8 #[.agg #[.slice A0_0 l0_0.length c0_0, .slice A0_1 l0_1.length c0_1, .int .i64 a0_2, .slice A0_3 l0_3.length c0_3], .slice A1 l1.length c1, .agg #[.int .i64 a2_0, .int .i64 a2_1]] w fun e w' => e = .returned (.bool true) ∧ Below w.heap.size w w' := by
  have hu1 := Try.underlying85
  have hu2 := Try.underlying88
  have hu3 := Try.underlying78
  have HR0 := Aside0.mk hr0_0
  have HR1 := Aside0.mk hr0_1
  have HR3 := Aside0.mk hr0_3
  have HRL := Aside0.mk hr1
  have HC := Aside0.mk (And.intro hc0_0 (And.intro hc0_1 (And.intro hc0_3 hc1)))
  clear hr0_0 hr0_1 hr0_3 hc0_0 hc0_1 hc0_3 hr1 hc1
  obtain ⟨few, hf, hfew⟩ := few_f l0_0 l0_1 a0_2 l0_3 1000 (by omega)
  have HF := Aside0.mk hf
  have HFW := Aside0.mk hfew
  clear hf hfew
  go_enter Try.func8, Try.ntmps8
  go_upto_region 1 with fail
  obtain ⟨w1, hw, hX, hS, hb1⟩ := alo2 w #[.slice A0_0 l0_0.length c0_0, .slice A0_1 l0_1.length c0_1, .int .i64 a0_2, .slice A0_3 l0_3.length c0_3] #[.int .i64 a2_0, .int .i64 a2_1] 85 78
  rw [← hw]
  have HX := Aside0.mk hX
  have HS := Aside0.mk hS
  have HB := Aside0.mk hb1
  clear hX hS hb1 hw
  go_upto_region 3 with (go_at_call 10; refine (guidevanelaw09_awake.calls true _ rfl).mono ?_; rintro e w2 ⟨rfl, hb⟩; have nb := Aside0.mk (below_step HB.out hb); have nx := Aside0.mk (blk_below HX.out hb); have ns := Aside0.mk (blk_below HS.out hb); clear HB HX HS hb; have HB := nb; have HX := nx; have HS := ns; clear nb nx ns)
  obtain ⟨hx0, hx1, hx2, hx3⟩ := cel4 HX.out
  cases few
  · go_wp2_with (go_at_call 46; refine (guidevanelaw09_fewRules.calls 1000 A0_0 c0_0 l0_0 A0_1 c0_1 l0_1 a0_2 A0_3 c0_3 l0_3 false _ (Kd.C_below HR0.out HB.out) HC.out.1 (Kd.C_below HR1.out HB.out) HC.out.2.1 (Kd.C_below HR3.out HB.out) HC.out.2.2.1 HF.out).mono ?_; rintro e_ wa ⟨rfl, hb⟩; have nb := Aside0.mk (below_step HB.out hb); have nx := Aside0.mk (blk_below HX.out hb); have ns := Aside0.mk (blk_below HS.out hb); clear HB HX HS hb; have HB := nb; have HX := nx; have HS := ns; clear nb nx ns)
    go_ret
    exact ⟨rfl, HB.out⟩
  have h := HFW.out rfl
  by_cases hlen : (102 : Int) < (l1.length : Int)
  · go_wp2_with (go_at_call 46; refine (guidevanelaw09_fewRules.calls 1000 A0_0 c0_0 l0_0 A0_1 c0_1 l0_1 a0_2 A0_3 c0_3 l0_3 true _ (Kd.C_below HR0.out HB.out) HC.out.1 (Kd.C_below HR1.out HB.out) HC.out.2.1 (Kd.C_below HR3.out HB.out) HC.out.2.2.1 HF.out).mono ?_; rintro e_ wa ⟨rfl, hb⟩; have nb := Aside0.mk (below_step HB.out hb); have nx := Aside0.mk (blk_below HX.out hb); have ns := Aside0.mk (blk_below HS.out hb); clear HB HX HS hb; have HB := nb; have HX := nx; have HS := ns; clear nb nx ns)
    go_ret
    exact ⟨rfl, HB.out⟩
  have hl : l1.length ≤ 102 := by omega
  have HCP := Aside0.mk (copyRules_f l0_0 l0_1 a0_2 l0_3 h)
  have HCI := Aside0.mk (copyInts_f l1 (by omega))
  obtain ⟨e, s0, s1, s2, g, D, hwo, hre, hD, hcase⟩ := dev_cases l0_0 l0_1 a0_2 l0_3 l1 h hl
  have HWO := Aside0.mk hwo
  have HRE := Aside0.mk hre
  have HDD := Aside0.mk hD
  have HCS := Aside0.mk hcase
  clear h hwo hre hD hcase HFW
  go_upto_region 5 with (go_at_call 46; refine (guidevanelaw09_fewRules.calls 1000 A0_0 c0_0 l0_0 A0_1 c0_1 l0_1 a0_2 A0_3 c0_3 l0_3 true _ (Kd.C_below HR0.out HB.out) HC.out.1 (Kd.C_below HR1.out HB.out) HC.out.2.1 (Kd.C_below HR3.out HB.out) HC.out.2.2.1 HF.out).mono ?_; rintro e_ wa ⟨rfl, hb⟩; have nb := Aside0.mk (below_step HB.out hb); have nx := Aside0.mk (blk_below HX.out hb); have ns := Aside0.mk (blk_below HS.out hb); clear HB HX HS hb; have HB := nb; have HX := nx; have HS := ns; clear nb nx ns)
  clear hx0 hx1 hx2 hx3
  obtain ⟨hx0, hx1, hx2, hx3⟩ := cel4 HX.out
  go_upto_region 6 with (first | (go_at_call 48; refine (guidevaneref09_CopyRules.calls A0_0 c0_0 l0_0 A0_1 c0_1 l0_1 a0_2 A0_3 c0_3 l0_3 l0_0 l0_1 a0_2 l0_3 _ (Kd.C_below HR0.out HB.out) HC.out.1 (Kd.C_below HR1.out HB.out) HC.out.2.1 (Kd.C_below HR3.out HB.out) HC.out.2.2.1 HCP.out).mono ?_; rintro e_ wc ⟨v0, v1, v3, rfl, hR0, hR1, hR3, hb⟩; obtain ⟨B0, b0, e0, g0, C0⟩ := Kd.R_reads hR0; subst e0; obtain ⟨B1, b1, e0, g1, C1⟩ := Kd.R_reads hR1; subst e0; obtain ⟨B3, b3, e0, g3, C3⟩ := Kd.R_reads hR3; subst e0; have HQ0 := Aside0.mk (And.intro g0 C0); have HQ1 := Aside0.mk (And.intro g1 C1); have HQ3 := Aside0.mk (And.intro g3 C3); clear hR0 hR1 hR3 g0 C0 g1 C1 g3 C3; have nb := Aside0.mk (below_step HB.out hb); have nx := Aside0.mk (blk_below HX.out hb); have ns := Aside0.mk (blk_below HS.out hb); clear HB HX HS hb; have HB := nb; have HX := nx; have HS := ns; clear nb nx ns) | (go_at_call 49; refine (guidevanebase_CopyInts.calls A1 c1 l1 l1 _ (Kd.C_below HRL.out HB.out) HC.out.2.2.2 HCI.out).mono ?_; rintro e_ wd ⟨v0, rfl, hR0, hb⟩; obtain ⟨B4, b4, e0, g0, C0⟩ := Kd.R_reads hR0; subst e0; have HQ4 := Aside0.mk (And.intro g0 C0); have HBD := Aside0.mk hb; clear hR0 g0 C0; have nb := Aside0.mk (below_step HB.out hb); have nx := Aside0.mk (blk_below HX.out hb); have ns := Aside0.mk (blk_below HS.out hb); clear HB HX HS hb; have HB := nb; have HX := nx; have HS := ns; clear nb nx ns) | (go_at_call 47; refine (dam_WatchOf.calls 1000 B0 b0 l0_0 B1 b1 l0_1 a0_2 B3 b3 l0_3 B4 b4 l1 s0 s1 s2 g _ (Kd.C_below HQ0.out.2 HBD.out) HQ0.out.1 (Kd.C_below HQ1.out.2 HBD.out) HQ1.out.1 (Kd.C_below HQ3.out.2 HBD.out) HQ3.out.1 HQ4.out.2 HQ4.out.1 HWO.out).mono ?_; rintro e_ we ⟨rfl, hb⟩; have nb := Aside0.mk (below_step HB.out hb); have nx := Aside0.mk (blk_below HX.out hb); have ns := Aside0.mk (blk_below HS.out hb); clear HB HX HS hb; have HB := nb; have HX := nx; have HS := ns; clear nb nx ns))
  clear hx0 hx1 hx2 hx3 HQ0 HQ1 HQ3 HQ4 HBD
  obtain ⟨wf, hw, hD0, hb0⟩ := alo1 we #[.int .i64 s0, .int .i64 s1, .int .i64 s2] 88
  rw [← hw]
  have hb := hb0
  have nb := Aside0.mk (below_step HB.out hb); have nx := Aside0.mk (blk_below HX.out hb); have ns := Aside0.mk (blk_below HS.out hb); clear HB HX HS hb; have HB := nb; have HX := nx; have HS := ns; clear nb nx ns
  have HD := Aside0.mk hD0
  clear hD0 hb0 hw
  generalize we.heap.size = G at *
  obtain ⟨hx0, hx1, hx2, hx3⟩ := cel4 HX.out
  go_upto_region 7 with (go_at_call 50; refine (guidevaneref09_RulesErr.calls A0_0 c0_0 l0_0 A0_1 c0_1 l0_1 a0_2 A0_3 c0_3 l0_3 e _ (Kd.C_below HR0.out HB.out) HC.out.1 (Kd.C_below HR1.out HB.out) HC.out.2.1 (Kd.C_below HR3.out HB.out) HC.out.2.2.1 HRE.out).mono ?_; rintro e_ wa ⟨rfl, hb⟩; have nb := Aside0.mk (below_step HB.out hb); have nx := Aside0.mk (blk_below HX.out hb); have ns := Aside0.mk (blk_below HS.out hb); have nd := Aside0.mk (blk_below HD.out hb); clear HB HX HS HD hb; have HB := nb; have HX := nx; have HS := ns; have HD := nd; clear nb nx ns nd)
  clear hx0 hx1 hx2 hx3
  go_cut [41] (fun b wx => b = .bool (decide (e = 0 ∧ 100 < l1.length)) ∧ wx = wa)
  case first =>
    by_cases hz : e = 0
    · subst hz
      by_cases h8 : (100 : Int) < (l1.length : Int)
      · have HQ := Aside0.mk (show decide ((0 : Int) = 0 ∧ 100 < l1.length) = true from decide_eq_true ⟨rfl, by omega⟩)
        go_wp2_with fail
        go_meet
        exact ⟨by rw [HQ.out], rfl⟩
      · have HQ := Aside0.mk (show decide ((0 : Int) = 0 ∧ 100 < l1.length) = false from decide_eq_false (by omega))
        go_wp2_with fail
        go_meet
        exact ⟨by rw [HQ.out], rfl⟩
    · have HQ := Aside0.mk (show decide (e = 0 ∧ 100 < l1.length) = false from decide_eq_false (fun h => hz h.1))
      have hzb : (e == 0) = false := beq_eq_false_iff_ne.2 hz
      clear hz
      go_wp2_with fail
      go_meet
      exact ⟨by rw [HQ.out], rfl⟩
  case rest =>
    obtain ⟨rfl, hwc⟩ := hcut
    subst hwc
    obtain ⟨wa, hwa⟩ : ∃ z, z = wc := ⟨_, rfl⟩
    subst hwa
    have HLE := Aside0.mk (show lenErr e l1.length = if decide (e = 0 ∧ 100 < l1.length) = true then 8 else e from by unfold lenErr; simp only [decide_eq_true_eq])
    generalize decide (e = 0 ∧ 100 < l1.length) = c at *
    go_upto_if 41 with fail
    go_cut [9] (fun d wx => d = .int .i64 (lenErr e l1.length) ∧ wx = wa)
    case first =>
      cases c <;> (go_wp2_with fail; go_meet; exact ⟨by rw [HLE.out]; rfl, rfl⟩)
    case rest =>
    obtain ⟨rfl, hwc⟩ := hcut
    subst hwc
    generalize lenErr e l1.length = d0 at *
    go_wp2
    go_loopg [9, 10, 11] l1.length (fun gg p q r W => ∃ i : Nat, i ≤ l1.length ∧ l1.length - i ≤ gg ∧ p = .int .i64 (dL d0 l1 i) ∧ q = .int .i64 (mvL l1 i) ∧ r = .int .i64 i ∧ Aside0 (Below w.heap.size w W) ∧ Aside0 (W.heap[w.heap.size]? = some (.cells #[.slice A0_0 l0_0.length c0_0, .slice A0_1 l0_1.length c0_1, .int .i64 a0_2, .slice A0_3 l0_3.length c0_3] 85 (0, 0))) ∧ Aside0 (W.heap[w.heap.size + 1]? = some (.cells #[.int .i64 a2_0, .int .i64 a2_1] 78 (0, 0))) ∧ Aside0 (W.heap[G]? = some (.cells #[.int .i64 s0, .int .i64 s1, .int .i64 s2] 88 (0, 0))))
    case atStart => exact ⟨0, by omega, by omega, rfl, rfl, rfl, HB, HX, HS, HD⟩
    case round =>
      clear HB HX HS HD
      obtain ⟨i, hi, hgg, rfl, rfl, rfl, HB, HX, HS, HD⟩ := hrel
      by_cases hin : i < l1.length
      case pos =>
        have hin2 : (i : Int) < (l1.length : Int) := by omega
        obtain ⟨ad, e1, hu1⟩ := Kd.at_int (Kd.C_below HRL.out HB.out) (i : Int) (by omega) (by omega)
        cases e1
        rw [show rd l1 (i : Int) = l1.getD i 0 from rd_nat _ _, Int.toNat_natCast] at hu1
        obtain ⟨x, hx⟩ : ∃ x, x = l1.getD i 0 := ⟨_, rfl⟩
        obtain ⟨y, hy⟩ : ∃ y : Int, y = if devOk x = true then 0 else 2 := ⟨_, rfl⟩
        have HDN := Aside0.mk (show dL d0 l1 (i + 1) = if dL d0 l1 i = 0 then y else dL d0 l1 i from by rw [hy, hx]; rfl)
        have HY := Aside0.mk (show guidevaneref09_DeviationErr.f x = some y from by rw [hy]; exact devErr_f x)
        clear hy
        have HMN := Aside0.mk (show mvL l1 (i + 1) = x from by rw [hx]; rfl)
        rw [← hx] at hu1
        generalize dL d0 l1 i = d at *
        generalize mvL l1 i = m at *
        clear hx
        by_cases hz : d = 0
        · subst hz
          go_wp2_with (go_at_call 51; refine (guidevaneref09_DeviationErr.calls x y _ HY.out).mono ?_; rintro e_ wk ⟨rfl, hdr⟩; have hb := hdr.below; clear hdr; have hu1 := (hb.cell (World.block_lt_of_cell? _ _ hu1)).trans hu1; have nb := Aside0.mk (below_step HB.out hb); have nx := Aside0.mk (blk_below HX.out hb); have ns := Aside0.mk (blk_below HS.out hb); have nd := Aside0.mk (blk_below HD.out hb); clear HB HX HS HD hb; have HB := nb; have HX := nx; have HS := ns; have HD := nd; clear nb nx ns nd)
          go_roundg (l1.length - (i + 1))
          case measure => omega
          case rel => exact ⟨i + 1, by omega, by omega, by rw [HDN.out]; simp, by rw [HMN.out], by go_num, HB, HX, HS, HD⟩
        · have hzb : (d == 0) = false := beq_eq_false_iff_ne.2 hz
          have HZ := Aside0.mk hz
          clear hz
          go_wp2_with fail
          go_roundg (l1.length - (i + 1))
          case measure => omega
          case rel => exact ⟨i + 1, by omega, by omega, by rw [HDN.out, if_neg HZ.out], by rw [HMN.out], by go_num, HB, HX, HS, HD⟩
      case neg =>
        obtain rfl : i = l1.length := by omega
        have HE := HDD.out
        generalize dL d0 l1 l1.length = D2 at *
        generalize mvL l1 l1.length = m at *
        clear HDD
        obtain rfl := HE
        obtain ⟨hx0, hx1, hx2, hx3⟩ := cel4 HX.out
        obtain ⟨hd0, hd1, hd2⟩ := cel3 HD.out
        go_upto_region 16 with fail
        go_cut [85] (fun b wx => b = .bool false ∧ Aside0 (Below w.heap.size w wx) ∧ Aside0 (wx.heap[w.heap.size + 1]? = some (.cells #[.int .i64 a2_0, .int .i64 a2_1] 78 (0, 0))))
        case first =>
          rcases HCS.out with ⟨hz, rfl, rfl, rfl, rfl⟩ | ⟨rfl, rfl, hwt⟩
          · clear HCS
            have he1 : (_ != (0 : Int)) = true := bne_iff_ne.2 hz
            have he2 : (_ == (0 : Int)) = false := beq_eq_false_iff_ne.2 hz
            clear hz
            go_quiet (fail)
            go_wp2
            go_meet
            exact ⟨rfl, Aside0.mk (pw_below_drewN HB.out _), HS⟩
          · have HWT := Aside0.mk hwt
            clear HCS hwt
            refine wp_region_noPanic ?_
            refine wp_region_held_drew (S := (fun w' => w'.cell? ⟨G, 0, none⟩ = some (.int .i64 s0) ∧ w'.cell? ⟨G, 1, none⟩ = some (.int .i64 s1) ∧ w'.cell? ⟨G, 2, none⟩ = some (.int .i64 s2) ∧ w'.cell? ⟨w.heap.size, 0, none⟩ = some (.slice A0_0 l0_0.length c0_0) ∧ w'.cell? ⟨w.heap.size, 1, none⟩ = some (.slice A0_1 l0_1.length c0_1) ∧ w'.cell? ⟨w.heap.size, 2, none⟩ = some (.int .i64 a0_2) ∧ w'.cell? ⟨w.heap.size, 3, none⟩ = some (.slice A0_3 l0_3.length c0_3) ∧ Below wr.heap.size wr w')) (by kernel_rfl) (keepXD HX.out HD.out (below_drew (Below.refl _ _))) (fun hHeld => ?_)
            refine take_op (i := 0) (v := ?v0) rfl (by kernel_rfl) (by kernel_rfl) (by kernel_rfl) (fun _ _ _ h => h) (Or.inl ⟨by rfl, ?hy0⟩) (by assumption) ?_
            case hy0 => intro w9 hSw; (try dsimp only at hSw); go_simp; (try with_reducible rfl)
            try simp only [Act.put, List.setIfInBounds_toArray, List.set_cons_zero, List.set_cons_succ]
            refine take_op (i := 1) (v := ?v1) rfl (by kernel_rfl) (by kernel_rfl) (by kernel_rfl) (fun _ _ _ h => h) (Or.inl ⟨by rfl, ?hy1⟩) (by assumption) ?_
            case hy1 => intro w9 hSw; (try dsimp only at hSw); go_simp; (try with_reducible rfl)
            try simp only [Act.put, List.setIfInBounds_toArray, List.set_cons_zero, List.set_cons_succ]
            refine take_op (i := 2) (v := ?v2) rfl (by kernel_rfl) (by kernel_rfl) (by kernel_rfl) (fun _ _ _ h => h) (Or.inl ⟨by rfl, ?hy2⟩) (by assumption) ?_
            case hy2 => intro w9 hSw; (try dsimp only at hSw); go_simp; (try with_reducible rfl)
            try simp only [Act.put, List.setIfInBounds_toArray, List.set_cons_zero, List.set_cons_succ]
            refine take_op (i := 3) (v := undef) rfl (by kernel_rfl) (by kernel_rfl) (by kernel_rfl) (fun _ _ _ h => h) (Or.inr ⟨by rfl, rfl⟩) (by assumption) ?_
            try simp only [Act.put, List.setIfInBounds_toArray, List.set_cons_zero, List.set_cons_succ]
            refine take_op (i := 4) (v := undef) rfl (by kernel_rfl) (by kernel_rfl) (by kernel_rfl) (fun _ _ _ h => h) (Or.inr ⟨by rfl, rfl⟩) (by assumption) ?_
            try simp only [Act.put, List.setIfInBounds_toArray, List.set_cons_zero, List.set_cons_succ]
            refine take_op (i := 5) (v := undef) rfl (by kernel_rfl) (by kernel_rfl) (by kernel_rfl) (fun _ _ _ h => h) (Or.inr ⟨by rfl, rfl⟩) (by assumption) ?_
            try simp only [Act.put, List.setIfInBounds_toArray, List.set_cons_zero, List.set_cons_succ]
            refine take_op (i := 6) (v := undef) rfl (by kernel_rfl) (by kernel_rfl) (by kernel_rfl) (fun _ _ _ h => h) (Or.inr ⟨by rfl, rfl⟩) (by assumption) ?_
            try simp only [Act.put, List.setIfInBounds_toArray, List.set_cons_zero, List.set_cons_succ]
            refine take_op (i := 7) (v := undef) rfl (by kernel_rfl) (by kernel_rfl) (by kernel_rfl) (fun _ _ _ h => h) (Or.inr ⟨by rfl, rfl⟩) (by assumption) ?_
            try simp only [Act.put, List.setIfInBounds_toArray, List.set_cons_zero, List.set_cons_succ]
            refine take_op (i := 8) (v := undef) rfl (by kernel_rfl) (by kernel_rfl) (by kernel_rfl) (fun _ _ _ h => h) (Or.inr ⟨by rfl, rfl⟩) (by assumption) ?_
            try simp only [Act.put, List.setIfInBounds_toArray, List.set_cons_zero, List.set_cons_succ]
            refine take_op (i := 9) (v := undef) rfl (by kernel_rfl) (by kernel_rfl) (by kernel_rfl) (fun _ _ _ h => h) (Or.inr ⟨by rfl, rfl⟩) (by assumption) ?_
            try simp only [Act.put, List.setIfInBounds_toArray, List.set_cons_zero, List.set_cons_succ]
            refine take_op (i := 10) (v := undef) rfl (by kernel_rfl) (by kernel_rfl) (by kernel_rfl) (fun _ _ _ h => h) (Or.inr ⟨by rfl, rfl⟩) (by assumption) ?_
            try simp only [Act.put, List.setIfInBounds_toArray, List.set_cons_zero, List.set_cons_succ]
            refine take_op (i := 11) (v := ?v11) rfl (by kernel_rfl) (by kernel_rfl) (by kernel_rfl) (fun _ _ _ h => h) (Or.inl ⟨by rfl, ?hy11⟩) (by assumption) ?_
            case hy11 => intro w9 hSw; (try dsimp only at hSw); go_simp; (try with_reducible rfl)
            try simp only [Act.put, List.setIfInBounds_toArray, List.set_cons_zero, List.set_cons_succ]
            refine take_op (i := 12) (v := ?v12) rfl (by kernel_rfl) (by kernel_rfl) (by kernel_rfl) (fun _ _ _ h => h) (Or.inl ⟨by rfl, ?hy12⟩) (by assumption) ?_
            case hy12 => intro w9 hSw; (try dsimp only at hSw); go_simp; (try with_reducible rfl)
            try simp only [Act.put, List.setIfInBounds_toArray, List.set_cons_zero, List.set_cons_succ]
            refine take_op (i := 13) (v := ?v13) rfl (by kernel_rfl) (by kernel_rfl) (by kernel_rfl) (fun _ _ _ h => h) (Or.inl ⟨by rfl, ?hy13⟩) (by assumption) ?_
            case hy13 => intro w9 hSw; (try dsimp only at hSw); go_simp; (try with_reducible rfl)
            try simp only [Act.put, List.setIfInBounds_toArray, List.set_cons_zero, List.set_cons_succ]
            refine take_op (i := 14) (v := ?v14) rfl (by kernel_rfl) (by kernel_rfl) (by kernel_rfl) (fun _ _ _ h => h) (Or.inl ⟨by rfl, ?hy14⟩) (by assumption) ?_
            case hy14 => intro w9 hSw; (try dsimp only at hSw); go_simp; (try with_reducible rfl)
            try simp only [Act.put, List.setIfInBounds_toArray, List.set_cons_zero, List.set_cons_succ]
            refine take_op (i := 15) (v := ?v15) rfl (by kernel_rfl) (by kernel_rfl) (by kernel_rfl) (fun _ _ _ h => h) (Or.inl ⟨by rfl, ?hy15⟩) (by assumption) ?_
            case hy15 => intro w9 hSw; (try dsimp only at hSw); go_simp; (try with_reducible rfl)
            try simp only [Act.put, List.setIfInBounds_toArray, List.set_cons_zero, List.set_cons_succ]
            refine take_op (i := 16) (v := ?v16) rfl (by kernel_rfl) (by kernel_rfl) (by kernel_rfl) (fun _ _ _ h => h) (Or.inl ⟨by rfl, ?hy16⟩) (by assumption) ?_
            case hy16 => intro w9 hSw; (try dsimp only at hSw); go_simp; (try with_reducible rfl)
            try simp only [Act.put, List.setIfInBounds_toArray, List.set_cons_zero, List.set_cons_succ]
            refine take_op (i := 17) (v := ?v17) rfl (by kernel_rfl) (by kernel_rfl) (by kernel_rfl) (fun _ _ _ h => h) (Or.inl ⟨by rfl, ?hy17⟩) (by assumption) ?_
            case hy17 => intro w9 hSw; (try dsimp only at hSw); go_simp; (try with_reducible rfl)
            try simp only [Act.put, List.setIfInBounds_toArray, List.set_cons_zero, List.set_cons_succ]
            refine take_op (i := 18) (v := ?v18) rfl (by kernel_rfl) (by kernel_rfl) (by kernel_rfl) (fun _ _ _ h => h) (Or.inl ⟨by rfl, ?hy18⟩) (by assumption) ?_
            case hy18 => intro w9 hSw; (try dsimp only at hSw); go_simp; (try with_reducible rfl)
            try simp only [Act.put, List.setIfInBounds_toArray, List.set_cons_zero, List.set_cons_succ]
            refine take_op (i := 19) (v := ?v19) rfl (by kernel_rfl) (by kernel_rfl) (by kernel_rfl) (fun _ _ _ h => h) (Or.inl ⟨by rfl, ?hy19⟩) (by assumption) ?_
            case hy19 => intro w9 hSw; (try dsimp only at hSw); go_simp; (try with_reducible rfl)
            try simp only [Act.put, List.setIfInBounds_toArray, List.set_cons_zero, List.set_cons_succ]
            refine take_op (i := 20) (v := ?v20) rfl (by kernel_rfl) (by kernel_rfl) (by kernel_rfl) (fun _ _ _ h => h) (Or.inl ⟨by rfl, ?hy20⟩) (by assumption) ?_
            case hy20 => intro w9 hSw; (try dsimp only at hSw); go_simp; (try with_reducible rfl)
            try simp only [Act.put, List.setIfInBounds_toArray, List.set_cons_zero, List.set_cons_succ]
            refine take_op (i := 21) (v := ?v21) rfl (by kernel_rfl) (by kernel_rfl) (by kernel_rfl) (fun _ _ _ h => h) (Or.inl ⟨by rfl, ?hy21⟩) (by assumption) ?_
            case hy21 => intro w9 hSw; (try dsimp only at hSw); go_simp; (try with_reducible rfl)
            try simp only [Act.put, List.setIfInBounds_toArray, List.set_cons_zero, List.set_cons_succ]
            refine take_call (i := 22) (by kernel_rfl) rfl (fun K hK => ?_)
            go_simp
            go_at_call 52
            refine (guidevaneref09_Watch.calls 1000 A0_0 c0_0 l0_0 A0_1 c0_1 l0_1 a0_2 A0_3 c0_3 l0_3 A1 c1 l1 s0 s1 s2 _ (Kd.C_below HR0.out (below_drew HB.out)) HC.out.1 (Kd.C_below HR1.out (below_drew HB.out)) HC.out.2.1 (Kd.C_below HR3.out (below_drew HB.out)) HC.out.2.2.1 (Kd.C_below HRL.out (below_drew HB.out)) HC.out.2.2.2 HWT.out).mono ?_
            rintro e_ wb ⟨rfl, hb⟩
            have HB2 := Aside0.mk (below_step HB.out (below_step (below_drew (Below.refl _ _)) hb))
            have HS2 := Aside0.mk (blk_below (w := wr.drew) HS.out hb)
            try dsimp only
            refine hK.out _ _ (keepXD HX.out HD.out (below_step (below_drew (Below.refl _ _)) hb)) (fun hHeld2 => ?_)
            clear hK K
            try simp only [Act.put, List.setIfInBounds_toArray, List.set_cons_zero, List.set_cons_succ]
            refine take_op (i := 23) (v := ?v23) rfl (by kernel_rfl) (by kernel_rfl) (by kernel_rfl) (fun _ _ _ h => h) (Or.inl ⟨by rfl, ?hy23⟩) (by assumption) ?_
            case hy23 => intro w9 hSw; (try dsimp only at hSw); go_simp; (try with_reducible rfl)
            try simp only [Act.put, List.setIfInBounds_toArray, List.set_cons_zero, List.set_cons_succ]
            refine take_op (i := 24) (v := ?v24) rfl (by kernel_rfl) (by kernel_rfl) (by kernel_rfl) (fun _ _ _ h => h) (Or.inl ⟨by rfl, ?hy24⟩) (by assumption) ?_
            case hy24 => intro w9 hSw; (try dsimp only at hSw); go_simp; (try with_reducible rfl)
            try simp only [Act.put, List.setIfInBounds_toArray, List.set_cons_zero, List.set_cons_succ]
            refine take_op (i := 25) (v := ?v25) rfl (by kernel_rfl) (by kernel_rfl) (by kernel_rfl) (fun _ _ _ h => h) (Or.inl ⟨by rfl, ?hy25⟩) (by assumption) ?_
            case hy25 => intro w9 hSw; (try dsimp only at hSw); go_simp; (try with_reducible rfl)
            try simp only [Act.put, List.setIfInBounds_toArray, List.set_cons_zero, List.set_cons_succ]
            refine take_op (i := 26) (v := ?v26) rfl (by kernel_rfl) (by kernel_rfl) (by kernel_rfl) (fun _ _ _ h => h) (Or.inl ⟨by rfl, ?hy26⟩) (by assumption) ?_
            case hy26 => intro w9 hSw; (try dsimp only at hSw); go_simp; (try with_reducible rfl)
            try simp only [Act.put, List.setIfInBounds_toArray, List.set_cons_zero, List.set_cons_succ]
            refine wpAnyH_done (by kernel_rfl) ?_ _
            refine NoPanic.normal ?_
            go_wp2_with fail
            go_meet
            exact ⟨rfl, HB2, HS2⟩
        case rest =>
          obtain ⟨rfl, HB, HS⟩ := hcut
          obtain ⟨n, f, hdo, hdc⟩ := devOf_cases a2_0 a2_1 m
          have hw0 : guidevanebase_Within.f a2_0 (-1000000) 1000000 = some (isVal a2_0) := bwithin_f _ _ _
          have hw1 : guidevanebase_Within.f a2_1 (-1000000) 1000000 = some (isVal a2_1) := bwithin_f _ _ _
          have hw2 : guidevanebase_Within.f m (-1000000) 1000000 = some (isVal m) := bwithin_f _ _ _
          obtain ⟨b0, hb0⟩ : ∃ b, b = isVal a2_0 := ⟨_, rfl⟩
          obtain ⟨b1, hb1⟩ : ∃ b, b = isVal a2_1 := ⟨_, rfl⟩
          obtain ⟨b2, hb2⟩ : ∃ b, b = isVal m := ⟨_, rfl⟩
          rw [← hb0, ← hb1, ← hb2] at hdc
          rw [← hb0] at hw0
          rw [← hb1] at hw1
          rw [← hb2] at hw2
          obtain ⟨hf0, hf1⟩ := cel2 HS.out
          have HDO := Aside0.mk hdo
          have HW0 := Aside0.mk hw0
          have HW1 := Aside0.mk hw1
          have HW2 := Aside0.mk hw2
          have HBV := Aside0.mk (And.intro hb0 (And.intro hb1 hb2))
          clear hdo hw0 hw1 hw2 hb0 hb1 hb2
          rcases hdc with ⟨hbad, rfl, rfl⟩ | ⟨rfl, rfl, rfl, hlt, rfl, rfl⟩ | ⟨rfl, rfl, rfl, hle, hn, rfl⟩
          · clear HBV
            have HBAD := Aside0.mk hbad
            clear hbad
            cases b0
            · go_wp2_with (first | (go_at_call 45; refine (dam_DeviationOf.calls 1000 a2_0 a2_1 m _ _ _ HDO.out).mono ?_; rintro e_ wg ⟨rfl, hb⟩; have nb := Aside0.mk (below_step HB.out hb); have ns := Aside0.mk (blk_below HS.out hb); clear HB HS hb hf0 hf1; have HB := nb; have HS := ns; clear nb ns; obtain ⟨hf0, hf1⟩ := cel2 HS.out) | (go_at_call 15; (with_reducible refine (guidevanebase_Within.calls a2_0 (-1000000) 1000000 _ _ HW0.out).mono ?_); rintro e_ wg ⟨rfl, hdr⟩; have hb := hdr.below; clear hdr; have nb := Aside0.mk (below_step HB.out hb); have ns := Aside0.mk (blk_below HS.out hb); clear HB HS hb hf0 hf1; have HB := nb; have HS := ns; clear nb ns; obtain ⟨hf0, hf1⟩ := cel2 HS.out) | (go_at_call 15; (with_reducible refine (guidevanebase_Within.calls a2_1 (-1000000) 1000000 _ _ HW1.out).mono ?_); rintro e_ wg ⟨rfl, hdr⟩; have hb := hdr.below; clear hdr; have nb := Aside0.mk (below_step HB.out hb); have ns := Aside0.mk (blk_below HS.out hb); clear HB HS hb hf0 hf1; have HB := nb; have HS := ns; clear nb ns; obtain ⟨hf0, hf1⟩ := cel2 HS.out) | (go_at_call 15; (with_reducible refine (guidevanebase_Within.calls m (-1000000) 1000000 _ _ HW2.out).mono ?_); rintro e_ wg ⟨rfl, hdr⟩; have hb := hdr.below; clear hdr; have nb := Aside0.mk (below_step HB.out hb); have ns := Aside0.mk (blk_below HS.out hb); clear HB HS hb hf0 hf1; have HB := nb; have HS := ns; clear nb ns; obtain ⟨hf0, hf1⟩ := cel2 HS.out))
              go_ret
              exact ⟨rfl, HB.out⟩
            cases b1
            · go_wp2_with (first | (go_at_call 45; refine (dam_DeviationOf.calls 1000 a2_0 a2_1 m _ _ _ HDO.out).mono ?_; rintro e_ wg ⟨rfl, hb⟩; have nb := Aside0.mk (below_step HB.out hb); have ns := Aside0.mk (blk_below HS.out hb); clear HB HS hb hf0 hf1; have HB := nb; have HS := ns; clear nb ns; obtain ⟨hf0, hf1⟩ := cel2 HS.out) | (go_at_call 15; (with_reducible refine (guidevanebase_Within.calls a2_0 (-1000000) 1000000 _ _ HW0.out).mono ?_); rintro e_ wg ⟨rfl, hdr⟩; have hb := hdr.below; clear hdr; have nb := Aside0.mk (below_step HB.out hb); have ns := Aside0.mk (blk_below HS.out hb); clear HB HS hb hf0 hf1; have HB := nb; have HS := ns; clear nb ns; obtain ⟨hf0, hf1⟩ := cel2 HS.out) | (go_at_call 15; (with_reducible refine (guidevanebase_Within.calls a2_1 (-1000000) 1000000 _ _ HW1.out).mono ?_); rintro e_ wg ⟨rfl, hdr⟩; have hb := hdr.below; clear hdr; have nb := Aside0.mk (below_step HB.out hb); have ns := Aside0.mk (blk_below HS.out hb); clear HB HS hb hf0 hf1; have HB := nb; have HS := ns; clear nb ns; obtain ⟨hf0, hf1⟩ := cel2 HS.out) | (go_at_call 15; (with_reducible refine (guidevanebase_Within.calls m (-1000000) 1000000 _ _ HW2.out).mono ?_); rintro e_ wg ⟨rfl, hdr⟩; have hb := hdr.below; clear hdr; have nb := Aside0.mk (below_step HB.out hb); have ns := Aside0.mk (blk_below HS.out hb); clear HB HS hb hf0 hf1; have HB := nb; have HS := ns; clear nb ns; obtain ⟨hf0, hf1⟩ := cel2 HS.out))
              go_ret
              exact ⟨rfl, HB.out⟩
            cases b2
            · go_wp2_with (first | (go_at_call 45; refine (dam_DeviationOf.calls 1000 a2_0 a2_1 m _ _ _ HDO.out).mono ?_; rintro e_ wg ⟨rfl, hb⟩; have nb := Aside0.mk (below_step HB.out hb); have ns := Aside0.mk (blk_below HS.out hb); clear HB HS hb hf0 hf1; have HB := nb; have HS := ns; clear nb ns; obtain ⟨hf0, hf1⟩ := cel2 HS.out) | (go_at_call 15; (with_reducible refine (guidevanebase_Within.calls a2_0 (-1000000) 1000000 _ _ HW0.out).mono ?_); rintro e_ wg ⟨rfl, hdr⟩; have hb := hdr.below; clear hdr; have nb := Aside0.mk (below_step HB.out hb); have ns := Aside0.mk (blk_below HS.out hb); clear HB HS hb hf0 hf1; have HB := nb; have HS := ns; clear nb ns; obtain ⟨hf0, hf1⟩ := cel2 HS.out) | (go_at_call 15; (with_reducible refine (guidevanebase_Within.calls a2_1 (-1000000) 1000000 _ _ HW1.out).mono ?_); rintro e_ wg ⟨rfl, hdr⟩; have hb := hdr.below; clear hdr; have nb := Aside0.mk (below_step HB.out hb); have ns := Aside0.mk (blk_below HS.out hb); clear HB HS hb hf0 hf1; have HB := nb; have HS := ns; clear nb ns; obtain ⟨hf0, hf1⟩ := cel2 HS.out) | (go_at_call 15; (with_reducible refine (guidevanebase_Within.calls m (-1000000) 1000000 _ _ HW2.out).mono ?_); rintro e_ wg ⟨rfl, hdr⟩; have hb := hdr.below; clear hdr; have nb := Aside0.mk (below_step HB.out hb); have ns := Aside0.mk (blk_below HS.out hb); clear HB HS hb hf0 hf1; have HB := nb; have HS := ns; clear nb ns; obtain ⟨hf0, hf1⟩ := cel2 HS.out))
              go_ret
              exact ⟨rfl, HB.out⟩
            · rcases HBAD.out with h | h | h <;> cases h
          · clear HBV
            go_wp2_with (first | (go_at_call 45; refine (dam_DeviationOf.calls 1000 a2_0 a2_1 m _ _ _ HDO.out).mono ?_; rintro e_ wg ⟨rfl, hb⟩; have nb := Aside0.mk (below_step HB.out hb); have ns := Aside0.mk (blk_below HS.out hb); clear HB HS hb hf0 hf1; have HB := nb; have HS := ns; clear nb ns; obtain ⟨hf0, hf1⟩ := cel2 HS.out) | (go_at_call 15; (with_reducible refine (guidevanebase_Within.calls a2_0 (-1000000) 1000000 _ _ HW0.out).mono ?_); rintro e_ wg ⟨rfl, hdr⟩; have hb := hdr.below; clear hdr; have nb := Aside0.mk (below_step HB.out hb); have ns := Aside0.mk (blk_below HS.out hb); clear HB HS hb hf0 hf1; have HB := nb; have HS := ns; clear nb ns; obtain ⟨hf0, hf1⟩ := cel2 HS.out) | (go_at_call 15; (with_reducible refine (guidevanebase_Within.calls a2_1 (-1000000) 1000000 _ _ HW1.out).mono ?_); rintro e_ wg ⟨rfl, hdr⟩; have hb := hdr.below; clear hdr; have nb := Aside0.mk (below_step HB.out hb); have ns := Aside0.mk (blk_below HS.out hb); clear HB HS hb hf0 hf1; have HB := nb; have HS := ns; clear nb ns; obtain ⟨hf0, hf1⟩ := cel2 HS.out) | (go_at_call 15; (with_reducible refine (guidevanebase_Within.calls m (-1000000) 1000000 _ _ HW2.out).mono ?_); rintro e_ wg ⟨rfl, hdr⟩; have hb := hdr.below; clear hdr; have nb := Aside0.mk (below_step HB.out hb); have ns := Aside0.mk (blk_below HS.out hb); clear HB HS hb hf0 hf1; have HB := nb; have HS := ns; clear nb ns; obtain ⟨hf0, hf1⟩ := cel2 HS.out))
            go_ret
            exact ⟨rfl, HB.out⟩
          · obtain ⟨h0, h1, h2⟩ := HBV.out
            unfold isVal at h0 h1 h2
            replace h0 := h0.symm
            replace h1 := h1.symm
            replace h2 := h2.symm
            simp only [Bool.and_eq_true, decide_eq_true_eq] at h0 h1 h2
            have hnl : ¬ a2_1 < a2_0 := by omega
            have HN := Aside0.mk hn
            obtain ⟨h00, h01⟩ := h0
            obtain ⟨h10, h11⟩ := h1
            obtain ⟨h20, h21⟩ := h2
            clear HBV hle hn
            go_wp2_with (first | (go_at_call 45; refine (dam_DeviationOf.calls 1000 a2_0 a2_1 m _ _ _ HDO.out).mono ?_; rintro e_ wg ⟨rfl, hb⟩; have nb := Aside0.mk (below_step HB.out hb); have ns := Aside0.mk (blk_below HS.out hb); clear HB HS hb hf0 hf1; have HB := nb; have HS := ns; clear nb ns; obtain ⟨hf0, hf1⟩ := cel2 HS.out) | (go_at_call 15; (with_reducible refine (guidevanebase_Within.calls a2_0 (-1000000) 1000000 _ _ HW0.out).mono ?_); rintro e_ wg ⟨rfl, hdr⟩; have hb := hdr.below; clear hdr; have nb := Aside0.mk (below_step HB.out hb); have ns := Aside0.mk (blk_below HS.out hb); clear HB HS hb hf0 hf1; have HB := nb; have HS := ns; clear nb ns; obtain ⟨hf0, hf1⟩ := cel2 HS.out) | (go_at_call 15; (with_reducible refine (guidevanebase_Within.calls a2_1 (-1000000) 1000000 _ _ HW1.out).mono ?_); rintro e_ wg ⟨rfl, hdr⟩; have hb := hdr.below; clear hdr; have nb := Aside0.mk (below_step HB.out hb); have ns := Aside0.mk (blk_below HS.out hb); clear HB HS hb hf0 hf1; have HB := nb; have HS := ns; clear nb ns; obtain ⟨hf0, hf1⟩ := cel2 HS.out) | (go_at_call 15; (with_reducible refine (guidevanebase_Within.calls m (-1000000) 1000000 _ _ HW2.out).mono ?_); rintro e_ wg ⟨rfl, hdr⟩; have hb := hdr.below; clear hdr; have nb := Aside0.mk (below_step HB.out hb); have ns := Aside0.mk (blk_below HS.out hb); clear HB HS hb hf0 hf1; have HB := nb; have HS := ns; clear nb ns; obtain ⟨hf0, hf1⟩ := cel2 HS.out))
            all_goals
              go_ret
              refine ⟨congrArg (fun b => Ending.returned (.bool b)) (beq_iff_eq.2 ?_), HB.out⟩
              rw [HN.out]
              simp only [mx]
              (repeat' split) <;> omega
end Go.Proofs.Yteopooljohdoiaa.Px
