/- DamTerms: for every input the call returns true and each argument reads afterwards as it read before; no condition. (its contracts and its pure law) -/
import Derived.Test.YteopooljohdoiaaK1
import Derived.Test.YteopooljohdoiaaK2
import Derived.Test.YteopooljohdoiaaK4
namespace Go.Proofs.Yteopooljohdoiaa.Px
open Go.RowKit Go.Proofs.YteopooljohdoiaaW.PrintWords Go.Proofs.YteopooljohdoiaaW.PrintLast Go.Proofs.YteopooljohdoiaaW.PrintMore
attribute [local go_sem] max2_int min2_int max_two min_two max_three min_three max_four min_four   -- for this text's walks alone
set_option linter.unusedVariables false
set_option linter.unusedSimpArgs false

/-! ### dam_TermsOf: function 31 -/
def dam_TermsOf.f (a0_0 : Int) (a0_1 : Int) (a0_2 : Int) : Option (Int × Int × Int × Int × Int × Int) := (dam_CheckReading.f a0_0 a0_1 a0_2).bind fun t93003 => (if t93003 = 0 then ((dam_terms.f a0_0 a0_1 a0_2).bind fun bt93004 => (some (bt93004.1, bt93004.2.1, bt93004.2.2.1, bt93004.2.2.2.1, bt93004.2.2.2.2, 0))) else (some (0, 0, 0, 0, 0, t93003)))
set_option maxHeartbeats 8000000 in
set_option maxRecDepth 100000 in
theorem dam_TermsOf.calls (a0_0 : Int) (a0_1 : Int) (a0_2 : Int) (r1 : Int) (r2 : Int) (r3 : Int) (r4 : Int) (r5 : Int) (r6 : Int) (w : World) (h : dam_TermsOf.f a0_0 a0_1 a0_2 = some (r1, r2, r3, r4, r5, r6)) :
    Calls Try.prog 31 #[.agg #[.int .i64 a0_0, .int .i64 a0_1, .int .i64 a0_2]] w fun e w' => e = .returned (.tuple #[.agg #[.int .i64 r1, .int .i64 r2, .int .i64 r3, .int .i64 r4, .int .i64 r5], .int .i64 r6]) ∧ Below w.heap.size w w' := by
  have hu53 := Try.underlying53
  have hu54 := Try.underlying54
  have HB := Aside0.mk (Below.refl w.heap.size w)
  have H : ((dam_CheckReading.f a0_0 a0_1 a0_2).bind fun t93003 => (if t93003 = 0 then ((dam_terms.f a0_0 a0_1 a0_2).bind fun bt93004 => (some (bt93004.1, bt93004.2.1, bt93004.2.2.1, bt93004.2.2.2.1, bt93004.2.2.2.2, 0))) else (some (0, 0, 0, 0, 0, t93003)))) = some (r1, r2, r3, r4, r5, r6) := h
  clear h
  replace H := Option.bind_eq_some_iff.mp H
  obtain ⟨t93003, A20, H⟩ := H
  replace H : (if t93003 = 0 then ((dam_terms.f a0_0 a0_1 a0_2).bind fun bt93004 => (some (bt93004.1, bt93004.2.1, bt93004.2.2.1, bt93004.2.2.2.1, bt93004.2.2.2.2, 0))) else (some (0, 0, 0, 0, 0, t93003))) = some (r1, r2, r3, r4, r5, r6) := H
  have A2 := Aside0.mk A20
  clear A20
  by_cases c3 : t93003 = 0
  · rw [if_pos c3] at H
    have c3b0 : (t93003 == 0) = true := beq_iff_eq.mpr c3
    have c3b1 : (t93003 != 0) = false := bne_eq_false_iff_eq.mpr c3
    clear c3
    replace H := Option.bind_eq_some_iff.mp H
    obtain ⟨⟨t93004, t93005, t93006, t93007, t93008⟩, A40, H⟩ := H
    replace H : (some (t93004, t93005, t93006, t93007, t93008, 0)) = some (r1, r2, r3, r4, r5, r6) := H
    have A4 := Aside0.mk A40
    clear A40
    simp only [Option.some.injEq, Prod.mk.injEq] at H
    obtain ⟨rfl, rfl, rfl, rfl, rfl, rfl⟩ := H
    go_enter Try.func31, Try.ntmps31
    go_wp2_with (first | ((with_reducible refine gate_dst (N := 1) rfl ?_); refine box_event ?hg (N := 1) ?hd (cs := #[.int .i64 a0_0, .int .i64 a0_1, .int .i64 a0_2]) (t := 53) ?hr ?_; (case hd => rfl); (case hg => rfl); (case hr => first | (go_simp; done) | (go_simp; rfl)); intro gb93001 hg w5 hbox hb; have n0_ := Aside0.mk (below_step (by repeat (first | (with_reducible first | exact HB.out | apply below_alloc | apply pw_below_drewN | apply below_drew1) | exact HB.out)) hb); have n1_ := Aside0.mk (hbox); have n2_ := Aside0.mk ((by rw [hg]; exact (below_size (by repeat (first | (with_reducible first | exact HB.out | apply below_alloc | apply pw_below_drewN | apply below_drew1) | exact HB.out))) : w.heap.size ≤ gb93001)); have n3_ := Aside0.mk ((by rw [hg]; exact (below_size (by repeat (first | (with_reducible first | exact HB.out | apply below_alloc | apply pw_below_drewN | apply below_drew1) | exact HB.out))) : w.heap.size ≤ gb93001)); clear HB; have HB := n0_; have BK93001 := n1_; have GW93001 := n2_; have GE93001 := n3_; clear n0_ n1_ n2_ n3_; clear hb hbox hg) | ((with_reducible refine gate_dst (N := 2) rfl ?_); refine box_event ?hg (N := 2) ?hd (cs := #[.int .i64 0, .int .i64 0, .int .i64 0, .int .i64 0, .int .i64 0]) (t := 54) ?hr ?_; (case hd => rfl); (case hg => rfl); (case hr => first | (go_simp; done) | (go_simp; rfl)); intro gb93002 hg w6 hbox hb; have n0_ := Aside0.mk (blk_below (g := gb93001) (o := .cells #[.int .i64 a0_0, .int .i64 a0_1, .int .i64 a0_2] 53 (0, 0)) (by (with_reducible repeat (first | refine blk_drewN ?_ _ | refine blk_drew ?_ | refine blk_alloc ?_ _)); exact BK93001.out) hb); have n1_ := Aside0.mk (below_step (by repeat (first | (with_reducible first | exact HB.out | apply below_alloc | apply pw_below_drewN | apply below_drew1 | refine below_set ?_ GE93001.out) | exact HB.out)) hb); have n2_ := Aside0.mk (hbox); have n3_ := Aside0.mk ((by rw [hg]; exact (below_size (by repeat (first | (with_reducible first | exact HB.out | apply below_alloc | apply pw_below_drewN | apply below_drew1 | refine below_set ?_ GE93001.out) | exact HB.out))) : w.heap.size ≤ gb93002)); have n4_ := Aside0.mk ((by rw [hg]; exact (below_size (by repeat (first | (with_reducible first | exact HB.out | apply below_alloc | apply pw_below_drewN | apply below_drew1 | refine below_set ?_ GE93001.out) | exact HB.out))) : w.heap.size ≤ gb93002)); have n5_ := Aside0.mk ((by rw [hg]; exact Nat.ne_of_lt (blk_lt (g := gb93001) (o := .cells #[.int .i64 a0_0, .int .i64 a0_1, .int .i64 a0_2] 53 (0, 0)) (by (with_reducible repeat (first | refine blk_drewN ?_ _ | refine blk_drew ?_ | refine blk_alloc ?_ _)); exact BK93001.out)) : gb93001 ≠ gb93002)); have n6_ := Aside0.mk ((by rw [hg]; exact Nat.ne_of_gt (blk_lt (g := gb93001) (o := .cells #[.int .i64 a0_0, .int .i64 a0_1, .int .i64 a0_2] 53 (0, 0)) (by (with_reducible repeat (first | refine blk_drewN ?_ _ | refine blk_drew ?_ | refine blk_alloc ?_ _)); exact BK93001.out)) : gb93002 ≠ gb93001)); clear BK93001; clear HB; have BK93001 := n0_; have HB := n1_; have BK93002 := n2_; have GW93002 := n3_; have GE93002 := n4_; have NB93001_93002 := n5_; have NB93002_93001 := n6_; clear n0_ n1_ n2_ n3_ n4_ n5_ n6_; clear hb hbox hg; have hnb7 := NB93001_93002.out; have hnc7 := NB93002_93001.out; have hcz8_0 : w6.cell? ⟨gb93001, 0, none⟩ = some (.int .i64 a0_0) := (blk_cell BK93001.out 0).trans rfl; have hcz8_1 : w6.cell? ⟨gb93001, 1, none⟩ = some (.int .i64 a0_1) := (blk_cell BK93001.out 1).trans rfl; have hcz8_2 : w6.cell? ⟨gb93001, 2, none⟩ = some (.int .i64 a0_2) := (blk_cell BK93001.out 2).trans rfl; have hfz8_0 := blk_frozen BK93001.out 0; have hfz8_1 := blk_frozen BK93001.out 1; have hfz8_2 := blk_frozen BK93001.out 2) | ((with_reducible refine gate_callee (f := 33) rfl ?_); refine goesL_ (some 6) rfl rfl Try.func33 (by kernel_rfl) rfl #[.agg #[.int .i64 a0_0, .int .i64 a0_1, .int .i64 a0_2]] rfl (by (try simp only [List.map_toArray, List.map_cons, List.map_nil]); first | done | rfl | (simp only [List.length_drop, List.length_take]; rfl)) ?_; (with_reducible refine (dam_CheckReading.calls a0_0 a0_1 a0_2 t93003 _ A2.out).mono ?_); rintro e w9 ⟨rfl, hb⟩; refine ⟨_, rfl, ?_⟩; have n0_ := Aside0.mk (blk_below (g := gb93001) (o := .cells #[.int .i64 a0_0, .int .i64 a0_1, .int .i64 a0_2] 53 (0, 0)) (by (with_reducible repeat (first | refine blk_drewN ?_ _ | refine blk_drew ?_ | refine blk_alloc ?_ _)); exact BK93001.out) hb); have n1_ := Aside0.mk (blk_below (g := gb93002) (o := .cells #[.int .i64 0, .int .i64 0, .int .i64 0, .int .i64 0, .int .i64 0] 54 (0, 0)) (by (with_reducible repeat (first | refine blk_drewN ?_ _ | refine blk_drew ?_ | refine blk_alloc ?_ _)); exact BK93002.out) hb); have n2_ := Aside0.mk (below_step (by repeat (first | (with_reducible first | exact HB.out | apply below_alloc | apply pw_below_drewN | apply below_drew1 | refine below_set ?_ GE93001.out | refine below_set ?_ GE93002.out) | exact HB.out)) hb); clear BK93001; clear BK93002; clear HB; have BK93001 := n0_; have BK93002 := n1_; have HB := n2_; clear n0_ n1_ n2_; (try clear hb); (try clear hb2); (try clear hk); (try clear hi); have hcz10_0 : w9.cell? ⟨gb93001, 0, none⟩ = some (.int .i64 a0_0) := (blk_cell BK93001.out 0).trans rfl; have hcz10_1 : w9.cell? ⟨gb93001, 1, none⟩ = some (.int .i64 a0_1) := (blk_cell BK93001.out 1).trans rfl; have hcz10_2 : w9.cell? ⟨gb93001, 2, none⟩ = some (.int .i64 a0_2) := (blk_cell BK93001.out 2).trans rfl; have hfz10_0 := blk_frozen BK93001.out 0; have hfz10_1 := blk_frozen BK93001.out 1; have hfz10_2 := blk_frozen BK93001.out 2) | ((with_reducible refine gate_callee (f := 77) rfl ?_); refine goesL_ (some 12) rfl rfl Try.func77 (by kernel_rfl) rfl #[.agg #[.int .i64 a0_0, .int .i64 a0_1, .int .i64 a0_2]] rfl (by (try simp only [List.map_toArray, List.map_cons, List.map_nil]); first | done | rfl | (simp only [List.length_drop, List.length_take]; rfl)) ?_; (with_reducible refine (dam_terms.calls a0_0 a0_1 a0_2 t93004 t93005 t93006 t93007 t93008 _ A4.out).mono ?_); rintro e w11 ⟨rfl, hb⟩; refine ⟨_, rfl, ?_⟩; have n0_ := Aside0.mk (blk_below (g := gb93001) (o := .cells #[.int .i64 a0_0, .int .i64 a0_1, .int .i64 a0_2] 53 (0, 0)) (by (with_reducible repeat (first | refine blk_drewN ?_ _ | refine blk_drew ?_ | refine blk_alloc ?_ _)); exact BK93001.out) hb); have n1_ := Aside0.mk (blk_below (g := gb93002) (o := .cells #[.int .i64 0, .int .i64 0, .int .i64 0, .int .i64 0, .int .i64 0] 54 (0, 0)) (by (with_reducible repeat (first | refine blk_drewN ?_ _ | refine blk_drew ?_ | refine blk_alloc ?_ _)); exact BK93002.out) hb); have n2_ := Aside0.mk (below_step (by repeat (first | (with_reducible first | exact HB.out | apply below_alloc | apply pw_below_drewN | apply below_drew1 | refine below_set ?_ GE93001.out | refine below_set ?_ GE93002.out) | exact HB.out)) hb); clear BK93001; clear BK93002; clear HB; have BK93001 := n0_; have BK93002 := n1_; have HB := n2_; clear n0_ n1_ n2_; (try clear hb); (try clear hb2); (try clear hk); (try clear hi); have hcz12_0 : w11.cell? ⟨gb93002, 0, none⟩ = some (.int .i64 0) := (blk_cell BK93002.out 0).trans rfl; have hcz12_1 : w11.cell? ⟨gb93002, 1, none⟩ = some (.int .i64 0) := (blk_cell BK93002.out 1).trans rfl; have hcz12_2 : w11.cell? ⟨gb93002, 2, none⟩ = some (.int .i64 0) := (blk_cell BK93002.out 2).trans rfl; have hcz12_3 : w11.cell? ⟨gb93002, 3, none⟩ = some (.int .i64 0) := (blk_cell BK93002.out 3).trans rfl; have hcz12_4 : w11.cell? ⟨gb93002, 4, none⟩ = some (.int .i64 0) := (blk_cell BK93002.out 4).trans rfl; have hfz12_0 := blk_frozen BK93002.out 0; have hfz12_1 := blk_frozen BK93002.out 1; have hfz12_2 := blk_frozen BK93002.out 2; have hfz12_3 := blk_frozen BK93002.out 3; have hfz12_4 := blk_frozen BK93002.out 4))
    refine bodyPost_ret (results_ct rfl _ _ gb93002 54 #[.int .i64 t93004, .int .i64 t93005, .int .i64 t93006, .int .i64 t93007, .int .i64 t93008] (0, 0) _ rfl (by (with_reducible repeat (first | refine blk_drewN ?_ _ | refine blk_drew ?_ | refine blk_alloc ?_ _)); refine blk_put (cs := #[.int .i64 t93004, .int .i64 t93005, .int .i64 t93006, .int .i64 t93007, .int .i64 0]) ?_ 4 _ rfl; (with_reducible repeat (first | refine blk_drewN ?_ _ | refine blk_drew ?_ | refine blk_alloc ?_ _)); refine blk_put (cs := #[.int .i64 t93004, .int .i64 t93005, .int .i64 t93006, .int .i64 0, .int .i64 0]) ?_ 3 _ rfl; (with_reducible repeat (first | refine blk_drewN ?_ _ | refine blk_drew ?_ | refine blk_alloc ?_ _)); refine blk_put (cs := #[.int .i64 t93004, .int .i64 t93005, .int .i64 0, .int .i64 0, .int .i64 0]) ?_ 2 _ rfl; (with_reducible repeat (first | refine blk_drewN ?_ _ | refine blk_drew ?_ | refine blk_alloc ?_ _)); refine blk_put (cs := #[.int .i64 t93004, .int .i64 0, .int .i64 0, .int .i64 0, .int .i64 0]) ?_ 1 _ rfl; (with_reducible repeat (first | refine blk_drewN ?_ _ | refine blk_drew ?_ | refine blk_alloc ?_ _)); refine blk_put (cs := #[.int .i64 0, .int .i64 0, .int .i64 0, .int .i64 0, .int .i64 0]) ?_ 0 _ rfl; (with_reducible repeat (first | refine blk_drewN ?_ _ | refine blk_drew ?_ | refine blk_alloc ?_ _)); exact BK93002.out) Try.underlying54 rfl (by kernel_rfl)) rfl ?_
    exact ⟨by first | rfl | (simp [errW_none, errW_some] <;> rfl) | (simp [*, errW_none, errW_some] <;> rfl), by repeat (first | (with_reducible first | exact HB.out | apply below_alloc | apply pw_below_drewN | apply below_drew1 | refine below_set ?_ GE93001.out | refine below_set ?_ GE93002.out) | exact HB.out)⟩
  · rw [if_neg c3] at H
    have c3b0 : (t93003 == 0) = false := beq_eq_false_iff_ne.mpr c3
    have c3b1 : (t93003 != 0) = true := bne_iff_ne.mpr c3
    simp only [Option.some.injEq, Prod.mk.injEq] at H
    obtain ⟨rfl, rfl, rfl, rfl, rfl, rfl⟩ := H
    go_enter Try.func31, Try.ntmps31
    go_wp2_with (first | ((with_reducible refine gate_dst (N := 1) rfl ?_); refine box_event ?hg (N := 1) ?hd (cs := #[.int .i64 a0_0, .int .i64 a0_1, .int .i64 a0_2]) (t := 53) ?hr ?_; (case hd => rfl); (case hg => rfl); (case hr => first | (go_simp; done) | (go_simp; rfl)); intro gb93001 hg w13 hbox hb; have n0_ := Aside0.mk (below_step (by repeat (first | (with_reducible first | exact HB.out | apply below_alloc | apply pw_below_drewN | apply below_drew1) | exact HB.out)) hb); have n1_ := Aside0.mk (hbox); have n2_ := Aside0.mk ((by rw [hg]; exact (below_size (by repeat (first | (with_reducible first | exact HB.out | apply below_alloc | apply pw_below_drewN | apply below_drew1) | exact HB.out))) : w.heap.size ≤ gb93001)); have n3_ := Aside0.mk ((by rw [hg]; exact (below_size (by repeat (first | (with_reducible first | exact HB.out | apply below_alloc | apply pw_below_drewN | apply below_drew1) | exact HB.out))) : w.heap.size ≤ gb93001)); clear HB; have HB := n0_; have BK93001 := n1_; have GW93001 := n2_; have GE93001 := n3_; clear n0_ n1_ n2_ n3_; clear hb hbox hg) | ((with_reducible refine gate_dst (N := 2) rfl ?_); refine box_event ?hg (N := 2) ?hd (cs := #[.int .i64 0, .int .i64 0, .int .i64 0, .int .i64 0, .int .i64 0]) (t := 54) ?hr ?_; (case hd => rfl); (case hg => rfl); (case hr => first | (go_simp; done) | (go_simp; rfl)); intro gb93002 hg w14 hbox hb; have n0_ := Aside0.mk (blk_below (g := gb93001) (o := .cells #[.int .i64 a0_0, .int .i64 a0_1, .int .i64 a0_2] 53 (0, 0)) (by (with_reducible repeat (first | refine blk_drewN ?_ _ | refine blk_drew ?_ | refine blk_alloc ?_ _)); exact BK93001.out) hb); have n1_ := Aside0.mk (below_step (by repeat (first | (with_reducible first | exact HB.out | apply below_alloc | apply pw_below_drewN | apply below_drew1 | refine below_set ?_ GE93001.out) | exact HB.out)) hb); have n2_ := Aside0.mk (hbox); have n3_ := Aside0.mk ((by rw [hg]; exact (below_size (by repeat (first | (with_reducible first | exact HB.out | apply below_alloc | apply pw_below_drewN | apply below_drew1 | refine below_set ?_ GE93001.out) | exact HB.out))) : w.heap.size ≤ gb93002)); have n4_ := Aside0.mk ((by rw [hg]; exact (below_size (by repeat (first | (with_reducible first | exact HB.out | apply below_alloc | apply pw_below_drewN | apply below_drew1 | refine below_set ?_ GE93001.out) | exact HB.out))) : w.heap.size ≤ gb93002)); have n5_ := Aside0.mk ((by rw [hg]; exact Nat.ne_of_lt (blk_lt (g := gb93001) (o := .cells #[.int .i64 a0_0, .int .i64 a0_1, .int .i64 a0_2] 53 (0, 0)) (by (with_reducible repeat (first | refine blk_drewN ?_ _ | refine blk_drew ?_ | refine blk_alloc ?_ _)); exact BK93001.out)) : gb93001 ≠ gb93002)); have n6_ := Aside0.mk ((by rw [hg]; exact Nat.ne_of_gt (blk_lt (g := gb93001) (o := .cells #[.int .i64 a0_0, .int .i64 a0_1, .int .i64 a0_2] 53 (0, 0)) (by (with_reducible repeat (first | refine blk_drewN ?_ _ | refine blk_drew ?_ | refine blk_alloc ?_ _)); exact BK93001.out)) : gb93002 ≠ gb93001)); clear BK93001; clear HB; have BK93001 := n0_; have HB := n1_; have BK93002 := n2_; have GW93002 := n3_; have GE93002 := n4_; have NB93001_93002 := n5_; have NB93002_93001 := n6_; clear n0_ n1_ n2_ n3_ n4_ n5_ n6_; clear hb hbox hg; have hnb15 := NB93001_93002.out; have hnc15 := NB93002_93001.out; have hcz16_0 : w14.cell? ⟨gb93001, 0, none⟩ = some (.int .i64 a0_0) := (blk_cell BK93001.out 0).trans rfl; have hcz16_1 : w14.cell? ⟨gb93001, 1, none⟩ = some (.int .i64 a0_1) := (blk_cell BK93001.out 1).trans rfl; have hcz16_2 : w14.cell? ⟨gb93001, 2, none⟩ = some (.int .i64 a0_2) := (blk_cell BK93001.out 2).trans rfl; have hfz16_0 := blk_frozen BK93001.out 0; have hfz16_1 := blk_frozen BK93001.out 1; have hfz16_2 := blk_frozen BK93001.out 2) | ((with_reducible refine gate_callee (f := 33) rfl ?_); refine goesL_ (some 6) rfl rfl Try.func33 (by kernel_rfl) rfl #[.agg #[.int .i64 a0_0, .int .i64 a0_1, .int .i64 a0_2]] rfl (by (try simp only [List.map_toArray, List.map_cons, List.map_nil]); first | done | rfl | (simp only [List.length_drop, List.length_take]; rfl)) ?_; (with_reducible refine (dam_CheckReading.calls a0_0 a0_1 a0_2 t93003 _ A2.out).mono ?_); rintro e w17 ⟨rfl, hb⟩; refine ⟨_, rfl, ?_⟩; have n0_ := Aside0.mk (blk_below (g := gb93001) (o := .cells #[.int .i64 a0_0, .int .i64 a0_1, .int .i64 a0_2] 53 (0, 0)) (by (with_reducible repeat (first | refine blk_drewN ?_ _ | refine blk_drew ?_ | refine blk_alloc ?_ _)); exact BK93001.out) hb); have n1_ := Aside0.mk (blk_below (g := gb93002) (o := .cells #[.int .i64 0, .int .i64 0, .int .i64 0, .int .i64 0, .int .i64 0] 54 (0, 0)) (by (with_reducible repeat (first | refine blk_drewN ?_ _ | refine blk_drew ?_ | refine blk_alloc ?_ _)); exact BK93002.out) hb); have n2_ := Aside0.mk (below_step (by repeat (first | (with_reducible first | exact HB.out | apply below_alloc | apply pw_below_drewN | apply below_drew1 | refine below_set ?_ GE93001.out | refine below_set ?_ GE93002.out) | exact HB.out)) hb); clear BK93001; clear BK93002; clear HB; have BK93001 := n0_; have BK93002 := n1_; have HB := n2_; clear n0_ n1_ n2_; (try clear hb); (try clear hb2); (try clear hk); (try clear hi); have hcz18_0 : w17.cell? ⟨gb93002, 0, none⟩ = some (.int .i64 0) := (blk_cell BK93002.out 0).trans rfl; have hcz18_1 : w17.cell? ⟨gb93002, 1, none⟩ = some (.int .i64 0) := (blk_cell BK93002.out 1).trans rfl; have hcz18_2 : w17.cell? ⟨gb93002, 2, none⟩ = some (.int .i64 0) := (blk_cell BK93002.out 2).trans rfl; have hcz18_3 : w17.cell? ⟨gb93002, 3, none⟩ = some (.int .i64 0) := (blk_cell BK93002.out 3).trans rfl; have hcz18_4 : w17.cell? ⟨gb93002, 4, none⟩ = some (.int .i64 0) := (blk_cell BK93002.out 4).trans rfl; have hfz18_0 := blk_frozen BK93002.out 0; have hfz18_1 := blk_frozen BK93002.out 1; have hfz18_2 := blk_frozen BK93002.out 2; have hfz18_3 := blk_frozen BK93002.out 3; have hfz18_4 := blk_frozen BK93002.out 4))
    refine bodyPost_ret (results_ct rfl _ _ gb93002 54 #[.int .i64 0, .int .i64 0, .int .i64 0, .int .i64 0, .int .i64 0] (0, 0) _ rfl (by (with_reducible repeat (first | refine blk_drewN ?_ _ | refine blk_drew ?_ | refine blk_alloc ?_ _)); refine blk_put (cs := #[.int .i64 0, .int .i64 0, .int .i64 0, .int .i64 0, .int .i64 0]) ?_ 4 _ rfl; (with_reducible repeat (first | refine blk_drewN ?_ _ | refine blk_drew ?_ | refine blk_alloc ?_ _)); refine blk_put (cs := #[.int .i64 0, .int .i64 0, .int .i64 0, .int .i64 0, .int .i64 0]) ?_ 3 _ rfl; (with_reducible repeat (first | refine blk_drewN ?_ _ | refine blk_drew ?_ | refine blk_alloc ?_ _)); refine blk_put (cs := #[.int .i64 0, .int .i64 0, .int .i64 0, .int .i64 0, .int .i64 0]) ?_ 2 _ rfl; (with_reducible repeat (first | refine blk_drewN ?_ _ | refine blk_drew ?_ | refine blk_alloc ?_ _)); refine blk_put (cs := #[.int .i64 0, .int .i64 0, .int .i64 0, .int .i64 0, .int .i64 0]) ?_ 1 _ rfl; (with_reducible repeat (first | refine blk_drewN ?_ _ | refine blk_drew ?_ | refine blk_alloc ?_ _)); refine blk_put (cs := #[.int .i64 0, .int .i64 0, .int .i64 0, .int .i64 0, .int .i64 0]) ?_ 0 _ rfl; (with_reducible repeat (first | refine blk_drewN ?_ _ | refine blk_drew ?_ | refine blk_alloc ?_ _)); exact BK93002.out) Try.underlying54 rfl (by kernel_rfl)) rfl ?_
    exact ⟨by first | rfl | (simp [errW_none, errW_some] <;> rfl) | (simp [*, errW_none, errW_some] <;> rfl), by repeat (first | (with_reducible first | exact HB.out | apply below_alloc | apply pw_below_drewN | apply below_drew1 | refine below_set ?_ GE93001.out | refine below_set ?_ GE93002.out) | exact HB.out)⟩

end Go.Proofs.Yteopooljohdoiaa.Px

namespace Go.Proofs.Yteopooljohdoiaa.Px
open Go.RowKit Go.Proofs.YteopooljohdoiaaW.PrintWords Go.Proofs.YteopooljohdoiaaW.PrintLast Go.Proofs.YteopooljohdoiaaW.PrintMore
attribute [local go_sem] max2_int min2_int max_two min_two max_three min_three max_four min_four   -- for this text's walks alone
set_option linter.unusedVariables false
set_option linter.unusedSimpArgs false

/-! ### guidevaneref09_ReadingErr: function 32 -/
def guidevaneref09_ReadingErr.f (a0_0 : Int) (a0_1 : Int) (a0_2 : Int) : Option (Int) := (guidevanebase_Within.f a0_0 0 36000).bind fun t96002 => (if t96002 = true then ((guidevanebase_Within.f a0_1 (-50) 50).bind fun t96003 => (if t96003 = true then ((guidevanebase_Within.f a0_2 (-2000) 2000).bind fun t96004 => (if t96004 = true then (some 0) else (some 2))) else (some 2))) else (some 2))
set_option maxHeartbeats 8000000 in
set_option maxRecDepth 100000 in
theorem guidevaneref09_ReadingErr.calls (a0_0 : Int) (a0_1 : Int) (a0_2 : Int) (r : Int) (w : World) (h : guidevaneref09_ReadingErr.f a0_0 a0_1 a0_2 = some r) :
    Calls Try.prog 32 #[.agg #[.int .i64 a0_0, .int .i64 a0_1, .int .i64 a0_2]] w fun e w' => e = .returned (.int .i64 r) ∧ Below w.heap.size w w' := by
  have hu53 := Try.underlying53
  have HB := Aside0.mk (Below.refl w.heap.size w)
  have H : ((guidevanebase_Within.f a0_0 0 36000).bind fun t96002 => (if t96002 = true then ((guidevanebase_Within.f a0_1 (-50) 50).bind fun t96003 => (if t96003 = true then ((guidevanebase_Within.f a0_2 (-2000) 2000).bind fun t96004 => (if t96004 = true then (some 0) else (some 2))) else (some 2))) else (some 2))) = some r := h
  clear h
  replace H := Option.bind_eq_some_iff.mp H
  obtain ⟨t96002, A20, H⟩ := H
  replace H : (if t96002 = true then ((guidevanebase_Within.f a0_1 (-50) 50).bind fun t96003 => (if t96003 = true then ((guidevanebase_Within.f a0_2 (-2000) 2000).bind fun t96004 => (if t96004 = true then (some 0) else (some 2))) else (some 2))) else (some 2)) = some r := H
  have A2 := Aside0.mk A20
  clear A20
  by_cases c3 : t96002 = true
  · subst c3
    have H1 : ((guidevanebase_Within.f a0_1 (-50) 50).bind fun t96003 => (if t96003 = true then ((guidevanebase_Within.f a0_2 (-2000) 2000).bind fun t96004 => (if t96004 = true then (some 0) else (some 2))) else (some 2))) = some r := by rw [if_pos rfl] at H; exact H
    clear H
    have H := H1
    clear H1
    replace H := Option.bind_eq_some_iff.mp H
    obtain ⟨t96003, A40, H⟩ := H
    replace H : (if t96003 = true then ((guidevanebase_Within.f a0_2 (-2000) 2000).bind fun t96004 => (if t96004 = true then (some 0) else (some 2))) else (some 2)) = some r := H
    have A4 := Aside0.mk A40
    clear A40
    by_cases c5 : t96003 = true
    · subst c5
      have H1 : ((guidevanebase_Within.f a0_2 (-2000) 2000).bind fun t96004 => (if t96004 = true then (some 0) else (some 2))) = some r := by rw [if_pos rfl] at H; exact H
      clear H
      have H := H1
      clear H1
      replace H := Option.bind_eq_some_iff.mp H
      obtain ⟨t96004, A60, H⟩ := H
      replace H : (if t96004 = true then (some 0) else (some 2)) = some r := H
      have A6 := Aside0.mk A60
      clear A60
      by_cases c7 : t96004 = true
      · subst c7
        have H1 : (some 0) = some r := by rw [if_pos rfl] at H; exact H
        clear H
        have H := H1
        clear H1
        obtain rfl := Option.some.inj H
        go_enter Try.func32, Try.ntmps32
        go_wp2_with (first | ((with_reducible refine gate_dst (N := 1) rfl ?_); refine box_event ?hg (N := 1) ?hd (cs := #[.int .i64 a0_0, .int .i64 a0_1, .int .i64 a0_2]) (t := 53) ?hr ?_; (case hd => rfl); (case hg => rfl); (case hr => first | (go_simp; done) | (go_simp; rfl)); intro gb96001 hg w8 hbox hb; have n0_ := Aside0.mk (below_step (by repeat (first | (with_reducible first | exact HB.out | apply below_alloc | apply pw_below_drewN | apply below_drew1) | exact HB.out)) hb); have n1_ := Aside0.mk (hbox); have n2_ := Aside0.mk ((by rw [hg]; exact (below_size (by repeat (first | (with_reducible first | exact HB.out | apply below_alloc | apply pw_below_drewN | apply below_drew1) | exact HB.out))) : w.heap.size ≤ gb96001)); have n3_ := Aside0.mk ((by rw [hg]; exact (below_size (by repeat (first | (with_reducible first | exact HB.out | apply below_alloc | apply pw_below_drewN | apply below_drew1) | exact HB.out))) : w.heap.size ≤ gb96001)); clear HB; have HB := n0_; have BK96001 := n1_; have GW96001 := n2_; have GE96001 := n3_; clear n0_ n1_ n2_ n3_; clear hb hbox hg; have hcz9_0 : w8.cell? ⟨gb96001, 0, none⟩ = some (.int .i64 a0_0) := (blk_cell BK96001.out 0).trans rfl; have hcz9_1 : w8.cell? ⟨gb96001, 1, none⟩ = some (.int .i64 a0_1) := (blk_cell BK96001.out 1).trans rfl; have hcz9_2 : w8.cell? ⟨gb96001, 2, none⟩ = some (.int .i64 a0_2) := (blk_cell BK96001.out 2).trans rfl; have hfz9_0 := blk_frozen BK96001.out 0; have hfz9_1 := blk_frozen BK96001.out 1; have hfz9_2 := blk_frozen BK96001.out 2) | ((with_reducible refine gate_callee (f := 15) rfl ?_); refine goesL_ (some 5) rfl rfl Try.func15 (by kernel_rfl) rfl #[.int .i64 a0_0, .int .i64 0, .int .i64 36000] rfl (by (try simp only [List.map_toArray, List.map_cons, List.map_nil]); first | done | rfl | (simp only [List.length_drop, List.length_take]; rfl)) ?_; (with_reducible refine (guidevanebase_Within.calls a0_0 0 36000 true _ A2.out).mono ?_); rintro e w' ⟨rfl, ⟨nd, rfl⟩⟩; refine ⟨_, rfl, ?_⟩) | (go_at_call 15; (with_reducible refine (guidevanebase_Within.calls a0_1 (-50) 50 true _ A4.out).mono ?_); rintro e w' ⟨rfl, ⟨nd, rfl⟩⟩) | (go_at_call 15; (with_reducible refine (guidevanebase_Within.calls a0_2 (-2000) 2000 true _ A6.out).mono ?_); rintro e w' ⟨rfl, ⟨nd, rfl⟩⟩))
        go_ret
        exact ⟨by first | rfl | (simp [errW_none, errW_some] <;> rfl) | (simp [*, errW_none, errW_some] <;> rfl), by repeat (first | (with_reducible first | exact HB.out | apply below_alloc | apply pw_below_drewN | apply below_drew1 | refine below_set ?_ GE96001.out) | exact HB.out)⟩
      · replace c7 := Bool.eq_false_iff.mpr c7
        subst c7
        have H1 : (some 2) = some r := by rw [if_neg (show ¬ (false = true) by decide)] at H; exact H
        clear H
        have H := H1
        clear H1
        obtain rfl := Option.some.inj H
        go_enter Try.func32, Try.ntmps32
        go_wp2_with (first | ((with_reducible refine gate_dst (N := 1) rfl ?_); refine box_event ?hg (N := 1) ?hd (cs := #[.int .i64 a0_0, .int .i64 a0_1, .int .i64 a0_2]) (t := 53) ?hr ?_; (case hd => rfl); (case hg => rfl); (case hr => first | (go_simp; done) | (go_simp; rfl)); intro gb96001 hg w10 hbox hb; have n0_ := Aside0.mk (below_step (by repeat (first | (with_reducible first | exact HB.out | apply below_alloc | apply pw_below_drewN | apply below_drew1) | exact HB.out)) hb); have n1_ := Aside0.mk (hbox); have n2_ := Aside0.mk ((by rw [hg]; exact (below_size (by repeat (first | (with_reducible first | exact HB.out | apply below_alloc | apply pw_below_drewN | apply below_drew1) | exact HB.out))) : w.heap.size ≤ gb96001)); have n3_ := Aside0.mk ((by rw [hg]; exact (below_size (by repeat (first | (with_reducible first | exact HB.out | apply below_alloc | apply pw_below_drewN | apply below_drew1) | exact HB.out))) : w.heap.size ≤ gb96001)); clear HB; have HB := n0_; have BK96001 := n1_; have GW96001 := n2_; have GE96001 := n3_; clear n0_ n1_ n2_ n3_; clear hb hbox hg; have hcz11_0 : w10.cell? ⟨gb96001, 0, none⟩ = some (.int .i64 a0_0) := (blk_cell BK96001.out 0).trans rfl; have hcz11_1 : w10.cell? ⟨gb96001, 1, none⟩ = some (.int .i64 a0_1) := (blk_cell BK96001.out 1).trans rfl; have hcz11_2 : w10.cell? ⟨gb96001, 2, none⟩ = some (.int .i64 a0_2) := (blk_cell BK96001.out 2).trans rfl; have hfz11_0 := blk_frozen BK96001.out 0; have hfz11_1 := blk_frozen BK96001.out 1; have hfz11_2 := blk_frozen BK96001.out 2) | ((with_reducible refine gate_callee (f := 15) rfl ?_); refine goesL_ (some 5) rfl rfl Try.func15 (by kernel_rfl) rfl #[.int .i64 a0_0, .int .i64 0, .int .i64 36000] rfl (by (try simp only [List.map_toArray, List.map_cons, List.map_nil]); first | done | rfl | (simp only [List.length_drop, List.length_take]; rfl)) ?_; (with_reducible refine (guidevanebase_Within.calls a0_0 0 36000 true _ A2.out).mono ?_); rintro e w' ⟨rfl, ⟨nd, rfl⟩⟩; refine ⟨_, rfl, ?_⟩) | (go_at_call 15; (with_reducible refine (guidevanebase_Within.calls a0_1 (-50) 50 true _ A4.out).mono ?_); rintro e w' ⟨rfl, ⟨nd, rfl⟩⟩) | (go_at_call 15; (with_reducible refine (guidevanebase_Within.calls a0_2 (-2000) 2000 false _ A6.out).mono ?_); rintro e w' ⟨rfl, ⟨nd, rfl⟩⟩))
        go_ret
        exact ⟨by first | rfl | (simp [errW_none, errW_some] <;> rfl) | (simp [*, errW_none, errW_some] <;> rfl), by repeat (first | (with_reducible first | exact HB.out | apply below_alloc | apply pw_below_drewN | apply below_drew1 | refine below_set ?_ GE96001.out) | exact HB.out)⟩
    · replace c5 := Bool.eq_false_iff.mpr c5
      subst c5
      have H1 : (some 2) = some r := by rw [if_neg (show ¬ (false = true) by decide)] at H; exact H
      clear H
      have H := H1
      clear H1
      obtain rfl := Option.some.inj H
      go_enter Try.func32, Try.ntmps32
      go_wp2_with (first | ((with_reducible refine gate_dst (N := 1) rfl ?_); refine box_event ?hg (N := 1) ?hd (cs := #[.int .i64 a0_0, .int .i64 a0_1, .int .i64 a0_2]) (t := 53) ?hr ?_; (case hd => rfl); (case hg => rfl); (case hr => first | (go_simp; done) | (go_simp; rfl)); intro gb96001 hg w12 hbox hb; have n0_ := Aside0.mk (below_step (by repeat (first | (with_reducible first | exact HB.out | apply below_alloc | apply pw_below_drewN | apply below_drew1) | exact HB.out)) hb); have n1_ := Aside0.mk (hbox); have n2_ := Aside0.mk ((by rw [hg]; exact (below_size (by repeat (first | (with_reducible first | exact HB.out | apply below_alloc | apply pw_below_drewN | apply below_drew1) | exact HB.out))) : w.heap.size ≤ gb96001)); have n3_ := Aside0.mk ((by rw [hg]; exact (below_size (by repeat (first | (with_reducible first | exact HB.out | apply below_alloc | apply pw_below_drewN | apply below_drew1) | exact HB.out))) : w.heap.size ≤ gb96001)); clear HB; have HB := n0_; have BK96001 := n1_; have GW96001 := n2_; have GE96001 := n3_; clear n0_ n1_ n2_ n3_; clear hb hbox hg; have hcz13_0 : w12.cell? ⟨gb96001, 0, none⟩ = some (.int .i64 a0_0) := (blk_cell BK96001.out 0).trans rfl; have hcz13_1 : w12.cell? ⟨gb96001, 1, none⟩ = some (.int .i64 a0_1) := (blk_cell BK96001.out 1).trans rfl; have hcz13_2 : w12.cell? ⟨gb96001, 2, none⟩ = some (.int .i64 a0_2) := (blk_cell BK96001.out 2).trans rfl; have hfz13_0 := blk_frozen BK96001.out 0; have hfz13_1 := blk_frozen BK96001.out 1; have hfz13_2 := blk_frozen BK96001.out 2) | ((with_reducible refine gate_callee (f := 15) rfl ?_); refine goesL_ (some 5) rfl rfl Try.func15 (by kernel_rfl) rfl #[.int .i64 a0_0, .int .i64 0, .int .i64 36000] rfl (by (try simp only [List.map_toArray, List.map_cons, List.map_nil]); first | done | rfl | (simp only [List.length_drop, List.length_take]; rfl)) ?_; (with_reducible refine (guidevanebase_Within.calls a0_0 0 36000 true _ A2.out).mono ?_); rintro e w' ⟨rfl, ⟨nd, rfl⟩⟩; refine ⟨_, rfl, ?_⟩) | (go_at_call 15; (with_reducible refine (guidevanebase_Within.calls a0_1 (-50) 50 false _ A4.out).mono ?_); rintro e w' ⟨rfl, ⟨nd, rfl⟩⟩))
      go_ret
      exact ⟨by first | rfl | (simp [errW_none, errW_some] <;> rfl) | (simp [*, errW_none, errW_some] <;> rfl), by repeat (first | (with_reducible first | exact HB.out | apply below_alloc | apply pw_below_drewN | apply below_drew1 | refine below_set ?_ GE96001.out) | exact HB.out)⟩
  · replace c3 := Bool.eq_false_iff.mpr c3
    subst c3
    have H1 : (some 2) = some r := by rw [if_neg (show ¬ (false = true) by decide)] at H; exact H
    clear H
    have H := H1
    clear H1
    obtain rfl := Option.some.inj H
    go_enter Try.func32, Try.ntmps32
    go_wp2_with (first | ((with_reducible refine gate_dst (N := 1) rfl ?_); refine box_event ?hg (N := 1) ?hd (cs := #[.int .i64 a0_0, .int .i64 a0_1, .int .i64 a0_2]) (t := 53) ?hr ?_; (case hd => rfl); (case hg => rfl); (case hr => first | (go_simp; done) | (go_simp; rfl)); intro gb96001 hg w14 hbox hb; have n0_ := Aside0.mk (below_step (by repeat (first | (with_reducible first | exact HB.out | apply below_alloc | apply pw_below_drewN | apply below_drew1) | exact HB.out)) hb); have n1_ := Aside0.mk (hbox); have n2_ := Aside0.mk ((by rw [hg]; exact (below_size (by repeat (first | (with_reducible first | exact HB.out | apply below_alloc | apply pw_below_drewN | apply below_drew1) | exact HB.out))) : w.heap.size ≤ gb96001)); have n3_ := Aside0.mk ((by rw [hg]; exact (below_size (by repeat (first | (with_reducible first | exact HB.out | apply below_alloc | apply pw_below_drewN | apply below_drew1) | exact HB.out))) : w.heap.size ≤ gb96001)); clear HB; have HB := n0_; have BK96001 := n1_; have GW96001 := n2_; have GE96001 := n3_; clear n0_ n1_ n2_ n3_; clear hb hbox hg; have hcz15_0 : w14.cell? ⟨gb96001, 0, none⟩ = some (.int .i64 a0_0) := (blk_cell BK96001.out 0).trans rfl; have hcz15_1 : w14.cell? ⟨gb96001, 1, none⟩ = some (.int .i64 a0_1) := (blk_cell BK96001.out 1).trans rfl; have hcz15_2 : w14.cell? ⟨gb96001, 2, none⟩ = some (.int .i64 a0_2) := (blk_cell BK96001.out 2).trans rfl; have hfz15_0 := blk_frozen BK96001.out 0; have hfz15_1 := blk_frozen BK96001.out 1; have hfz15_2 := blk_frozen BK96001.out 2) | ((with_reducible refine gate_callee (f := 15) rfl ?_); refine goesL_ (some 5) rfl rfl Try.func15 (by kernel_rfl) rfl #[.int .i64 a0_0, .int .i64 0, .int .i64 36000] rfl (by (try simp only [List.map_toArray, List.map_cons, List.map_nil]); first | done | rfl | (simp only [List.length_drop, List.length_take]; rfl)) ?_; (with_reducible refine (guidevanebase_Within.calls a0_0 0 36000 false _ A2.out).mono ?_); rintro e w' ⟨rfl, ⟨nd, rfl⟩⟩; refine ⟨_, rfl, ?_⟩))
    go_ret
    exact ⟨by first | rfl | (simp [errW_none, errW_some] <;> rfl) | (simp [*, errW_none, errW_some] <;> rfl), by repeat (first | (with_reducible first | exact HB.out | apply below_alloc | apply pw_below_drewN | apply below_drew1 | refine below_set ?_ GE96001.out) | exact HB.out)⟩

end Go.Proofs.Yteopooljohdoiaa.Px

namespace Go.Proofs.Yteopooljohdoiaa.Px
open Go.RowKit Go.Proofs.YteopooljohdoiaaW.PrintWords Go.Proofs.YteopooljohdoiaaW.PrintLast Go.Proofs.YteopooljohdoiaaW.PrintMore
attribute [local go_sem] max2_int min2_int max_two min_two max_three min_three max_four min_four   -- for this text's walks alone
set_option linter.unusedVariables false
set_option linter.unusedSimpArgs false

/-! ### guidevaneref09_Terms: function 34 -/
def guidevaneref09_Terms.f (a0_0 : Int) (a0_1 : Int) (a0_2 : Int) : Option (Int × Int × Int × Int × Int) := (some (([1, 0, (-1), 0] : List Int) : List Int)).bind fun y102003 => (if 0 ≤ (wrap64 (Int.tdiv (Int.tmod a0_0 360) 90)) then (if (wrap64 (Int.tdiv (Int.tmod a0_0 360) 90)) < (y102003.length : Int) then ((some (([0, 1, 0, (-1)] : List Int) : List Int)).bind fun y102007 => (if (wrap64 (Int.tdiv (Int.tmod a0_0 360) 90)) < (y102007.length : Int) then (some (1, a0_1, rd y102003 (wrap64 (Int.tdiv (Int.tmod a0_0 360) 90)), rd y102007 (wrap64 (Int.tdiv (Int.tmod a0_0 360) 90)), wrap64 (Int.tdiv a0_0 360))) else (none))) else (none)) else (none))
def guidevaneref09_Terms.T2 : Bool × List (List Nat × List Nat) := (true, [([], []), ([0], [0]), ([], []), ([], []), ([2, 3], [2, 3]), ([4], [4]), ([], []), ([], []), ([6, 7], [6, 7]), ([8], [8]), ([], []), ([10], [10]), ([11], [11]), ([1, 5, 9, 12], [1, 5, 9, 12]), ([13, 0, 1, 2, 3, 4, 5, 6, 7, 8, 9, 10, 11, 12, 13], [13])])
def guidevaneref09_Terms.B2 : List Nat := [0, 1, 0, 0, 12, 28, 0, 0, 192, 448, 0, 1024, 3072, 8191, 16383]
theorem guidevaneref09_Terms.tab2 : rtab .any (opsOf Try.f34 2) = guidevaneref09_Terms.T2 := by kernel_rfl
theorem guidevaneref09_Terms.bits2 : waitsOk guidevaneref09_Terms.T2.2 guidevaneref09_Terms.B2 = true := by kernel_rfl
set_option maxHeartbeats 8000000 in
set_option maxRecDepth 100000 in
theorem guidevaneref09_Terms.calls (a0_0 : Int) (a0_1 : Int) (a0_2 : Int) (r1 : Int) (r2 : Int) (r3 : Int) (r4 : Int) (r5 : Int) (w : World) (h : guidevaneref09_Terms.f a0_0 a0_1 a0_2 = some (r1, r2, r3, r4, r5)) :
    Calls Try.prog 34 #[.agg #[.int .i64 a0_0, .int .i64 a0_1, .int .i64 a0_2]] w fun e w' => e = .returned (.agg #[.int .i64 r1, .int .i64 r2, .int .i64 r3, .int .i64 r4, .int .i64 r5]) ∧ Below w.heap.size w w' := by
  have hu53 := Try.underlying53
  have hu54 := Try.underlying54
  have HB := Aside0.mk (Below.refl w.heap.size w)
  have H : ((some (([1, 0, (-1), 0] : List Int) : List Int)).bind fun y102003 => (if 0 ≤ (wrap64 (Int.tdiv (Int.tmod a0_0 360) 90)) then (if (wrap64 (Int.tdiv (Int.tmod a0_0 360) 90)) < (y102003.length : Int) then ((some (([0, 1, 0, (-1)] : List Int) : List Int)).bind fun y102007 => (if (wrap64 (Int.tdiv (Int.tmod a0_0 360) 90)) < (y102007.length : Int) then (some (1, a0_1, rd y102003 (wrap64 (Int.tdiv (Int.tmod a0_0 360) 90)), rd y102007 (wrap64 (Int.tdiv (Int.tmod a0_0 360) 90)), wrap64 (Int.tdiv a0_0 360))) else (none))) else (none)) else (none))) = some (r1, r2, r3, r4, r5) := h
  clear h
  obtain ⟨y102003, hy102003⟩ : ∃ y_ : List Int, y_ = (([1, 0, (-1), 0] : List Int)) := ⟨_, rfl⟩
  replace H : (if 0 ≤ (wrap64 (Int.tdiv (Int.tmod a0_0 360) 90)) then (if (wrap64 (Int.tdiv (Int.tmod a0_0 360) 90)) < (y102003.length : Int) then ((some (([0, 1, 0, (-1)] : List Int) : List Int)).bind fun y102007 => (if (wrap64 (Int.tdiv (Int.tmod a0_0 360) 90)) < (y102007.length : Int) then (some (1, a0_1, rd y102003 (wrap64 (Int.tdiv (Int.tmod a0_0 360) 90)), rd y102007 (wrap64 (Int.tdiv (Int.tmod a0_0 360) 90)), wrap64 (Int.tdiv a0_0 360))) else (none))) else (none)) else (none)) = some (r1, r2, r3, r4, r5) := by first | (rw [hy102003]; with_reducible exact H) | (have H2_ := (Option.bind_some _ _).symm.trans H; rw [hy102003]; with_reducible exact H2_) | (have H2_ := (Option.bind_some _ _).symm.trans H; with_reducible exact H2_) | with_reducible exact H | (rw [hy102003]; exact H) | exact H
  have Ny102003 := Aside0.mk hy102003
  clear hy102003
  obtain ⟨ji2, hji2⟩ : ∃ j_ : Int, (wrap64 (Int.tdiv (Int.tmod a0_0 360) 90)) = j_ := ⟨_, rfl⟩
  replace H : (if 0 ≤ (ji2) then (if (ji2) < (y102003.length : Int) then ((some (([0, 1, 0, (-1)] : List Int) : List Int)).bind fun y102007 => (if (ji2) < (y102007.length : Int) then (some (1, a0_1, rd y102003 (ji2), rd y102007 (ji2), wrap64 (Int.tdiv a0_0 360))) else (none))) else (none)) else (none)) = some (r1, r2, r3, r4, r5) := by first | (rw [hji2] at H; exact H) | (simp only [hji2] at H ⊢; exact H)
  have hji2w : (IntKind.i64.wrap (Int.tdiv (Int.tmod a0_0 360) 90)) = ji2 := (i64_w _).trans hji2
  by_cases c3 : 0 ≤ (ji2)
  · rw [if_pos c3] at H
    have c3b0 : decide (0 ≤ (ji2)) = true := decide_eq_true c3
    clear c3
    by_cases c4 : (ji2) < (y102003.length : Int)
    · rw [if_pos c4] at H
      have c4b0 : decide ((ji2) < (y102003.length : Int)) = true := decide_eq_true c4
      clear c4
      obtain ⟨y102007, hy102007⟩ : ∃ y_ : List Int, y_ = (([0, 1, 0, (-1)] : List Int)) := ⟨_, rfl⟩
      replace H : (if (ji2) < (y102007.length : Int) then (some (1, a0_1, rd y102003 (ji2), rd y102007 (ji2), wrap64 (Int.tdiv a0_0 360))) else (none)) = some (r1, r2, r3, r4, r5) := by first | (rw [hy102007]; with_reducible exact H) | (have H2_ := (Option.bind_some _ _).symm.trans H; rw [hy102007]; with_reducible exact H2_) | (have H2_ := (Option.bind_some _ _).symm.trans H; with_reducible exact H2_) | with_reducible exact H | (rw [hy102007]; exact H) | exact H
      have Ny102007 := Aside0.mk hy102007
      clear hy102007
      by_cases c5 : (ji2) < (y102007.length : Int)
      · rw [if_pos c5] at H
        have c5b0 : decide ((ji2) < (y102007.length : Int)) = true := decide_eq_true c5
        clear c5
        simp only [Option.some.injEq, Prod.mk.injEq] at H
        obtain ⟨rfl, rfl, rfl, rfl, rfl⟩ := H
        go_enter Try.func34, Try.ntmps34
        try go_wp2_with (first | ((with_reducible refine gate_dst (N := 1) rfl ?_); refine box_event ?hg (N := 1) ?hd (cs := #[.int .i64 a0_0, .int .i64 a0_1, .int .i64 a0_2]) (t := 53) ?hr ?_; (case hd => rfl); (case hg => rfl); (case hr => first | (go_simp; done) | (go_simp; rfl)); intro gb102001 hg w6 hbox hb; have n0_ := Aside0.mk (below_step (by repeat (first | (with_reducible first | exact HB.out | apply below_alloc | apply pw_below_drewN | apply below_drew1) | exact HB.out)) hb); have n1_ := Aside0.mk (hbox); have n2_ := Aside0.mk ((by rw [hg]; exact (below_size (by repeat (first | (with_reducible first | exact HB.out | apply below_alloc | apply pw_below_drewN | apply below_drew1) | exact HB.out))) : w.heap.size ≤ gb102001)); have n3_ := Aside0.mk ((by rw [hg]; exact (below_size (by repeat (first | (with_reducible first | exact HB.out | apply below_alloc | apply pw_below_drewN | apply below_drew1) | exact HB.out))) : w.heap.size ≤ gb102001)); clear HB; have HB := n0_; have BK102001 := n1_; have GW102001 := n2_; have GE102001 := n3_; clear n0_ n1_ n2_ n3_; clear hb hbox hg) | ((with_reducible refine gate_dst (N := 2) rfl ?_); refine box_event ?hg (N := 2) ?hd (cs := #[.int .i64 0, .int .i64 0, .int .i64 0, .int .i64 0, .int .i64 0]) (t := 54) ?hr ?_; (case hd => rfl); (case hg => rfl); (case hr => first | (go_simp; done) | (go_simp; rfl)); intro gb102002 hg w7 hbox hb; have n0_ := Aside0.mk (blk_below (g := gb102001) (o := .cells #[.int .i64 a0_0, .int .i64 a0_1, .int .i64 a0_2] 53 (0, 0)) (by (with_reducible repeat (first | refine blk_drewN ?_ _ | refine blk_drew ?_ | refine blk_alloc ?_ _)); exact BK102001.out) hb); have n1_ := Aside0.mk (below_step (by repeat (first | (with_reducible first | exact HB.out | apply below_alloc | apply pw_below_drewN | apply below_drew1 | refine below_set ?_ GE102001.out) | exact HB.out)) hb); have n2_ := Aside0.mk (hbox); have n3_ := Aside0.mk ((by rw [hg]; exact (below_size (by repeat (first | (with_reducible first | exact HB.out | apply below_alloc | apply pw_below_drewN | apply below_drew1 | refine below_set ?_ GE102001.out) | exact HB.out))) : w.heap.size ≤ gb102002)); have n4_ := Aside0.mk ((by rw [hg]; exact (below_size (by repeat (first | (with_reducible first | exact HB.out | apply below_alloc | apply pw_below_drewN | apply below_drew1 | refine below_set ?_ GE102001.out) | exact HB.out))) : w.heap.size ≤ gb102002)); have n5_ := Aside0.mk ((by rw [hg]; exact Nat.ne_of_lt (blk_lt (g := gb102001) (o := .cells #[.int .i64 a0_0, .int .i64 a0_1, .int .i64 a0_2] 53 (0, 0)) (by (with_reducible repeat (first | refine blk_drewN ?_ _ | refine blk_drew ?_ | refine blk_alloc ?_ _)); exact BK102001.out)) : gb102001 ≠ gb102002)); have n6_ := Aside0.mk ((by rw [hg]; exact Nat.ne_of_gt (blk_lt (g := gb102001) (o := .cells #[.int .i64 a0_0, .int .i64 a0_1, .int .i64 a0_2] 53 (0, 0)) (by (with_reducible repeat (first | refine blk_drewN ?_ _ | refine blk_drew ?_ | refine blk_alloc ?_ _)); exact BK102001.out)) : gb102002 ≠ gb102001)); clear BK102001; clear HB; have BK102001 := n0_; have HB := n1_; have BK102002 := n2_; have GW102002 := n3_; have GE102002 := n4_; have NB102001_102002 := n5_; have NB102002_102001 := n6_; clear n0_ n1_ n2_ n3_ n4_ n5_ n6_; clear hb hbox hg; have hnb8 := NB102001_102002.out; have hnc8 := NB102002_102001.out; have hcz9_0 : w7.cell? ⟨gb102001, 0, none⟩ = some (.int .i64 a0_0) := (blk_cell BK102001.out 0).trans rfl; have hcz9_1 : w7.cell? ⟨gb102001, 1, none⟩ = some (.int .i64 a0_1) := (blk_cell BK102001.out 1).trans rfl; have hcz9_2 : w7.cell? ⟨gb102001, 2, none⟩ = some (.int .i64 a0_2) := (blk_cell BK102001.out 2).trans rfl; have hfz9_0 := blk_frozen BK102001.out 0; have hfz9_1 := blk_frozen BK102001.out 1; have hfz9_2 := blk_frozen BK102001.out 2))
        have pi102006 : (0 ≤ ((ji2) : Int)) = True := eq_true (of_decide_eq_true (by first | (with_reducible assumption) | assumption))
        have qi102006 : ((ji2) < (y102003.length : Int)) = True := eq_true (of_decide_eq_true (by first | (with_reducible assumption) | assumption))
        have pi102010 : (0 ≤ ((ji2) : Int)) = True := eq_true (of_decide_eq_true (by first | (with_reducible assumption) | assumption))
        have qi102010 : ((ji2) < (y102007.length : Int)) = True := eq_true (of_decide_eq_true (by first | (with_reducible assumption) | assumption))
        have n0_ := Aside0.mk (blk_drew BK102001.out)
        have n1_ := Aside0.mk (blk_drew BK102002.out)
        have n2_ := Aside0.mk (below_drew1 HB.out)
        clear BK102001
        clear BK102002
        clear HB
        have BK102001 := n0_
        have BK102002 := n1_
        have HB := n2_
        clear n0_ n1_ n2_
        refine start_ (n := 15) (S := fun w' => True) (ds := []) #[false, false, false, false, false, false, false, false, false, false, false, false, false, false, false] (by kernel_rfl) rfl rfl trivial (fun hHeld => ?_); refine with_tabW guidevaneref09_Terms.tab2 guidevaneref09_Terms.bits2 (fun HT_ HW_ => ?_)
        generalize w7.drew = w10 at BK102001 BK102002 HB hHeld ⊢
        refine pure_ (i := 0) (N := some 8) (v := ?_) (a' := ?_) #[true, false, false, false, false, false, false, false, false, false, false, false, false, false, false] rfl rfl (any_of HT_.out (by kernel_rfl)) (fun _ _ _ h => h) (Or.inl ⟨by rfl, ?_⟩) ?_ ?_
        rotate_left
        · intro w'
          go_simp
          with_reducible rfl
        rotate_left
        · simp only [Act.put, List.setIfInBounds_toArray, List.set_cons_zero, List.set_cons_succ, i64_w, i32_w]
          rfl
        refine pure_ (i := 3) (N := some 11) (v := ?_) (a' := ?_) #[true, false, false, true, false, false, false, false, false, false, false, false, false, false, false] rfl rfl (any_of HT_.out (by kernel_rfl)) (fun _ _ _ h => h) (Or.inl ⟨by rfl, ?_⟩) ?_ ?_
        rotate_left
        · intro w'
          go_simp
          with_reducible rfl
        rotate_left
        · simp only [Act.put, List.setIfInBounds_toArray, List.set_cons_zero, List.set_cons_succ, i64_w, i32_w]
          rfl
        refine pure_ (i := 7) (N := some 15) (v := ?_) (a' := ?_) #[true, false, false, true, false, false, false, true, false, false, false, false, false, false, false] rfl rfl (any_of HT_.out (by kernel_rfl)) (fun _ _ _ h => h) (Or.inl ⟨by rfl, ?_⟩) ?_ ?_
        rotate_left
        · intro w'
          go_simp
          with_reducible rfl
        rotate_left
        · simp only [Act.put, List.setIfInBounds_toArray, List.set_cons_zero, List.set_cons_succ, i64_w, i32_w]
          rfl
        refine pure_ (i := 10) (N := some 18) (v := ?_) (a' := ?_) #[true, false, false, true, false, false, false, true, false, false, true, false, false, false, false] rfl rfl (any_of HT_.out (by kernel_rfl)) (fun _ _ _ h => h) (Or.inl ⟨by rfl, ?_⟩) ?_ ?_
        rotate_left
        · intro w'
          go_simp
          with_reducible rfl
        rotate_left
        · simp only [Act.put, List.setIfInBounds_toArray, List.set_cons_zero, List.set_cons_succ, i64_w, i32_w]
          rfl
        refine inv_at [1, 2, 4, 5, 6, 8, 9, 11, 12, 13, 14] (fun a0_ b a w' => ∃ (v102004 : Value) (adz_v102004 : Addr) (v102008 : Value) (adz_v102008 : Addr) (m4_ : Value) (m8_ : Value), a = putSel a0_ b [(1, 9, .int .i64 a0_1), (2, 10, v102004), (4, 12, m4_), (5, 13, .int .i64 (rd y102003 (ji2))), (6, 14, v102008), (8, 16, m8_), (9, 17, .int .i64 (rd y102007 (ji2))), (11, 19, .int .i64 a0_0), (12, 20, .int .i64 (wrap64 (Int.tdiv a0_0 360))), (13, 21, .agg #[.int .i64 1, .int .i64 a0_1, .int .i64 (rd y102003 (ji2)), .int .i64 (rd y102007 (ji2)), .int .i64 (wrap64 (Int.tdiv a0_0 360))])] ∧ (w'.heap[gb102001]? = some (.cells #[.int .i64 a0_0, .int .i64 a0_1, .int .i64 a0_2] 53 (0, 0))) ∧ (b 14 = false → w'.heap[gb102002]? = some (.cells #[.int .i64 0, .int .i64 0, .int .i64 0, .int .i64 0, .int .i64 0] 54 (0, 0))) ∧ (Below w.heap.size w w') ∧ (b 2 = true → Kd.R (Kd.int .i64) 3 w' w.heap.size (fun _ => True) v102004 y102003) ∧ (b 2 = true → ∃ c_, (v102004 : Value) = .slice (some adz_v102004) y102003.length c_) ∧ (b 6 = true → Kd.R (Kd.int .i64) 3 w' w.heap.size (fun _ => True) v102008 y102007) ∧ (b 6 = true → ∃ c_, (v102008 : Value) = .slice (some adz_v102008) y102007.length c_) ∧ (b 14 = true → w'.heap[gb102002]? = some (.cells #[.int .i64 1, .int .i64 a0_1, .int .i64 (rd y102003 (ji2)), .int .i64 (rd y102007 (ji2)), .int .i64 (wrap64 (Int.tdiv a0_0 360))] 54 (0, 0))) ∧ (b 4 = true → (m4_ : Value) = .pointer (some (adz_v102004.add ((ji2)).toNat))) ∧ (b 8 = true → (m8_ : Value) = .pointer (some (adz_v102008.add ((ji2)).toNat)))) HT_.out HW_.out (by kernel_rfl) (by kernel_rfl) ?_ ?_ ?_
        · exact ⟨.bool false, ⟨0, 0, none⟩, .bool false, ⟨0, 0, none⟩, .bool false, .bool false, by simp only [putSel, Bool.false_eq_true, if_false], BK102001.out, fun _ => BK102002.out, HB.out, fun h_ => absurd h_ (by decide), fun h_ => absurd h_ (by decide), fun h_ => absurd h_ (by decide), fun h_ => absurd h_ (by decide), fun h_ => absurd h_ (by decide), fun h_ => absurd h_ (by decide), fun h_ => absurd h_ (by decide)⟩
        · skip
          clear BK102001 BK102002 HB
          refine steps_cons ?_ ?_
          · rintro b a w' ⟨v102004, adz_v102004, v102008, adz_v102008, m4_, m8_, ha, Q_BK102001, Q_BK102002, Q_HB, Q_HO102005, Q_HA_HO102005, Q_HO102009, Q_HA_HO102009, Q_BK102002_e14, Q_X4_, Q_X8_⟩ hb_ hon hoff
            refine ⟨_, rfl, fun K hK => ?_⟩
            have e8 : a.tmps[8]? = some (.pointer (some ⟨gb102001, 1, none⟩)) := by rw [ha]; exact (putSel_off rfl).trans rfl
            replace ha := Aside0.mk ha
            have BK102001 := Aside0.mk Q_BK102001
            have BK102002 := Aside0.mk (Q_BK102002 (hoff 14 (by kernel_rfl)))
            have HB := Aside0.mk Q_HB
            have hc0_ : w'.cell? ⟨gb102001, 0, none⟩ = some (.int .i64 a0_0) := (blk_cell BK102001.out 0).trans rfl
            have hc1_ : w'.cell? ⟨gb102001, 1, none⟩ = some (.int .i64 a0_1) := (blk_cell BK102001.out 1).trans rfl
            have hc2_ : w'.cell? ⟨gb102001, 2, none⟩ = some (.int .i64 a0_2) := (blk_cell BK102001.out 2).trans rfl
            refine value_ (w1 := w') (v := .int .i64 a0_1) (by rfl) rfl ?_ ?_
            · go_simp
              (try simp only [i64_w])
              try rfl
            refine hK.out _ _ ⟨v102004, adz_v102004, v102008, adz_v102008, m4_, m8_, (by rw [ha.out]; exact putSel_upk 0 hb_ rfl rfl rfl), Q_BK102001, Q_BK102002, Q_HB, Q_HO102005, Q_HA_HO102005, Q_HO102009, Q_HA_HO102009, fun h0_ => absurd ((hoff 14 (by kernel_rfl)).symm.trans h0_) (by decide), Q_X4_, Q_X8_⟩
          refine steps_cons ?_ ?_
          · rintro b a w' ⟨v102004, adz_v102004, v102008, adz_v102008, m4_, m8_, ha, Q_BK102001, Q_BK102002, Q_HB, Q_HO102005, Q_HA_HO102005, Q_HO102009, Q_HA_HO102009, Q_BK102002_e14, Q_X4_, Q_X8_⟩ hb_ hon hoff
            refine ⟨_, rfl, fun K hK => ?_⟩
            replace ha := Aside0.mk ha
            have BK102001 := Aside0.mk Q_BK102001
            have BK102002 := Aside0.mk (Q_BK102002 (hoff 14 (by kernel_rfl)))
            have HB := Aside0.mk Q_HB
            refine Kd.R_lit_step (Kd.int .i64) _ 3 ?hg (N := 10) ?hd (xs := ([1, 0, (-1), 0] : List Int)) (inner := [.int .i64 1, .int .i64 0, .int .i64 (-1), .int .i64 0]) (ok := fun _ => True) (okp := fun _ => True) ?hr ?hp (fun _ hk => hk) trivial (Below.refl _ _) (Nat.le_refl _) (by simp) ?_; (case hd => rfl); (case hg => rfl); (case hr => first | (go_simp; done) | (go_simp; rfl)); (case hp => exact (Reps.one (show Kd.M (Kd.int .i64) _ _ _ 1 [.int .i64 1] from rfl) (Reps.one (show Kd.M (Kd.int .i64) _ _ _ 0 [.int .i64 0] from rfl) (Reps.one (show Kd.M (Kd.int .i64) _ _ _ (-1) [.int .i64 (-1)] from rfl) (Reps.one (show Kd.M (Kd.int .i64) _ _ _ 0 [.int .i64 0] from rfl) (Reps.none _ _))))))
            intro v102004 w11 ho12 hb hg_ hnew_
            clear hg_ hnew_
            (first | rw [← Ny102003.out] at ho12 | (simp only [Int.reduceToNat] at ho12; rw [← Ny102003.out] at ho12))
            have n0_ := Aside0.mk (Kd.R_lower ho12 (below_size (by repeat (first | (with_reducible first | exact HB.out | apply below_alloc | apply pw_below_drewN | apply below_drew1 | refine below_set ?_ GE102001.out | refine below_set ?_ GE102002.out) | exact HB.out))))
            have n1_ := Aside0.mk (blk_below (g := gb102001) (o := .cells #[.int .i64 a0_0, .int .i64 a0_1, .int .i64 a0_2] 53 (0, 0)) (by (with_reducible repeat (first | refine blk_drewN ?_ _ | refine blk_drew ?_ | refine blk_alloc ?_ _)); exact BK102001.out) hb)
            have n2_ := Aside0.mk (blk_below (g := gb102002) (o := .cells #[.int .i64 0, .int .i64 0, .int .i64 0, .int .i64 0, .int .i64 0] 54 (0, 0)) (by (with_reducible repeat (first | refine blk_drewN ?_ _ | refine blk_drew ?_ | refine blk_alloc ?_ _)); exact BK102002.out) hb)
            have n3_ := Aside0.mk (below_step (by repeat (first | (with_reducible first | exact HB.out | apply below_alloc | apply pw_below_drewN | apply below_drew1 | refine below_set ?_ GE102001.out | refine below_set ?_ GE102002.out) | exact HB.out)) hb)
            have z_HO102009 := fun (h0_ : b 6 = true) => (show Kd.R (Kd.int .i64) 3 w11 w.heap.size (fun _ => True) v102008 y102007 from by first | exact (Kd.R_elder' (by (with_reducible repeat (first | apply Kd.R_alloc | apply Kd.R_drewN | apply Kd.R_drew)); exact (Q_HO102009 h0_)) (Kd.R_base ho12) hb) | exact Kd.R_mono (Kd.R_elder' (by (with_reducible repeat (first | apply Kd.R_alloc | apply Kd.R_drewN | apply Kd.R_drew)); exact (Q_HO102009 h0_)) (Kd.R_base ho12) hb) (fun _ h_ => by first | trivial | exact h_ | exact h_.1))
            clear BK102001
            clear BK102002
            clear HB
            have HO102005 := n0_
            have BK102001 := n1_
            have BK102002 := n2_
            have HB := n3_
            clear n0_ n1_ n2_ n3_
            clear hb ho12
            obtain ⟨Ao13, co13, eo13⟩ := Kd.R_slice HO102005.out
            subst eo13
            obtain ⟨ado13, fo13, _⟩ := Kd.at_int (Kd.R_reads' HO102005.out).2.2 0 (by decide) (by rw [Ny102003.out]; simp)
            cases fo13
            refine hK.out _ _ ⟨.slice (some ado13) y102003.length co13, ado13, v102008, adz_v102008, m4_, m8_, (by rw [ha.out]; exact putSel_upk 1 hb_ rfl rfl rfl), (by (with_reducible repeat (first | refine blk_drewN ?_ _ | refine blk_drew ?_ | refine blk_alloc ?_ _)); exact BK102001.out), fun _ => (by (with_reducible repeat (first | refine blk_drewN ?_ _ | refine blk_drew ?_ | refine blk_alloc ?_ _)); exact BK102002.out), (by repeat (first | (with_reducible first | exact HB.out | apply below_alloc | apply pw_below_drewN | apply below_drew1 | refine below_set ?_ GE102001.out | refine below_set ?_ GE102002.out) | exact HB.out)), fun _ => (by (with_reducible repeat (first | apply Kd.R_alloc | apply Kd.R_drewN | apply Kd.R_drew)); exact HO102005.out), fun _ => ⟨_, rfl⟩, z_HO102009, Q_HA_HO102009, fun h0_ => absurd ((hoff 14 (by kernel_rfl)).symm.trans h0_) (by decide), fun h0_ => absurd ((hoff 4 (by kernel_rfl)).symm.trans h0_) (by decide), Q_X8_⟩
          refine steps_cons ?_ ?_
          · rintro b a w' ⟨v102004, adz_v102004, v102008, adz_v102008, m4_, m8_, ha, Q_BK102001, Q_BK102002, Q_HB, Q_HO102005, Q_HA_HO102005, Q_HO102009, Q_HA_HO102009, Q_BK102002_e14, Q_X4_, Q_X8_⟩ hb_ hon hoff
            refine ⟨_, rfl, fun K hK => ?_⟩
            have e10 : a.tmps[10]? = some (v102004) := by rw [ha]; exact putSel_on (e := (2, 10, v102004)) 1 rfl rfl (hon 2 (by kernel_rfl)) rfl
            have e11 : a.tmps[11]? = some (.int .i64 ji2) := by rw [ha]; exact (putSel_off rfl).trans rfl
            replace ha := Aside0.mk ha
            have BK102001 := Aside0.mk Q_BK102001
            have BK102002 := Aside0.mk (Q_BK102002 (hoff 14 (by kernel_rfl)))
            have HB := Aside0.mk Q_HB
            have HO102005 := Aside0.mk (Q_HO102005 (hon 2 (by kernel_rfl)))
            have HA_HO102005 := Aside0.mk (Q_HA_HO102005 (hon 2 (by kernel_rfl)))
            obtain ⟨c_, hv_⟩ := HA_HO102005.out
            rw [hv_] at e10
            refine value_ (w1 := w') (v := .pointer (some (adz_v102004.add ((ji2)).toNat))) (by rfl) rfl ?_ ?_
            · go_simp
              (try simp only [i64_w])
              try rfl
            refine hK.out _ _ ⟨v102004, adz_v102004, v102008, adz_v102008, (.pointer (some (adz_v102004.add ((ji2)).toNat))), m8_, (by rw [ha.out]; exact putSel_upk 2 hb_ rfl rfl rfl), Q_BK102001, Q_BK102002, Q_HB, Q_HO102005, Q_HA_HO102005, Q_HO102009, Q_HA_HO102009, fun h0_ => absurd ((hoff 14 (by kernel_rfl)).symm.trans h0_) (by decide), fun _ => rfl, Q_X8_⟩
          refine steps_cons ?_ ?_
          · rintro b a w' ⟨v102004, adz_v102004, v102008, adz_v102008, m4_, m8_, ha, Q_BK102001, Q_BK102002, Q_HB, Q_HO102005, Q_HA_HO102005, Q_HO102009, Q_HA_HO102009, Q_BK102002_e14, Q_X4_, Q_X8_⟩ hb_ hon hoff
            refine ⟨_, rfl, fun K hK => ?_⟩
            have e12 : a.tmps[12]? = some (m4_) := by rw [ha]; exact putSel_on (e := (4, 12, m4_)) 2 rfl rfl (hon 4 (by kernel_rfl)) rfl
            rw [Q_X4_ (hon 4 (by kernel_rfl))] at e12
            replace ha := Aside0.mk ha
            have BK102001 := Aside0.mk Q_BK102001
            have BK102002 := Aside0.mk (Q_BK102002 (hoff 14 (by kernel_rfl)))
            have HB := Aside0.mk Q_HB
            have HO102005 := Aside0.mk (Q_HO102005 (hon 2 (by kernel_rfl)))
            have HA_HO102005 := Aside0.mk (Q_HA_HO102005 (hon 2 (by kernel_rfl)))
            obtain ⟨c_, hv_⟩ := HA_HO102005.out
            have hF_ := HO102005.out
            rw [hv_] at hF_
            obtain ⟨ad_, ea_, hx_⟩ := Kd.at_int (Kd.R_reads' hF_).2.2 (ji2) (of_eq_true pi102006) (of_eq_true qi102006)
            cases ea_
            refine value_ (w1 := w') (v := .int .i64 (rd y102003 (ji2))) (by rfl) rfl ?_ ?_
            · go_simp
              (try simp only [i64_w])
              try rfl
            refine hK.out _ _ ⟨v102004, adz_v102004, v102008, adz_v102008, m4_, m8_, (by rw [ha.out]; exact putSel_upk 3 hb_ rfl rfl rfl), Q_BK102001, Q_BK102002, Q_HB, Q_HO102005, Q_HA_HO102005, Q_HO102009, Q_HA_HO102009, fun h0_ => absurd ((hoff 14 (by kernel_rfl)).symm.trans h0_) (by decide), Q_X4_, Q_X8_⟩
          refine steps_cons ?_ ?_
          · rintro b a w' ⟨v102004, adz_v102004, v102008, adz_v102008, m4_, m8_, ha, Q_BK102001, Q_BK102002, Q_HB, Q_HO102005, Q_HA_HO102005, Q_HO102009, Q_HA_HO102009, Q_BK102002_e14, Q_X4_, Q_X8_⟩ hb_ hon hoff
            refine ⟨_, rfl, fun K hK => ?_⟩
            replace ha := Aside0.mk ha
            have BK102001 := Aside0.mk Q_BK102001
            have BK102002 := Aside0.mk (Q_BK102002 (hoff 14 (by kernel_rfl)))
            have HB := Aside0.mk Q_HB
            refine Kd.R_lit_step (Kd.int .i64) _ 3 ?hg (N := 14) ?hd (xs := ([0, 1, 0, (-1)] : List Int)) (inner := [.int .i64 0, .int .i64 1, .int .i64 0, .int .i64 (-1)]) (ok := fun _ => True) (okp := fun _ => True) ?hr ?hp (fun _ hk => hk) trivial (Below.refl _ _) (Nat.le_refl _) (by simp) ?_; (case hd => rfl); (case hg => rfl); (case hr => first | (go_simp; done) | (go_simp; rfl)); (case hp => exact (Reps.one (show Kd.M (Kd.int .i64) _ _ _ 0 [.int .i64 0] from rfl) (Reps.one (show Kd.M (Kd.int .i64) _ _ _ 1 [.int .i64 1] from rfl) (Reps.one (show Kd.M (Kd.int .i64) _ _ _ 0 [.int .i64 0] from rfl) (Reps.one (show Kd.M (Kd.int .i64) _ _ _ (-1) [.int .i64 (-1)] from rfl) (Reps.none _ _))))))
            intro v102008 w11 ho12 hb hg_ hnew_
            clear hg_ hnew_
            (first | rw [← Ny102007.out] at ho12 | (simp only [Int.reduceToNat] at ho12; rw [← Ny102007.out] at ho12))
            have n0_ := Aside0.mk (Kd.R_lower ho12 (below_size (by repeat (first | (with_reducible first | exact HB.out | apply below_alloc | apply pw_below_drewN | apply below_drew1 | refine below_set ?_ GE102001.out | refine below_set ?_ GE102002.out) | exact HB.out))))
            have n1_ := Aside0.mk (blk_below (g := gb102001) (o := .cells #[.int .i64 a0_0, .int .i64 a0_1, .int .i64 a0_2] 53 (0, 0)) (by (with_reducible repeat (first | refine blk_drewN ?_ _ | refine blk_drew ?_ | refine blk_alloc ?_ _)); exact BK102001.out) hb)
            have n2_ := Aside0.mk (blk_below (g := gb102002) (o := .cells #[.int .i64 0, .int .i64 0, .int .i64 0, .int .i64 0, .int .i64 0] 54 (0, 0)) (by (with_reducible repeat (first | refine blk_drewN ?_ _ | refine blk_drew ?_ | refine blk_alloc ?_ _)); exact BK102002.out) hb)
            have n3_ := Aside0.mk (below_step (by repeat (first | (with_reducible first | exact HB.out | apply below_alloc | apply pw_below_drewN | apply below_drew1 | refine below_set ?_ GE102001.out | refine below_set ?_ GE102002.out) | exact HB.out)) hb)
            have z_HO102005 := fun (h0_ : b 2 = true) => (show Kd.R (Kd.int .i64) 3 w11 w.heap.size (fun _ => True) v102004 y102003 from by first | exact (Kd.R_elder' (by (with_reducible repeat (first | apply Kd.R_alloc | apply Kd.R_drewN | apply Kd.R_drew)); exact (Q_HO102005 h0_)) (Kd.R_base ho12) hb) | exact Kd.R_mono (Kd.R_elder' (by (with_reducible repeat (first | apply Kd.R_alloc | apply Kd.R_drewN | apply Kd.R_drew)); exact (Q_HO102005 h0_)) (Kd.R_base ho12) hb) (fun _ h_ => by first | trivial | exact h_ | exact h_.1))
            clear BK102001
            clear BK102002
            clear HB
            have HO102009 := n0_
            have BK102001 := n1_
            have BK102002 := n2_
            have HB := n3_
            clear n0_ n1_ n2_ n3_
            clear hb ho12
            obtain ⟨Ao13, co13, eo13⟩ := Kd.R_slice HO102009.out
            subst eo13
            obtain ⟨ado13, fo13, _⟩ := Kd.at_int (Kd.R_reads' HO102009.out).2.2 0 (by decide) (by rw [Ny102007.out]; simp)
            cases fo13
            refine hK.out _ _ ⟨v102004, adz_v102004, .slice (some ado13) y102007.length co13, ado13, m4_, m8_, (by rw [ha.out]; exact putSel_upk 4 hb_ rfl rfl rfl), (by (with_reducible repeat (first | refine blk_drewN ?_ _ | refine blk_drew ?_ | refine blk_alloc ?_ _)); exact BK102001.out), fun _ => (by (with_reducible repeat (first | refine blk_drewN ?_ _ | refine blk_drew ?_ | refine blk_alloc ?_ _)); exact BK102002.out), (by repeat (first | (with_reducible first | exact HB.out | apply below_alloc | apply pw_below_drewN | apply below_drew1 | refine below_set ?_ GE102001.out | refine below_set ?_ GE102002.out) | exact HB.out)), z_HO102005, Q_HA_HO102005, fun _ => (by (with_reducible repeat (first | apply Kd.R_alloc | apply Kd.R_drewN | apply Kd.R_drew)); exact HO102009.out), fun _ => ⟨_, rfl⟩, fun h0_ => absurd ((hoff 14 (by kernel_rfl)).symm.trans h0_) (by decide), Q_X4_, fun h0_ => absurd ((hoff 8 (by kernel_rfl)).symm.trans h0_) (by decide)⟩
          refine steps_cons ?_ ?_
          · rintro b a w' ⟨v102004, adz_v102004, v102008, adz_v102008, m4_, m8_, ha, Q_BK102001, Q_BK102002, Q_HB, Q_HO102005, Q_HA_HO102005, Q_HO102009, Q_HA_HO102009, Q_BK102002_e14, Q_X4_, Q_X8_⟩ hb_ hon hoff
            refine ⟨_, rfl, fun K hK => ?_⟩
            have e14 : a.tmps[14]? = some (v102008) := by rw [ha]; exact putSel_on (e := (6, 14, v102008)) 4 rfl rfl (hon 6 (by kernel_rfl)) rfl
            have e15 : a.tmps[15]? = some (.int .i64 ji2) := by rw [ha]; exact (putSel_off rfl).trans rfl
            replace ha := Aside0.mk ha
            have BK102001 := Aside0.mk Q_BK102001
            have BK102002 := Aside0.mk (Q_BK102002 (hoff 14 (by kernel_rfl)))
            have HB := Aside0.mk Q_HB
            have HO102009 := Aside0.mk (Q_HO102009 (hon 6 (by kernel_rfl)))
            have HA_HO102009 := Aside0.mk (Q_HA_HO102009 (hon 6 (by kernel_rfl)))
            obtain ⟨c_, hv_⟩ := HA_HO102009.out
            rw [hv_] at e14
            refine value_ (w1 := w') (v := .pointer (some (adz_v102008.add ((ji2)).toNat))) (by rfl) rfl ?_ ?_
            · go_simp
              (try simp only [i64_w])
              try rfl
            refine hK.out _ _ ⟨v102004, adz_v102004, v102008, adz_v102008, m4_, (.pointer (some (adz_v102008.add ((ji2)).toNat))), (by rw [ha.out]; exact putSel_upk 5 hb_ rfl rfl rfl), Q_BK102001, Q_BK102002, Q_HB, Q_HO102005, Q_HA_HO102005, Q_HO102009, Q_HA_HO102009, fun h0_ => absurd ((hoff 14 (by kernel_rfl)).symm.trans h0_) (by decide), Q_X4_, fun _ => rfl⟩
          refine steps_cons ?_ ?_
          · rintro b a w' ⟨v102004, adz_v102004, v102008, adz_v102008, m4_, m8_, ha, Q_BK102001, Q_BK102002, Q_HB, Q_HO102005, Q_HA_HO102005, Q_HO102009, Q_HA_HO102009, Q_BK102002_e14, Q_X4_, Q_X8_⟩ hb_ hon hoff
            refine ⟨_, rfl, fun K hK => ?_⟩
            have e16 : a.tmps[16]? = some (m8_) := by rw [ha]; exact putSel_on (e := (8, 16, m8_)) 5 rfl rfl (hon 8 (by kernel_rfl)) rfl
            rw [Q_X8_ (hon 8 (by kernel_rfl))] at e16
            replace ha := Aside0.mk ha
            have BK102001 := Aside0.mk Q_BK102001
            have BK102002 := Aside0.mk (Q_BK102002 (hoff 14 (by kernel_rfl)))
            have HB := Aside0.mk Q_HB
            have HO102009 := Aside0.mk (Q_HO102009 (hon 6 (by kernel_rfl)))
            have HA_HO102009 := Aside0.mk (Q_HA_HO102009 (hon 6 (by kernel_rfl)))
            obtain ⟨c_, hv_⟩ := HA_HO102009.out
            have hF_ := HO102009.out
            rw [hv_] at hF_
            obtain ⟨ad_, ea_, hx_⟩ := Kd.at_int (Kd.R_reads' hF_).2.2 (ji2) (of_eq_true pi102010) (of_eq_true qi102010)
            cases ea_
            refine value_ (w1 := w') (v := .int .i64 (rd y102007 (ji2))) (by rfl) rfl ?_ ?_
            · go_simp
              (try simp only [i64_w])
              try rfl
            refine hK.out _ _ ⟨v102004, adz_v102004, v102008, adz_v102008, m4_, m8_, (by rw [ha.out]; exact putSel_upk 6 hb_ rfl rfl rfl), Q_BK102001, Q_BK102002, Q_HB, Q_HO102005, Q_HA_HO102005, Q_HO102009, Q_HA_HO102009, fun h0_ => absurd ((hoff 14 (by kernel_rfl)).symm.trans h0_) (by decide), Q_X4_, Q_X8_⟩
          refine steps_cons ?_ ?_
          · rintro b a w' ⟨v102004, adz_v102004, v102008, adz_v102008, m4_, m8_, ha, Q_BK102001, Q_BK102002, Q_HB, Q_HO102005, Q_HA_HO102005, Q_HO102009, Q_HA_HO102009, Q_BK102002_e14, Q_X4_, Q_X8_⟩ hb_ hon hoff
            refine ⟨_, rfl, fun K hK => ?_⟩
            have e18 : a.tmps[18]? = some (.pointer (some ⟨gb102001, 0, none⟩)) := by rw [ha]; exact (putSel_off rfl).trans rfl
            replace ha := Aside0.mk ha
            have BK102001 := Aside0.mk Q_BK102001
            have BK102002 := Aside0.mk (Q_BK102002 (hoff 14 (by kernel_rfl)))
            have HB := Aside0.mk Q_HB
            have hc0_ : w'.cell? ⟨gb102001, 0, none⟩ = some (.int .i64 a0_0) := (blk_cell BK102001.out 0).trans rfl
            have hc1_ : w'.cell? ⟨gb102001, 1, none⟩ = some (.int .i64 a0_1) := (blk_cell BK102001.out 1).trans rfl
            have hc2_ : w'.cell? ⟨gb102001, 2, none⟩ = some (.int .i64 a0_2) := (blk_cell BK102001.out 2).trans rfl
            refine value_ (w1 := w') (v := .int .i64 a0_0) (by rfl) rfl ?_ ?_
            · go_simp
              (try simp only [i64_w])
              try rfl
            refine hK.out _ _ ⟨v102004, adz_v102004, v102008, adz_v102008, m4_, m8_, (by rw [ha.out]; exact putSel_upk 7 hb_ rfl rfl rfl), Q_BK102001, Q_BK102002, Q_HB, Q_HO102005, Q_HA_HO102005, Q_HO102009, Q_HA_HO102009, fun h0_ => absurd ((hoff 14 (by kernel_rfl)).symm.trans h0_) (by decide), Q_X4_, Q_X8_⟩
          refine steps_cons ?_ ?_
          · rintro b a w' ⟨v102004, adz_v102004, v102008, adz_v102008, m4_, m8_, ha, Q_BK102001, Q_BK102002, Q_HB, Q_HO102005, Q_HA_HO102005, Q_HO102009, Q_HA_HO102009, Q_BK102002_e14, Q_X4_, Q_X8_⟩ hb_ hon hoff
            refine ⟨_, rfl, fun K hK => ?_⟩
            have e19 : a.tmps[19]? = some (.int .i64 a0_0) := by rw [ha]; exact putSel_on (e := (11, 19, .int .i64 a0_0)) 7 rfl rfl (hon 11 (by kernel_rfl)) rfl
            replace ha := Aside0.mk ha
            have BK102001 := Aside0.mk Q_BK102001
            have BK102002 := Aside0.mk (Q_BK102002 (hoff 14 (by kernel_rfl)))
            have HB := Aside0.mk Q_HB
            refine value_ (w1 := w') (v := .int .i64 (wrap64 (Int.tdiv a0_0 360))) (by rfl) rfl ?_ ?_
            · go_simp
              (try simp only [i64_w])
              try rfl
            refine hK.out _ _ ⟨v102004, adz_v102004, v102008, adz_v102008, m4_, m8_, (by rw [ha.out]; exact putSel_upk 8 hb_ rfl rfl rfl), Q_BK102001, Q_BK102002, Q_HB, Q_HO102005, Q_HA_HO102005, Q_HO102009, Q_HA_HO102009, fun h0_ => absurd ((hoff 14 (by kernel_rfl)).symm.trans h0_) (by decide), Q_X4_, Q_X8_⟩
          refine steps_cons ?_ ?_
          · rintro b a w' ⟨v102004, adz_v102004, v102008, adz_v102008, m4_, m8_, ha, Q_BK102001, Q_BK102002, Q_HB, Q_HO102005, Q_HA_HO102005, Q_HO102009, Q_HA_HO102009, Q_BK102002_e14, Q_X4_, Q_X8_⟩ hb_ hon hoff
            refine ⟨_, rfl, fun K hK => ?_⟩
            have e9 : a.tmps[9]? = some (.int .i64 a0_1) := by rw [ha]; exact putSel_on (e := (1, 9, .int .i64 a0_1)) 0 rfl rfl (hon 1 (by kernel_rfl)) rfl
            have e13 : a.tmps[13]? = some (.int .i64 (rd y102003 (ji2))) := by rw [ha]; exact putSel_on (e := (5, 13, .int .i64 (rd y102003 (ji2)))) 3 rfl rfl (hon 5 (by kernel_rfl)) rfl
            have e17 : a.tmps[17]? = some (.int .i64 (rd y102007 (ji2))) := by rw [ha]; exact putSel_on (e := (9, 17, .int .i64 (rd y102007 (ji2)))) 6 rfl rfl (hon 9 (by kernel_rfl)) rfl
            have e20 : a.tmps[20]? = some (.int .i64 (wrap64 (Int.tdiv a0_0 360))) := by rw [ha]; exact putSel_on (e := (12, 20, .int .i64 (wrap64 (Int.tdiv a0_0 360)))) 8 rfl rfl (hon 12 (by kernel_rfl)) rfl
            replace ha := Aside0.mk ha
            have BK102001 := Aside0.mk Q_BK102001
            have BK102002 := Aside0.mk (Q_BK102002 (hoff 14 (by kernel_rfl)))
            have HB := Aside0.mk Q_HB
            have HO102005 := Aside0.mk (Q_HO102005 (hon 2 (by kernel_rfl)))
            have HA_HO102005 := Aside0.mk (Q_HA_HO102005 (hon 2 (by kernel_rfl)))
            have HO102009 := Aside0.mk (Q_HO102009 (hon 6 (by kernel_rfl)))
            have HA_HO102009 := Aside0.mk (Q_HA_HO102009 (hon 6 (by kernel_rfl)))
            refine value_ (w1 := w') (v := .agg #[.int .i64 1, .int .i64 a0_1, .int .i64 (rd y102003 (ji2)), .int .i64 (rd y102007 (ji2)), .int .i64 (wrap64 (Int.tdiv a0_0 360))]) (by rfl) rfl ?_ ?_
            · go_simp
              (try simp only [i64_w])
              try rfl
            refine hK.out _ _ ⟨v102004, adz_v102004, v102008, adz_v102008, m4_, m8_, (by rw [ha.out]; exact putSel_upk 9 hb_ rfl rfl rfl), Q_BK102001, Q_BK102002, Q_HB, Q_HO102005, Q_HA_HO102005, Q_HO102009, Q_HA_HO102009, fun h0_ => absurd ((hoff 14 (by kernel_rfl)).symm.trans h0_) (by decide), Q_X4_, Q_X8_⟩
          refine steps_cons ?_ ?_
          · rintro b a w' ⟨v102004, adz_v102004, v102008, adz_v102008, m4_, m8_, ha, Q_BK102001, Q_BK102002, Q_HB, Q_HO102005, Q_HA_HO102005, Q_HO102009, Q_HA_HO102009, Q_BK102002_e14, Q_X4_, Q_X8_⟩ hb_ hon hoff
            refine ⟨_, rfl, fun K hK => ?_⟩
            have e2 : a.tmps[2]? = some (.pointer (some ⟨gb102002, 0, none⟩)) := by rw [ha]; exact (putSel_off rfl).trans rfl
            have e21 : a.tmps[21]? = some (.agg #[.int .i64 1, .int .i64 a0_1, .int .i64 (rd y102003 (ji2)), .int .i64 (rd y102007 (ji2)), .int .i64 (wrap64 (Int.tdiv a0_0 360))]) := by rw [ha]; exact putSel_on (e := (13, 21, .agg #[.int .i64 1, .int .i64 a0_1, .int .i64 (rd y102003 (ji2)), .int .i64 (rd y102007 (ji2)), .int .i64 (wrap64 (Int.tdiv a0_0 360))])) 9 rfl rfl (hon 13 (by kernel_rfl)) rfl
            replace ha := Aside0.mk ha
            have BK102001 := Aside0.mk Q_BK102001
            have BK102002 := Aside0.mk (Q_BK102002 hb_)
            have HB := Aside0.mk Q_HB
            have HO102005 := Aside0.mk (Q_HO102005 (hon 2 (by kernel_rfl)))
            have HA_HO102005 := Aside0.mk (Q_HA_HO102005 (hon 2 (by kernel_rfl)))
            have HO102009 := Aside0.mk (Q_HO102009 (hon 6 (by kernel_rfl)))
            have HA_HO102009 := Aside0.mk (Q_HA_HO102009 (hon 6 (by kernel_rfl)))
            obtain ⟨co18, eo18⟩ := HA_HO102005.out
            clear HA_HO102005
            subst eo18
            obtain ⟨co19, eo19⟩ := HA_HO102009.out
            clear HA_HO102009
            subst eo19
            have hs20 : w'.cell? ⟨gb102002, 0, none⟩ = some (.int .i64 0) := (blk_cell BK102002.out 0).trans rfl
            have hfs20 := blk_frozen BK102002.out 0
            have hns20_0 := NB102001_102002.out
            have hms20_0 := NB102002_102001.out
            have hs21 : w'.cell? ⟨gb102002, 1, none⟩ = some (.int .i64 0) := (blk_cell BK102002.out 1).trans rfl
            have hfs21 := blk_frozen BK102002.out 1
            have hns21_0 := NB102001_102002.out
            have hms21_0 := NB102002_102001.out
            have hs22 : w'.cell? ⟨gb102002, 2, none⟩ = some (.int .i64 0) := (blk_cell BK102002.out 2).trans rfl
            have hfs22 := blk_frozen BK102002.out 2
            have hns22_0 := NB102001_102002.out
            have hms22_0 := NB102002_102001.out
            have hs23 : w'.cell? ⟨gb102002, 3, none⟩ = some (.int .i64 0) := (blk_cell BK102002.out 3).trans rfl
            have hfs23 := blk_frozen BK102002.out 3
            have hns23_0 := NB102001_102002.out
            have hms23_0 := NB102002_102001.out
            have hs24 : w'.cell? ⟨gb102002, 4, none⟩ = some (.int .i64 0) := (blk_cell BK102002.out 4).trans rfl
            have hfs24 := blk_frozen BK102002.out 4
            have hns24_0 := NB102001_102002.out
            have hms24_0 := NB102002_102001.out
            refine skip_ (w1 := ?_) (by rfl) rfl ?_ ?_
            rotate_left
            · go_simp
              rfl
            refine hK.out _ _ ⟨.slice (some adz_v102004) y102003.length co18, adz_v102004, .slice (some adz_v102008) y102007.length co19, adz_v102008, m4_, m8_, (by rw [ha.out]; exact putSel_none (v := undef) rfl), (by (with_reducible repeat (first | refine blk_drewN ?_ _ | refine blk_drew ?_ | refine blk_alloc ?_ _)); refine blk_far ?_ NB102001_102002.out _; (with_reducible repeat (first | refine blk_drewN ?_ _ | refine blk_drew ?_ | refine blk_alloc ?_ _)); refine blk_far ?_ NB102001_102002.out _; (with_reducible repeat (first | refine blk_drewN ?_ _ | refine blk_drew ?_ | refine blk_alloc ?_ _)); refine blk_far ?_ NB102001_102002.out _; (with_reducible repeat (first | refine blk_drewN ?_ _ | refine blk_drew ?_ | refine blk_alloc ?_ _)); refine blk_far ?_ NB102001_102002.out _; (with_reducible repeat (first | refine blk_drewN ?_ _ | refine blk_drew ?_ | refine blk_alloc ?_ _)); refine blk_far ?_ NB102001_102002.out _; (with_reducible repeat (first | refine blk_drewN ?_ _ | refine blk_drew ?_ | refine blk_alloc ?_ _)); exact BK102001.out), fun h0_ => absurd ((up_self b 14).symm.trans h0_) (by decide), (by repeat (first | (with_reducible first | exact HB.out | apply below_alloc | apply pw_below_drewN | apply below_drew1 | refine below_set ?_ GE102001.out | refine below_set ?_ GE102002.out) | exact HB.out)), fun _ => (by (with_reducible repeat (first | apply Kd.R_alloc | apply Kd.R_drewN | apply Kd.R_drew)); exact Kd.R_mono (Kd.R_far (p := ⟨gb102002, 4, none⟩) (Kd.R_far (p := ⟨gb102002, 3, none⟩) (Kd.R_far (p := ⟨gb102002, 2, none⟩) (Kd.R_far (p := ⟨gb102002, 1, none⟩) (Kd.R_far (p := ⟨gb102002, 0, none⟩) (Kd.R_types HO102005.out BK102002.out (by decide)) (fun _ hk => hk.2) (.int .i64 1)) (fun _ hk => hk.2) (.int .i64 a0_1)) (fun _ hk => hk.2) (.int .i64 (rd y102003 (ji2)))) (fun _ hk => hk.2) (.int .i64 (rd y102007 (ji2)))) (fun _ hk => hk.2) (.int .i64 (wrap64 (Int.tdiv a0_0 360)))) (fun _ hk => hk.1)), fun _ => ⟨_, rfl⟩, fun _ => (by (with_reducible repeat (first | apply Kd.R_alloc | apply Kd.R_drewN | apply Kd.R_drew)); exact Kd.R_mono (Kd.R_far (p := ⟨gb102002, 4, none⟩) (Kd.R_far (p := ⟨gb102002, 3, none⟩) (Kd.R_far (p := ⟨gb102002, 2, none⟩) (Kd.R_far (p := ⟨gb102002, 1, none⟩) (Kd.R_far (p := ⟨gb102002, 0, none⟩) (Kd.R_types HO102009.out BK102002.out (by decide)) (fun _ hk => hk.2) (.int .i64 1)) (fun _ hk => hk.2) (.int .i64 a0_1)) (fun _ hk => hk.2) (.int .i64 (rd y102003 (ji2)))) (fun _ hk => hk.2) (.int .i64 (rd y102007 (ji2)))) (fun _ hk => hk.2) (.int .i64 (wrap64 (Int.tdiv a0_0 360)))) (fun _ hk => hk.1)), fun _ => ⟨_, rfl⟩, fun _ => (by (with_reducible repeat (first | refine blk_drewN ?_ _ | refine blk_drew ?_ | refine blk_alloc ?_ _)); refine blk_put (cs := #[.int .i64 1, .int .i64 a0_1, .int .i64 (rd y102003 (ji2)), .int .i64 (rd y102007 (ji2)), .int .i64 0]) ?_ 4 _ rfl; (with_reducible repeat (first | refine blk_drewN ?_ _ | refine blk_drew ?_ | refine blk_alloc ?_ _)); refine blk_put (cs := #[.int .i64 1, .int .i64 a0_1, .int .i64 (rd y102003 (ji2)), .int .i64 0, .int .i64 0]) ?_ 3 _ rfl; (with_reducible repeat (first | refine blk_drewN ?_ _ | refine blk_drew ?_ | refine blk_alloc ?_ _)); refine blk_put (cs := #[.int .i64 1, .int .i64 a0_1, .int .i64 0, .int .i64 0, .int .i64 0]) ?_ 2 _ rfl; (with_reducible repeat (first | refine blk_drewN ?_ _ | refine blk_drew ?_ | refine blk_alloc ?_ _)); refine blk_put (cs := #[.int .i64 1, .int .i64 0, .int .i64 0, .int .i64 0, .int .i64 0]) ?_ 1 _ rfl; (with_reducible repeat (first | refine blk_drewN ?_ _ | refine blk_drew ?_ | refine blk_alloc ?_ _)); refine blk_put (cs := #[.int .i64 0, .int .i64 0, .int .i64 0, .int .i64 0, .int .i64 0]) ?_ 0 _ rfl; (with_reducible repeat (first | refine blk_drewN ?_ _ | refine blk_drew ?_ | refine blk_alloc ?_ _)); exact BK102002.out), Q_X4_, Q_X8_⟩
          exact steps_nil
        rintro b a w22 hall ⟨v102004, adz_v102004, v102008, adz_v102008, m4_, m8_, ha, Q_BK102001, Q_BK102002, Q_HB, Q_HO102005, Q_HA_HO102005, Q_HO102009, Q_HA_HO102009, Q_BK102002_e14, Q_X4_, Q_X8_⟩
        clear BK102001 BK102002 HB
        have hb1_ := hall 1 (by kernel_rfl)
        have hb2_ := hall 2 (by kernel_rfl)
        have hb4_ := hall 4 (by kernel_rfl)
        have hb5_ := hall 5 (by kernel_rfl)
        have hb6_ := hall 6 (by kernel_rfl)
        have hb8_ := hall 8 (by kernel_rfl)
        have hb9_ := hall 9 (by kernel_rfl)
        have hb11_ := hall 11 (by kernel_rfl)
        have hb12_ := hall 12 (by kernel_rfl)
        have hb13_ := hall 13 (by kernel_rfl)
        have hb14_ := hall 14 (by kernel_rfl)
        subst ha
        obtain rfl := Q_X4_ hb4_
        obtain rfl := Q_X8_ hb8_
        simp only [putSel, hb1_, hb2_, hb4_, hb5_, hb6_, hb8_, hb9_, hb11_, hb12_, hb13_, hb14_, if_true, Act.put, List.setIfInBounds_toArray, List.set_cons_zero, List.set_cons_succ]
        have BK102001 := Aside0.mk Q_BK102001
        clear Q_BK102001
        clear Q_BK102002
        have HB := Aside0.mk Q_HB
        clear Q_HB
        have HO102005 := Aside0.mk (Q_HO102005 hb2_)
        clear Q_HO102005
        have HA_HO102005 := Aside0.mk (Q_HA_HO102005 hb2_)
        clear Q_HA_HO102005
        have HO102009 := Aside0.mk (Q_HO102009 hb6_)
        clear Q_HO102009
        have HA_HO102009 := Aside0.mk (Q_HA_HO102009 hb6_)
        clear Q_HA_HO102009
        have BK102002 := Aside0.mk (Q_BK102002_e14 hb14_)
        clear Q_BK102002_e14
        clear hall hb1_ hb2_ hb4_ hb5_ hb6_ hb8_ hb9_ hb11_ hb12_ hb13_ hb14_
        obtain ⟨co23, eo23⟩ := HA_HO102005.out
        clear HA_HO102005
        subst eo23
        obtain ⟨co24, eo24⟩ := HA_HO102009.out
        clear HA_HO102009
        subst eo24
        try go_wp2
        refine bodyPost_ret (results_cell_row rfl _ _ gb102002 54 #[.int .i64 1, .int .i64 a0_1, .int .i64 (rd y102003 (ji2)), .int .i64 (rd y102007 (ji2)), .int .i64 (wrap64 (Int.tdiv a0_0 360))] (0, 0) _ rfl (by (with_reducible repeat (first | refine blk_drewN ?_ _ | refine blk_drew ?_ | refine blk_alloc ?_ _)); exact BK102002.out) Try.underlying54 rfl (by kernel_rfl)) rfl ?_
        exact ⟨by first | rfl | (simp [errW_none, errW_some] <;> rfl) | (simp only [← hji2]; first | rfl | (simp [errW_none, errW_some] <;> rfl)) | (simp [*, errW_none, errW_some] <;> rfl), by repeat (first | (with_reducible first | exact HB.out | apply below_alloc | apply pw_below_drewN | apply below_drew1 | refine below_set ?_ GE102001.out | refine below_set ?_ GE102002.out) | exact HB.out)⟩
      · rw [if_neg c5] at H
        exact absurd H (by simp)
    · rw [if_neg c4] at H
      exact absurd H (by simp)
  · rw [if_neg c3] at H
    exact absurd H (by simp)

end Go.Proofs.Yteopooljohdoiaa.Px

namespace Go.Proofs.Yteopooljohdoiaa.Px
open Go.RowKit Go.Proofs.YteopooljohdoiaaW.PrintWords Go.Proofs.YteopooljohdoiaaW.PrintLast Go.Proofs.YteopooljohdoiaaW.PrintMore
attribute [local go_sem] max2_int min2_int max_two min_two max_three min_three max_four min_four   -- for this text's walks alone
set_option linter.unusedVariables false
set_option linter.unusedSimpArgs false

attribute [local go_sem high] eqA54
/-! ### guidevanelaw09_DamTerms: function 6 -/
def guidevanelaw09_DamTerms.f (a0_0 : Int) (a0_1 : Int) (a0_2 : Int) : Option (Bool) := (guidevanelaw09_awake.f).bind fun t18002 => (if t18002 = true then ((dam_TermsOf.f a0_0 a0_1 a0_2).bind fun bt18003 => ((guidevaneref09_ReadingErr.f a0_0 a0_1 a0_2).bind fun t18010 => ((dam_CheckReading.f a0_0 a0_1 a0_2).bind fun t18011 => (if t18011 = t18010 then (if t18010 = 0 then (if bt18003.2.2.2.2.2 = 0 then ((guidevaneref09_Terms.f a0_0 a0_1 a0_2).bind fun bt18012 => (some (bt18003.1 == bt18012.1 && (bt18003.2.1 == bt18012.2.1 && (bt18003.2.2.1 == bt18012.2.2.1 && (bt18003.2.2.2.1 == bt18012.2.2.2.1 && (bt18003.2.2.2.2.1 == bt18012.2.2.2.2))))))) else (some false)) else (if bt18003.2.2.2.2.2 = t18010 then (some (bt18003.1 == 0 && (bt18003.2.1 == 0 && (bt18003.2.2.1 == 0 && (bt18003.2.2.2.1 == 0 && (bt18003.2.2.2.2.1 == 0)))))) else (some false))) else (some false))))) else (some false))
def guidevanelaw09_DamTerms.T9 : Bool × List (List Nat × List Nat) := (true, [([], []), ([0], [0]), ([1], [1]), ([2], [2]), ([2], [2]), ([4, 2, 2], [2, 4]), ([3, 5, 2], [2, 3, 5]), ([2, 6], [2, 6]), ([7, 5, 0, 1, 2, 3, 4, 5, 6, 7], [7])])
def guidevanelaw09_DamTerms.B9 : List Nat := [0, 1, 3, 7, 7, 23, 63, 127, 255]
theorem guidevanelaw09_DamTerms.tab9 : rtab .any (opsOf Try.f6 9) = guidevanelaw09_DamTerms.T9 := by kernel_rfl
theorem guidevanelaw09_DamTerms.bits9 : waitsOk guidevanelaw09_DamTerms.T9.2 guidevanelaw09_DamTerms.B9 = true := by kernel_rfl
set_option maxHeartbeats 8000000 in
set_option maxRecDepth 100000 in
theorem guidevanelaw09_DamTerms.calls (a0_0 : Int) (a0_1 : Int) (a0_2 : Int) (r : Bool) (w : World) (h : guidevanelaw09_DamTerms.f a0_0 a0_1 a0_2 = some r) :
    Calls Try.prog 6 #[.agg #[.int .i64 a0_0, .int .i64 a0_1, .int .i64 a0_2]] w fun e w' => e = .returned (.bool r) ∧ Below w.heap.size w w' := by
  have hu53 := Try.underlying53
  have hu54 := Try.underlying54
  have HB := Aside0.mk (Below.refl w.heap.size w)
  have H : ((guidevanelaw09_awake.f).bind fun t18002 => (if t18002 = true then ((dam_TermsOf.f a0_0 a0_1 a0_2).bind fun bt18003 => ((guidevaneref09_ReadingErr.f a0_0 a0_1 a0_2).bind fun t18010 => ((dam_CheckReading.f a0_0 a0_1 a0_2).bind fun t18011 => (if t18011 = t18010 then (if t18010 = 0 then (if bt18003.2.2.2.2.2 = 0 then ((guidevaneref09_Terms.f a0_0 a0_1 a0_2).bind fun bt18012 => (some (bt18003.1 == bt18012.1 && (bt18003.2.1 == bt18012.2.1 && (bt18003.2.2.1 == bt18012.2.2.1 && (bt18003.2.2.2.1 == bt18012.2.2.2.1 && (bt18003.2.2.2.2.1 == bt18012.2.2.2.2))))))) else (some false)) else (if bt18003.2.2.2.2.2 = t18010 then (some (bt18003.1 == 0 && (bt18003.2.1 == 0 && (bt18003.2.2.1 == 0 && (bt18003.2.2.2.1 == 0 && (bt18003.2.2.2.2.1 == 0)))))) else (some false))) else (some false))))) else (some false))) = some r := h
  clear h
  replace H := Option.bind_eq_some_iff.mp H
  obtain ⟨t18002, A20, H⟩ := H
  replace H : (if t18002 = true then ((dam_TermsOf.f a0_0 a0_1 a0_2).bind fun bt18003 => ((guidevaneref09_ReadingErr.f a0_0 a0_1 a0_2).bind fun t18010 => ((dam_CheckReading.f a0_0 a0_1 a0_2).bind fun t18011 => (if t18011 = t18010 then (if t18010 = 0 then (if bt18003.2.2.2.2.2 = 0 then ((guidevaneref09_Terms.f a0_0 a0_1 a0_2).bind fun bt18012 => (some (bt18003.1 == bt18012.1 && (bt18003.2.1 == bt18012.2.1 && (bt18003.2.2.1 == bt18012.2.2.1 && (bt18003.2.2.2.1 == bt18012.2.2.2.1 && (bt18003.2.2.2.2.1 == bt18012.2.2.2.2))))))) else (some false)) else (if bt18003.2.2.2.2.2 = t18010 then (some (bt18003.1 == 0 && (bt18003.2.1 == 0 && (bt18003.2.2.1 == 0 && (bt18003.2.2.2.1 == 0 && (bt18003.2.2.2.2.1 == 0)))))) else (some false))) else (some false))))) else (some false)) = some r := H
  have A2 := Aside0.mk A20
  clear A20
  by_cases c3 : t18002 = true
  · subst c3
    have H1 : ((dam_TermsOf.f a0_0 a0_1 a0_2).bind fun bt18003 => ((guidevaneref09_ReadingErr.f a0_0 a0_1 a0_2).bind fun t18010 => ((dam_CheckReading.f a0_0 a0_1 a0_2).bind fun t18011 => (if t18011 = t18010 then (if t18010 = 0 then (if bt18003.2.2.2.2.2 = 0 then ((guidevaneref09_Terms.f a0_0 a0_1 a0_2).bind fun bt18012 => (some (bt18003.1 == bt18012.1 && (bt18003.2.1 == bt18012.2.1 && (bt18003.2.2.1 == bt18012.2.2.1 && (bt18003.2.2.2.1 == bt18012.2.2.2.1 && (bt18003.2.2.2.2.1 == bt18012.2.2.2.2))))))) else (some false)) else (if bt18003.2.2.2.2.2 = t18010 then (some (bt18003.1 == 0 && (bt18003.2.1 == 0 && (bt18003.2.2.1 == 0 && (bt18003.2.2.2.1 == 0 && (bt18003.2.2.2.2.1 == 0)))))) else (some false))) else (some false))))) = some r := by rw [if_pos rfl] at H; exact H
    clear H
    have H := H1
    clear H1
    replace H := Option.bind_eq_some_iff.mp H
    obtain ⟨⟨t18003, t18004, t18005, t18006, t18007, t18008⟩, A40, H⟩ := H
    replace H : ((guidevaneref09_ReadingErr.f a0_0 a0_1 a0_2).bind fun t18010 => ((dam_CheckReading.f a0_0 a0_1 a0_2).bind fun t18011 => (if t18011 = t18010 then (if t18010 = 0 then (if t18008 = 0 then ((guidevaneref09_Terms.f a0_0 a0_1 a0_2).bind fun bt18012 => (some (t18003 == bt18012.1 && (t18004 == bt18012.2.1 && (t18005 == bt18012.2.2.1 && (t18006 == bt18012.2.2.2.1 && (t18007 == bt18012.2.2.2.2))))))) else (some false)) else (if t18008 = t18010 then (some (t18003 == 0 && (t18004 == 0 && (t18005 == 0 && (t18006 == 0 && (t18007 == 0)))))) else (some false))) else (some false)))) = some r := H
    have A4 := Aside0.mk A40
    clear A40
    replace H := Option.bind_eq_some_iff.mp H
    obtain ⟨t18010, A50, H⟩ := H
    replace H : ((dam_CheckReading.f a0_0 a0_1 a0_2).bind fun t18011 => (if t18011 = t18010 then (if t18010 = 0 then (if t18008 = 0 then ((guidevaneref09_Terms.f a0_0 a0_1 a0_2).bind fun bt18012 => (some (t18003 == bt18012.1 && (t18004 == bt18012.2.1 && (t18005 == bt18012.2.2.1 && (t18006 == bt18012.2.2.2.1 && (t18007 == bt18012.2.2.2.2))))))) else (some false)) else (if t18008 = t18010 then (some (t18003 == 0 && (t18004 == 0 && (t18005 == 0 && (t18006 == 0 && (t18007 == 0)))))) else (some false))) else (some false))) = some r := H
    have A5 := Aside0.mk A50
    clear A50
    replace H := Option.bind_eq_some_iff.mp H
    obtain ⟨t18011, A60, H⟩ := H
    replace H : (if t18011 = t18010 then (if t18010 = 0 then (if t18008 = 0 then ((guidevaneref09_Terms.f a0_0 a0_1 a0_2).bind fun bt18012 => (some (t18003 == bt18012.1 && (t18004 == bt18012.2.1 && (t18005 == bt18012.2.2.1 && (t18006 == bt18012.2.2.2.1 && (t18007 == bt18012.2.2.2.2))))))) else (some false)) else (if t18008 = t18010 then (some (t18003 == 0 && (t18004 == 0 && (t18005 == 0 && (t18006 == 0 && (t18007 == 0)))))) else (some false))) else (some false)) = some r := H
    have A6 := Aside0.mk A60
    clear A60
    by_cases c7 : t18011 = t18010
    · rw [if_pos c7] at H
      have c7b0 : (t18011 == t18010) = true := beq_iff_eq.mpr c7
      have c7b1 : (t18011 != t18010) = false := bne_eq_false_iff_eq.mpr c7
      clear c7
      by_cases c8 : t18010 = 0
      · rw [if_pos c8] at H
        have c8b0 : (t18010 == 0) = true := beq_iff_eq.mpr c8
        have c8b1 : (t18010 != 0) = false := bne_eq_false_iff_eq.mpr c8
        clear c8
        by_cases c9 : t18008 = 0
        · rw [if_pos c9] at H
          have c9b0 : (t18008 == 0) = true := beq_iff_eq.mpr c9
          have c9b1 : (t18008 != 0) = false := bne_eq_false_iff_eq.mpr c9
          clear c9
          replace H := Option.bind_eq_some_iff.mp H
          obtain ⟨⟨t18012, t18013, t18014, t18015, t18016⟩, A100, H⟩ := H
          replace H : (some (t18003 == t18012 && (t18004 == t18013 && (t18005 == t18014 && (t18006 == t18015 && (t18007 == t18016)))))) = some r := H
          have A10 := Aside0.mk A100
          clear A100
          obtain rfl := Option.some.inj H
          go_enter Try.func6, Try.ntmps6
          try go_wp2_with (first | ((with_reducible refine gate_dst (N := 1) rfl ?_); refine box_event ?hg (N := 1) ?hd (cs := #[.int .i64 a0_0, .int .i64 a0_1, .int .i64 a0_2]) (t := 53) ?hr ?_; (case hd => rfl); (case hg => rfl); (case hr => first | (go_simp; done) | (go_simp; rfl)); intro gb18001 hg w11 hbox hb; have n0_ := Aside0.mk (below_step (by repeat (first | (with_reducible first | exact HB.out | apply below_alloc | apply pw_below_drewN | apply below_drew1) | exact HB.out)) hb); have n1_ := Aside0.mk (hbox); have n2_ := Aside0.mk ((by rw [hg]; exact (below_size (by repeat (first | (with_reducible first | exact HB.out | apply below_alloc | apply pw_below_drewN | apply below_drew1) | exact HB.out))) : w.heap.size ≤ gb18001)); have n3_ := Aside0.mk ((by rw [hg]; exact (below_size (by repeat (first | (with_reducible first | exact HB.out | apply below_alloc | apply pw_below_drewN | apply below_drew1) | exact HB.out))) : w.heap.size ≤ gb18001)); clear HB; have HB := n0_; have BK18001 := n1_; have GW18001 := n2_; have GE18001 := n3_; clear n0_ n1_ n2_ n3_; clear hb hbox hg) | ((with_reducible refine gate_callee (f := 10) rfl ?_); refine goesL_ (some 6) rfl rfl Try.func10 (by kernel_rfl) rfl #[] rfl (by (try simp only [List.map_toArray, List.map_cons, List.map_nil]); first | done | rfl | (simp only [List.length_drop, List.length_take]; rfl)) ?_; (with_reducible refine (guidevanelaw09_awake.calls  true _ A2.out).mono ?_); rintro e w12 ⟨rfl, hb⟩; refine ⟨_, rfl, ?_⟩; have n0_ := Aside0.mk (blk_below (g := gb18001) (o := .cells #[.int .i64 a0_0, .int .i64 a0_1, .int .i64 a0_2] 53 (0, 0)) (by (with_reducible repeat (first | refine blk_drewN ?_ _ | refine blk_drew ?_ | refine blk_alloc ?_ _)); exact BK18001.out) hb); have n1_ := Aside0.mk (below_step (by repeat (first | (with_reducible first | exact HB.out | apply below_alloc | apply pw_below_drewN | apply below_drew1 | refine below_set ?_ GE18001.out) | exact HB.out)) hb); clear BK18001; clear HB; have BK18001 := n0_; have HB := n1_; clear n0_ n1_; (try clear hb); (try clear hb2); (try clear hk); (try clear hi); have hcz13_0 : w12.cell? ⟨gb18001, 0, none⟩ = some (.int .i64 a0_0) := (blk_cell BK18001.out 0).trans rfl; have hcz13_1 : w12.cell? ⟨gb18001, 1, none⟩ = some (.int .i64 a0_1) := (blk_cell BK18001.out 1).trans rfl; have hcz13_2 : w12.cell? ⟨gb18001, 2, none⟩ = some (.int .i64 a0_2) := (blk_cell BK18001.out 2).trans rfl; have hfz13_0 := blk_frozen BK18001.out 0; have hfz13_1 := blk_frozen BK18001.out 1; have hfz13_2 := blk_frozen BK18001.out 2) | ((with_reducible refine gate_callee (f := 31) rfl ?_); refine goesL_ (some 10) rfl rfl Try.func31 (by kernel_rfl) rfl #[.agg #[.int .i64 a0_0, .int .i64 a0_1, .int .i64 a0_2]] rfl (by (try simp only [List.map_toArray, List.map_cons, List.map_nil]); first | done | rfl | (simp only [List.length_drop, List.length_take]; rfl)) ?_; (with_reducible refine (dam_TermsOf.calls a0_0 a0_1 a0_2 t18003 t18004 t18005 t18006 t18007 t18008 _ A4.out).mono ?_); rintro e w14 ⟨rfl, hb⟩; refine ⟨_, rfl, ?_⟩; have n0_ := Aside0.mk (blk_below (g := gb18001) (o := .cells #[.int .i64 a0_0, .int .i64 a0_1, .int .i64 a0_2] 53 (0, 0)) (by (with_reducible repeat (first | refine blk_drewN ?_ _ | refine blk_drew ?_ | refine blk_alloc ?_ _)); exact BK18001.out) hb); have n1_ := Aside0.mk (below_step (by repeat (first | (with_reducible first | exact HB.out | apply below_alloc | apply pw_below_drewN | apply below_drew1 | refine below_set ?_ GE18001.out) | exact HB.out)) hb); clear BK18001; clear HB; have BK18001 := n0_; have HB := n1_; clear n0_ n1_; (try clear hb); (try clear hb2); (try clear hk); (try clear hi)) | ((with_reducible refine gate_dst (N := 3) rfl ?_); refine box_event ?hg (N := 3) ?hd (cs := #[.int .i64 0, .int .i64 0, .int .i64 0, .int .i64 0, .int .i64 0]) (t := 54) ?hr ?_; (case hd => rfl); (case hg => rfl); (case hr => first | (go_simp; done) | (go_simp; rfl)); intro gb18009 hg w15 hbox hb; have n0_ := Aside0.mk (blk_below (g := gb18001) (o := .cells #[.int .i64 a0_0, .int .i64 a0_1, .int .i64 a0_2] 53 (0, 0)) (by (with_reducible repeat (first | refine blk_drewN ?_ _ | refine blk_drew ?_ | refine blk_alloc ?_ _)); exact BK18001.out) hb); have n1_ := Aside0.mk (below_step (by repeat (first | (with_reducible first | exact HB.out | apply below_alloc | apply pw_below_drewN | apply below_drew1 | refine below_set ?_ GE18001.out) | exact HB.out)) hb); have n2_ := Aside0.mk (hbox); have n3_ := Aside0.mk ((by rw [hg]; exact (below_size (by repeat (first | (with_reducible first | exact HB.out | apply below_alloc | apply pw_below_drewN | apply below_drew1 | refine below_set ?_ GE18001.out) | exact HB.out))) : w.heap.size ≤ gb18009)); have n4_ := Aside0.mk ((by rw [hg]; exact (below_size (by repeat (first | (with_reducible first | exact HB.out | apply below_alloc | apply pw_below_drewN | apply below_drew1 | refine below_set ?_ GE18001.out) | exact HB.out))) : w.heap.size ≤ gb18009)); have n5_ := Aside0.mk ((by rw [hg]; exact Nat.ne_of_lt (blk_lt (g := gb18001) (o := .cells #[.int .i64 a0_0, .int .i64 a0_1, .int .i64 a0_2] 53 (0, 0)) (by (with_reducible repeat (first | refine blk_drewN ?_ _ | refine blk_drew ?_ | refine blk_alloc ?_ _)); exact BK18001.out)) : gb18001 ≠ gb18009)); have n6_ := Aside0.mk ((by rw [hg]; exact Nat.ne_of_gt (blk_lt (g := gb18001) (o := .cells #[.int .i64 a0_0, .int .i64 a0_1, .int .i64 a0_2] 53 (0, 0)) (by (with_reducible repeat (first | refine blk_drewN ?_ _ | refine blk_drew ?_ | refine blk_alloc ?_ _)); exact BK18001.out)) : gb18009 ≠ gb18001)); clear BK18001; clear HB; have BK18001 := n0_; have HB := n1_; have BK18009 := n2_; have GW18009 := n3_; have GE18009 := n4_; have NB18001_18009 := n5_; have NB18009_18001 := n6_; clear n0_ n1_ n2_ n3_ n4_ n5_ n6_; clear hb hbox hg; have hnb16 := NB18009_18001.out; have hnc16 := NB18001_18009.out; have hcz17_0 : w15.cell? ⟨gb18009, 0, none⟩ = some (.int .i64 0) := (blk_cell BK18009.out 0).trans rfl; have hcz17_1 : w15.cell? ⟨gb18009, 1, none⟩ = some (.int .i64 0) := (blk_cell BK18009.out 1).trans rfl; have hcz17_2 : w15.cell? ⟨gb18009, 2, none⟩ = some (.int .i64 0) := (blk_cell BK18009.out 2).trans rfl; have hcz17_3 : w15.cell? ⟨gb18009, 3, none⟩ = some (.int .i64 0) := (blk_cell BK18009.out 3).trans rfl; have hcz17_4 : w15.cell? ⟨gb18009, 4, none⟩ = some (.int .i64 0) := (blk_cell BK18009.out 4).trans rfl; have hfz17_0 := blk_frozen BK18009.out 0; have hfz17_1 := blk_frozen BK18009.out 1; have hfz17_2 := blk_frozen BK18009.out 2; have hfz17_3 := blk_frozen BK18009.out 3; have hfz17_4 := blk_frozen BK18009.out 4; have hcz18_0 : w15.cell? ⟨gb18001, 0, none⟩ = some (.int .i64 a0_0) := (blk_cell BK18001.out 0).trans rfl; have hcz18_1 : w15.cell? ⟨gb18001, 1, none⟩ = some (.int .i64 a0_1) := (blk_cell BK18001.out 1).trans rfl; have hcz18_2 : w15.cell? ⟨gb18001, 2, none⟩ = some (.int .i64 a0_2) := (blk_cell BK18001.out 2).trans rfl; have hfz18_0 := blk_frozen BK18001.out 0; have hfz18_1 := blk_frozen BK18001.out 1; have hfz18_2 := blk_frozen BK18001.out 2) | ((with_reducible refine gate_callee (f := 32) rfl ?_); refine goesL_ (some 14) rfl rfl Try.func32 (by kernel_rfl) rfl #[.agg #[.int .i64 a0_0, .int .i64 a0_1, .int .i64 a0_2]] rfl (by (try simp only [List.map_toArray, List.map_cons, List.map_nil]); first | done | rfl | (simp only [List.length_drop, List.length_take]; rfl)) ?_; (with_reducible refine (guidevaneref09_ReadingErr.calls a0_0 a0_1 a0_2 t18010 _ A5.out).mono ?_); rintro e w19 ⟨rfl, hb⟩; refine ⟨_, rfl, ?_⟩; have n0_ := Aside0.mk (blk_below (g := gb18001) (o := .cells #[.int .i64 a0_0, .int .i64 a0_1, .int .i64 a0_2] 53 (0, 0)) (by (with_reducible repeat (first | refine blk_drewN ?_ _ | refine blk_drew ?_ | refine blk_alloc ?_ _)); refine blk_far ?_ NB18001_18009.out _; (with_reducible repeat (first | refine blk_drewN ?_ _ | refine blk_drew ?_ | refine blk_alloc ?_ _)); refine blk_far ?_ NB18001_18009.out _; (with_reducible repeat (first | refine blk_drewN ?_ _ | refine blk_drew ?_ | refine blk_alloc ?_ _)); refine blk_far ?_ NB18001_18009.out _; (with_reducible repeat (first | refine blk_drewN ?_ _ | refine blk_drew ?_ | refine blk_alloc ?_ _)); refine blk_far ?_ NB18001_18009.out _; (with_reducible repeat (first | refine blk_drewN ?_ _ | refine blk_drew ?_ | refine blk_alloc ?_ _)); refine blk_far ?_ NB18001_18009.out _; (with_reducible repeat (first | refine blk_drewN ?_ _ | refine blk_drew ?_ | refine blk_alloc ?_ _)); exact BK18001.out) hb); have n1_ := Aside0.mk (blk_below (g := gb18009) (o := .cells #[.int .i64 t18003, .int .i64 t18004, .int .i64 t18005, .int .i64 t18006, .int .i64 t18007] 54 (0, 0)) (by (with_reducible repeat (first | refine blk_drewN ?_ _ | refine blk_drew ?_ | refine blk_alloc ?_ _)); refine blk_put (cs := #[.int .i64 t18003, .int .i64 t18004, .int .i64 t18005, .int .i64 t18006, .int .i64 0]) ?_ 4 _ rfl; (with_reducible repeat (first | refine blk_drewN ?_ _ | refine blk_drew ?_ | refine blk_alloc ?_ _)); refine blk_put (cs := #[.int .i64 t18003, .int .i64 t18004, .int .i64 t18005, .int .i64 0, .int .i64 0]) ?_ 3 _ rfl; (with_reducible repeat (first | refine blk_drewN ?_ _ | refine blk_drew ?_ | refine blk_alloc ?_ _)); refine blk_put (cs := #[.int .i64 t18003, .int .i64 t18004, .int .i64 0, .int .i64 0, .int .i64 0]) ?_ 2 _ rfl; (with_reducible repeat (first | refine blk_drewN ?_ _ | refine blk_drew ?_ | refine blk_alloc ?_ _)); refine blk_put (cs := #[.int .i64 t18003, .int .i64 0, .int .i64 0, .int .i64 0, .int .i64 0]) ?_ 1 _ rfl; (with_reducible repeat (first | refine blk_drewN ?_ _ | refine blk_drew ?_ | refine blk_alloc ?_ _)); refine blk_put (cs := #[.int .i64 0, .int .i64 0, .int .i64 0, .int .i64 0, .int .i64 0]) ?_ 0 _ rfl; (with_reducible repeat (first | refine blk_drewN ?_ _ | refine blk_drew ?_ | refine blk_alloc ?_ _)); exact BK18009.out) hb); have n2_ := Aside0.mk (below_step (by repeat (first | (with_reducible first | exact HB.out | apply below_alloc | apply pw_below_drewN | apply below_drew1 | refine below_set ?_ GE18001.out | refine below_set ?_ GE18009.out) | exact HB.out)) hb); clear BK18001; clear BK18009; clear HB; have BK18001 := n0_; have BK18009 := n1_; have HB := n2_; clear n0_ n1_ n2_; (try clear hb); (try clear hb2); (try clear hk); (try clear hi); have hcz20_0 : w19.cell? ⟨gb18001, 0, none⟩ = some (.int .i64 a0_0) := (blk_cell BK18001.out 0).trans rfl; have hcz20_1 : w19.cell? ⟨gb18001, 1, none⟩ = some (.int .i64 a0_1) := (blk_cell BK18001.out 1).trans rfl; have hcz20_2 : w19.cell? ⟨gb18001, 2, none⟩ = some (.int .i64 a0_2) := (blk_cell BK18001.out 2).trans rfl; have hfz20_0 := blk_frozen BK18001.out 0; have hfz20_1 := blk_frozen BK18001.out 1; have hfz20_2 := blk_frozen BK18001.out 2) | ((with_reducible refine gate_callee (f := 33) rfl ?_); refine goesL_ (some 16) rfl rfl Try.func33 (by kernel_rfl) rfl #[.agg #[.int .i64 a0_0, .int .i64 a0_1, .int .i64 a0_2]] rfl (by (try simp only [List.map_toArray, List.map_cons, List.map_nil]); first | done | rfl | (simp only [List.length_drop, List.length_take]; rfl)) ?_; (with_reducible refine (dam_CheckReading.calls a0_0 a0_1 a0_2 t18011 _ A6.out).mono ?_); rintro e w21 ⟨rfl, hb⟩; refine ⟨_, rfl, ?_⟩; have n0_ := Aside0.mk (blk_below (g := gb18001) (o := .cells #[.int .i64 a0_0, .int .i64 a0_1, .int .i64 a0_2] 53 (0, 0)) (by (with_reducible repeat (first | refine blk_drewN ?_ _ | refine blk_drew ?_ | refine blk_alloc ?_ _)); exact BK18001.out) hb); have n1_ := Aside0.mk (blk_below (g := gb18009) (o := .cells #[.int .i64 t18003, .int .i64 t18004, .int .i64 t18005, .int .i64 t18006, .int .i64 t18007] 54 (0, 0)) (by (with_reducible repeat (first | refine blk_drewN ?_ _ | refine blk_drew ?_ | refine blk_alloc ?_ _)); exact BK18009.out) hb); have n2_ := Aside0.mk (below_step (by repeat (first | (with_reducible first | exact HB.out | apply below_alloc | apply pw_below_drewN | apply below_drew1 | refine below_set ?_ GE18001.out | refine below_set ?_ GE18009.out) | exact HB.out)) hb); clear BK18001; clear BK18009; clear HB; have BK18001 := n0_; have BK18009 := n1_; have HB := n2_; clear n0_ n1_ n2_; (try clear hb); (try clear hb2); (try clear hk); (try clear hi)))
          have n0_ := Aside0.mk (blk_drew BK18001.out)
          have n1_ := Aside0.mk (blk_drew BK18009.out)
          have n2_ := Aside0.mk (below_drew1 HB.out)
          clear BK18001
          clear BK18009
          clear HB
          have BK18001 := n0_
          have BK18009 := n1_
          have HB := n2_
          clear n0_ n1_ n2_
          refine start_ (n := 9) (S := fun w' => w'.cell? ⟨gb18009, 0, none⟩ = some (.int .i64 t18003) ∧ w'.cell? ⟨gb18009, 1, none⟩ = some (.int .i64 t18004) ∧ w'.cell? ⟨gb18009, 2, none⟩ = some (.int .i64 t18005) ∧ w'.cell? ⟨gb18009, 3, none⟩ = some (.int .i64 t18006) ∧ w'.cell? ⟨gb18009, 4, none⟩ = some (.int .i64 t18007) ∧ w'.cell? ⟨gb18001, 0, none⟩ = some (.int .i64 a0_0) ∧ w'.cell? ⟨gb18001, 1, none⟩ = some (.int .i64 a0_1) ∧ w'.cell? ⟨gb18001, 2, none⟩ = some (.int .i64 a0_2)) (ds := []) #[false, false, false, false, false, false, false, false, false] (by kernel_rfl) rfl rfl ⟨(blk_cell BK18009.out 0).trans rfl, (blk_cell BK18009.out 1).trans rfl, (blk_cell BK18009.out 2).trans rfl, (blk_cell BK18009.out 3).trans rfl, (blk_cell BK18009.out 4).trans rfl, (blk_cell BK18001.out 0).trans rfl, (blk_cell BK18001.out 1).trans rfl, (blk_cell BK18001.out 2).trans rfl⟩ (fun hHeld => ?_); refine with_tabW guidevanelaw09_DamTerms.tab9 guidevanelaw09_DamTerms.bits9 (fun HT_ HW_ => ?_)
          generalize w21.drew = w22 at BK18001 BK18009 HB hHeld ⊢
          refine pure_ (i := 0) (N := some 29) (v := ?_) (a' := ?_) #[true, false, false, false, false, false, false, false, false] rfl rfl (any_of HT_.out (by kernel_rfl)) (fun _ _ _ h => h) (Or.inl ⟨by rfl, ?_⟩) ?_ ?_
          rotate_left
          · intro w'
            go_simp
            with_reducible rfl
          rotate_left
          · simp only [Act.put, List.setIfInBounds_toArray, List.set_cons_zero, List.set_cons_succ, i64_w, i32_w]
            rfl
          refine pure_ (i := 1) (N := some 30) (v := ?_) (a' := ?_) #[true, true, false, false, false, false, false, false, false] rfl rfl (any_of HT_.out (by kernel_rfl)) (fun _ _ _ h => h) (Or.inl ⟨by rfl, ?_⟩) ?_ ?_
          rotate_left
          · intro w'
            go_simp
            with_reducible rfl
          rotate_left
          · simp only [Act.put, List.setIfInBounds_toArray, List.set_cons_zero, List.set_cons_succ, i64_w, i32_w]
            rfl
          refine pure_ (i := 2) (N := some 31) (v := ?_) (a' := ?_) #[true, true, true, false, false, false, false, false, false] rfl rfl (any_of HT_.out (by kernel_rfl)) (fun _ _ _ h => h) (Or.inl ⟨by rfl, ?_⟩) ?_ ?_
          rotate_left
          · intro w'
            go_simp
            with_reducible rfl
          rotate_left
          · simp only [Act.put, List.setIfInBounds_toArray, List.set_cons_zero, List.set_cons_succ, i64_w, i32_w]
            rfl
          refine take_ (i := 3) (N := some 32) (v := ?_) (a' := ?_) #[true, true, true, true, false, false, false, false, false] rfl rfl (take_ofW HT_.out HW_.out (by kernel_rfl)) (fun _ _ _ h => h) (Or.inl ⟨by rfl, ?_⟩) hHeld ?_ ?_
          rotate_left
          · rintro w' ⟨s0, s1, s2, s3, s4, s5, s6, s7⟩
            go_simp
            with_reducible rfl
          rotate_left
          · simp only [Act.put, List.setIfInBounds_toArray, List.set_cons_zero, List.set_cons_succ, i64_w, i32_w]
            rfl
          refine take_ (i := 4) (N := some 33) (v := ?_) (a' := ?_) #[true, true, true, true, true, false, false, false, false] rfl rfl (take_ofW HT_.out HW_.out (by kernel_rfl)) (fun _ _ _ h => h) (Or.inl ⟨by rfl, ?_⟩) hHeld ?_ ?_
          rotate_left
          · rintro w' ⟨s0, s1, s2, s3, s4, s5, s6, s7⟩
            go_simp
            with_reducible rfl
          rotate_left
          · simp only [Act.put, List.setIfInBounds_toArray, List.set_cons_zero, List.set_cons_succ, i64_w, i32_w]
            rfl
          refine one_ (i := 5) (N := some 34) #[true, true, true, true, true, true, false, false, false] rfl rfl (one_of HT_.out (by kernel_rfl)) (by decide) (fun K hK => ?_)
          refine goes_ Try.func34 (by kernel_rfl) rfl #[.agg #[.int .i64 a0_0, .int .i64 a0_1, .int .i64 a0_2]] (by rfl) rfl rfl (by (try simp only [List.map_toArray, List.map_cons, List.map_nil]); first | done | rfl | (simp only [List.length_drop, List.length_take]; rfl)) ?_
          with_reducible refine (guidevaneref09_Terms.calls a0_0 a0_1 a0_2 t18012 t18013 t18014 t18015 t18016 _ A10.out).mono ?_
          rintro e w23 ⟨rfl, hb⟩
          refine ⟨_, rfl, ?_⟩
          have n0_ := Aside0.mk (blk_below (g := gb18001) (o := .cells #[.int .i64 a0_0, .int .i64 a0_1, .int .i64 a0_2] 53 (0, 0)) (by (with_reducible repeat (first | refine blk_drewN ?_ _ | refine blk_drew ?_ | refine blk_alloc ?_ _)); exact BK18001.out) hb)
          have n1_ := Aside0.mk (blk_below (g := gb18009) (o := .cells #[.int .i64 t18003, .int .i64 t18004, .int .i64 t18005, .int .i64 t18006, .int .i64 t18007] 54 (0, 0)) (by (with_reducible repeat (first | refine blk_drewN ?_ _ | refine blk_drew ?_ | refine blk_alloc ?_ _)); exact BK18009.out) hb)
          have n2_ := Aside0.mk (below_step (by repeat (first | (with_reducible first | exact HB.out | apply below_alloc | apply pw_below_drewN | apply below_drew1 | refine below_set ?_ GE18001.out | refine below_set ?_ GE18009.out) | exact HB.out)) hb)
          clear BK18001
          clear BK18009
          clear HB
          have BK18001 := n0_
          have BK18009 := n1_
          have HB := n2_
          clear n0_ n1_ n2_
          (try clear hb)
          (try clear hb2)
          (try clear hk)
          (try clear hi)
          refine hK.out _ _ ⟨(blk_cell BK18009.out 0).trans rfl, (blk_cell BK18009.out 1).trans rfl, (blk_cell BK18009.out 2).trans rfl, (blk_cell BK18009.out 3).trans rfl, (blk_cell BK18009.out 4).trans rfl, (blk_cell BK18001.out 0).trans rfl, (blk_cell BK18001.out 1).trans rfl, (blk_cell BK18001.out 2).trans rfl⟩ (fun hHeld => ?_)
          clear hK K
          refine norm_ (a' := ?_) ?_ ?_
          rotate_left
          · show Act.put _ (some 34) _ = _
            simp only [Act.put, List.setIfInBounds_toArray, List.set_cons_zero, List.set_cons_succ, i64_w, i32_w]
            rfl
          refine pure_ (i := 6) (N := some 35) (v := ?_) (a' := ?_) #[true, true, true, true, true, true, true, false, false] rfl rfl (any_of HT_.out (by kernel_rfl)) (fun _ _ _ h => h) (Or.inl ⟨by rfl, ?_⟩) ?_ ?_
          rotate_left
          · intro w'
            go_simp
            with_reducible rfl
          rotate_left
          · simp only [Act.put, List.setIfInBounds_toArray, List.set_cons_zero, List.set_cons_succ, i64_w, i32_w]
            rfl
          refine pure_ (i := 7) (N := some 36) (v := ?_) (a' := ?_) #[true, true, true, true, true, true, true, true, false] rfl rfl (any_of HT_.out (by kernel_rfl)) (fun _ _ _ h => h) (Or.inl ⟨by rfl, ?_⟩) ?_ ?_
          rotate_left
          · intro w'
            go_simp
            with_reducible rfl
          rotate_left
          · simp only [Act.put, List.setIfInBounds_toArray, List.set_cons_zero, List.set_cons_succ, i64_w, i32_w]
            rfl
          refine pure_ (i := 8) (N := some 2) (v := ?_) (a' := ?_) #[true, true, true, true, true, true, true, true, true] rfl rfl (any_of HT_.out (by kernel_rfl)) (fun _ _ _ h => h) (Or.inl ⟨by rfl, ?_⟩) ?_ ?_
          rotate_left
          · intro w'
            go_simp
            with_reducible rfl
          rotate_left
          · simp only [Act.put, List.setIfInBounds_toArray, List.set_cons_zero, List.set_cons_succ, i64_w, i32_w]
            rfl
          refine done_ (done_of HT_.out (by kernel_rfl)) ?_
          try go_wp2
          go_ret
          exact ⟨by first | rfl | (simp [errW_none, errW_some] <;> rfl) | (simp [*, errW_none, errW_some] <;> rfl), by repeat (first | (with_reducible first | exact HB.out | apply below_alloc | apply pw_below_drewN | apply below_drew1 | refine below_set ?_ GE18001.out | refine below_set ?_ GE18009.out) | exact HB.out)⟩
        · rw [if_neg c9] at H
          have c9b0 : (t18008 == 0) = false := beq_eq_false_iff_ne.mpr c9
          have c9b1 : (t18008 != 0) = true := bne_iff_ne.mpr c9
          obtain rfl := Option.some.inj H
          go_enter Try.func6, Try.ntmps6
          try go_wp2_with (first | ((with_reducible refine gate_dst (N := 1) rfl ?_); refine box_event ?hg (N := 1) ?hd (cs := #[.int .i64 a0_0, .int .i64 a0_1, .int .i64 a0_2]) (t := 53) ?hr ?_; (case hd => rfl); (case hg => rfl); (case hr => first | (go_simp; done) | (go_simp; rfl)); intro gb18001 hg w24 hbox hb; have n0_ := Aside0.mk (below_step (by repeat (first | (with_reducible first | exact HB.out | apply below_alloc | apply pw_below_drewN | apply below_drew1) | exact HB.out)) hb); have n1_ := Aside0.mk (hbox); have n2_ := Aside0.mk ((by rw [hg]; exact (below_size (by repeat (first | (with_reducible first | exact HB.out | apply below_alloc | apply pw_below_drewN | apply below_drew1) | exact HB.out))) : w.heap.size ≤ gb18001)); have n3_ := Aside0.mk ((by rw [hg]; exact (below_size (by repeat (first | (with_reducible first | exact HB.out | apply below_alloc | apply pw_below_drewN | apply below_drew1) | exact HB.out))) : w.heap.size ≤ gb18001)); clear HB; have HB := n0_; have BK18001 := n1_; have GW18001 := n2_; have GE18001 := n3_; clear n0_ n1_ n2_ n3_; clear hb hbox hg) | ((with_reducible refine gate_callee (f := 10) rfl ?_); refine goesL_ (some 6) rfl rfl Try.func10 (by kernel_rfl) rfl #[] rfl (by (try simp only [List.map_toArray, List.map_cons, List.map_nil]); first | done | rfl | (simp only [List.length_drop, List.length_take]; rfl)) ?_; (with_reducible refine (guidevanelaw09_awake.calls  true _ A2.out).mono ?_); rintro e w25 ⟨rfl, hb⟩; refine ⟨_, rfl, ?_⟩; have n0_ := Aside0.mk (blk_below (g := gb18001) (o := .cells #[.int .i64 a0_0, .int .i64 a0_1, .int .i64 a0_2] 53 (0, 0)) (by (with_reducible repeat (first | refine blk_drewN ?_ _ | refine blk_drew ?_ | refine blk_alloc ?_ _)); exact BK18001.out) hb); have n1_ := Aside0.mk (below_step (by repeat (first | (with_reducible first | exact HB.out | apply below_alloc | apply pw_below_drewN | apply below_drew1 | refine below_set ?_ GE18001.out) | exact HB.out)) hb); clear BK18001; clear HB; have BK18001 := n0_; have HB := n1_; clear n0_ n1_; (try clear hb); (try clear hb2); (try clear hk); (try clear hi); have hcz26_0 : w25.cell? ⟨gb18001, 0, none⟩ = some (.int .i64 a0_0) := (blk_cell BK18001.out 0).trans rfl; have hcz26_1 : w25.cell? ⟨gb18001, 1, none⟩ = some (.int .i64 a0_1) := (blk_cell BK18001.out 1).trans rfl; have hcz26_2 : w25.cell? ⟨gb18001, 2, none⟩ = some (.int .i64 a0_2) := (blk_cell BK18001.out 2).trans rfl; have hfz26_0 := blk_frozen BK18001.out 0; have hfz26_1 := blk_frozen BK18001.out 1; have hfz26_2 := blk_frozen BK18001.out 2) | ((with_reducible refine gate_callee (f := 31) rfl ?_); refine goesL_ (some 10) rfl rfl Try.func31 (by kernel_rfl) rfl #[.agg #[.int .i64 a0_0, .int .i64 a0_1, .int .i64 a0_2]] rfl (by (try simp only [List.map_toArray, List.map_cons, List.map_nil]); first | done | rfl | (simp only [List.length_drop, List.length_take]; rfl)) ?_; (with_reducible refine (dam_TermsOf.calls a0_0 a0_1 a0_2 t18003 t18004 t18005 t18006 t18007 t18008 _ A4.out).mono ?_); rintro e w27 ⟨rfl, hb⟩; refine ⟨_, rfl, ?_⟩; have n0_ := Aside0.mk (blk_below (g := gb18001) (o := .cells #[.int .i64 a0_0, .int .i64 a0_1, .int .i64 a0_2] 53 (0, 0)) (by (with_reducible repeat (first | refine blk_drewN ?_ _ | refine blk_drew ?_ | refine blk_alloc ?_ _)); exact BK18001.out) hb); have n1_ := Aside0.mk (below_step (by repeat (first | (with_reducible first | exact HB.out | apply below_alloc | apply pw_below_drewN | apply below_drew1 | refine below_set ?_ GE18001.out) | exact HB.out)) hb); clear BK18001; clear HB; have BK18001 := n0_; have HB := n1_; clear n0_ n1_; (try clear hb); (try clear hb2); (try clear hk); (try clear hi)) | ((with_reducible refine gate_dst (N := 3) rfl ?_); refine box_event ?hg (N := 3) ?hd (cs := #[.int .i64 0, .int .i64 0, .int .i64 0, .int .i64 0, .int .i64 0]) (t := 54) ?hr ?_; (case hd => rfl); (case hg => rfl); (case hr => first | (go_simp; done) | (go_simp; rfl)); intro gb18009 hg w28 hbox hb; have n0_ := Aside0.mk (blk_below (g := gb18001) (o := .cells #[.int .i64 a0_0, .int .i64 a0_1, .int .i64 a0_2] 53 (0, 0)) (by (with_reducible repeat (first | refine blk_drewN ?_ _ | refine blk_drew ?_ | refine blk_alloc ?_ _)); exact BK18001.out) hb); have n1_ := Aside0.mk (below_step (by repeat (first | (with_reducible first | exact HB.out | apply below_alloc | apply pw_below_drewN | apply below_drew1 | refine below_set ?_ GE18001.out) | exact HB.out)) hb); have n2_ := Aside0.mk (hbox); have n3_ := Aside0.mk ((by rw [hg]; exact (below_size (by repeat (first | (with_reducible first | exact HB.out | apply below_alloc | apply pw_below_drewN | apply below_drew1 | refine below_set ?_ GE18001.out) | exact HB.out))) : w.heap.size ≤ gb18009)); have n4_ := Aside0.mk ((by rw [hg]; exact (below_size (by repeat (first | (with_reducible first | exact HB.out | apply below_alloc | apply pw_below_drewN | apply below_drew1 | refine below_set ?_ GE18001.out) | exact HB.out))) : w.heap.size ≤ gb18009)); have n5_ := Aside0.mk ((by rw [hg]; exact Nat.ne_of_lt (blk_lt (g := gb18001) (o := .cells #[.int .i64 a0_0, .int .i64 a0_1, .int .i64 a0_2] 53 (0, 0)) (by (with_reducible repeat (first | refine blk_drewN ?_ _ | refine blk_drew ?_ | refine blk_alloc ?_ _)); exact BK18001.out)) : gb18001 ≠ gb18009)); have n6_ := Aside0.mk ((by rw [hg]; exact Nat.ne_of_gt (blk_lt (g := gb18001) (o := .cells #[.int .i64 a0_0, .int .i64 a0_1, .int .i64 a0_2] 53 (0, 0)) (by (with_reducible repeat (first | refine blk_drewN ?_ _ | refine blk_drew ?_ | refine blk_alloc ?_ _)); exact BK18001.out)) : gb18009 ≠ gb18001)); clear BK18001; clear HB; have BK18001 := n0_; have HB := n1_; have BK18009 := n2_; have GW18009 := n3_; have GE18009 := n4_; have NB18001_18009 := n5_; have NB18009_18001 := n6_; clear n0_ n1_ n2_ n3_ n4_ n5_ n6_; clear hb hbox hg; have hnb29 := NB18009_18001.out; have hnc29 := NB18001_18009.out; have hcz30_0 : w28.cell? ⟨gb18009, 0, none⟩ = some (.int .i64 0) := (blk_cell BK18009.out 0).trans rfl; have hcz30_1 : w28.cell? ⟨gb18009, 1, none⟩ = some (.int .i64 0) := (blk_cell BK18009.out 1).trans rfl; have hcz30_2 : w28.cell? ⟨gb18009, 2, none⟩ = some (.int .i64 0) := (blk_cell BK18009.out 2).trans rfl; have hcz30_3 : w28.cell? ⟨gb18009, 3, none⟩ = some (.int .i64 0) := (blk_cell BK18009.out 3).trans rfl; have hcz30_4 : w28.cell? ⟨gb18009, 4, none⟩ = some (.int .i64 0) := (blk_cell BK18009.out 4).trans rfl; have hfz30_0 := blk_frozen BK18009.out 0; have hfz30_1 := blk_frozen BK18009.out 1; have hfz30_2 := blk_frozen BK18009.out 2; have hfz30_3 := blk_frozen BK18009.out 3; have hfz30_4 := blk_frozen BK18009.out 4; have hcz31_0 : w28.cell? ⟨gb18001, 0, none⟩ = some (.int .i64 a0_0) := (blk_cell BK18001.out 0).trans rfl; have hcz31_1 : w28.cell? ⟨gb18001, 1, none⟩ = some (.int .i64 a0_1) := (blk_cell BK18001.out 1).trans rfl; have hcz31_2 : w28.cell? ⟨gb18001, 2, none⟩ = some (.int .i64 a0_2) := (blk_cell BK18001.out 2).trans rfl; have hfz31_0 := blk_frozen BK18001.out 0; have hfz31_1 := blk_frozen BK18001.out 1; have hfz31_2 := blk_frozen BK18001.out 2) | ((with_reducible refine gate_callee (f := 32) rfl ?_); refine goesL_ (some 14) rfl rfl Try.func32 (by kernel_rfl) rfl #[.agg #[.int .i64 a0_0, .int .i64 a0_1, .int .i64 a0_2]] rfl (by (try simp only [List.map_toArray, List.map_cons, List.map_nil]); first | done | rfl | (simp only [List.length_drop, List.length_take]; rfl)) ?_; (with_reducible refine (guidevaneref09_ReadingErr.calls a0_0 a0_1 a0_2 t18010 _ A5.out).mono ?_); rintro e w32 ⟨rfl, hb⟩; refine ⟨_, rfl, ?_⟩; have n0_ := Aside0.mk (blk_below (g := gb18001) (o := .cells #[.int .i64 a0_0, .int .i64 a0_1, .int .i64 a0_2] 53 (0, 0)) (by (with_reducible repeat (first | refine blk_drewN ?_ _ | refine blk_drew ?_ | refine blk_alloc ?_ _)); refine blk_far ?_ NB18001_18009.out _; (with_reducible repeat (first | refine blk_drewN ?_ _ | refine blk_drew ?_ | refine blk_alloc ?_ _)); refine blk_far ?_ NB18001_18009.out _; (with_reducible repeat (first | refine blk_drewN ?_ _ | refine blk_drew ?_ | refine blk_alloc ?_ _)); refine blk_far ?_ NB18001_18009.out _; (with_reducible repeat (first | refine blk_drewN ?_ _ | refine blk_drew ?_ | refine blk_alloc ?_ _)); refine blk_far ?_ NB18001_18009.out _; (with_reducible repeat (first | refine blk_drewN ?_ _ | refine blk_drew ?_ | refine blk_alloc ?_ _)); refine blk_far ?_ NB18001_18009.out _; (with_reducible repeat (first | refine blk_drewN ?_ _ | refine blk_drew ?_ | refine blk_alloc ?_ _)); exact BK18001.out) hb); have n1_ := Aside0.mk (blk_below (g := gb18009) (o := .cells #[.int .i64 t18003, .int .i64 t18004, .int .i64 t18005, .int .i64 t18006, .int .i64 t18007] 54 (0, 0)) (by (with_reducible repeat (first | refine blk_drewN ?_ _ | refine blk_drew ?_ | refine blk_alloc ?_ _)); refine blk_put (cs := #[.int .i64 t18003, .int .i64 t18004, .int .i64 t18005, .int .i64 t18006, .int .i64 0]) ?_ 4 _ rfl; (with_reducible repeat (first | refine blk_drewN ?_ _ | refine blk_drew ?_ | refine blk_alloc ?_ _)); refine blk_put (cs := #[.int .i64 t18003, .int .i64 t18004, .int .i64 t18005, .int .i64 0, .int .i64 0]) ?_ 3 _ rfl; (with_reducible repeat (first | refine blk_drewN ?_ _ | refine blk_drew ?_ | refine blk_alloc ?_ _)); refine blk_put (cs := #[.int .i64 t18003, .int .i64 t18004, .int .i64 0, .int .i64 0, .int .i64 0]) ?_ 2 _ rfl; (with_reducible repeat (first | refine blk_drewN ?_ _ | refine blk_drew ?_ | refine blk_alloc ?_ _)); refine blk_put (cs := #[.int .i64 t18003, .int .i64 0, .int .i64 0, .int .i64 0, .int .i64 0]) ?_ 1 _ rfl; (with_reducible repeat (first | refine blk_drewN ?_ _ | refine blk_drew ?_ | refine blk_alloc ?_ _)); refine blk_put (cs := #[.int .i64 0, .int .i64 0, .int .i64 0, .int .i64 0, .int .i64 0]) ?_ 0 _ rfl; (with_reducible repeat (first | refine blk_drewN ?_ _ | refine blk_drew ?_ | refine blk_alloc ?_ _)); exact BK18009.out) hb); have n2_ := Aside0.mk (below_step (by repeat (first | (with_reducible first | exact HB.out | apply below_alloc | apply pw_below_drewN | apply below_drew1 | refine below_set ?_ GE18001.out | refine below_set ?_ GE18009.out) | exact HB.out)) hb); clear BK18001; clear BK18009; clear HB; have BK18001 := n0_; have BK18009 := n1_; have HB := n2_; clear n0_ n1_ n2_; (try clear hb); (try clear hb2); (try clear hk); (try clear hi); have hcz33_0 : w32.cell? ⟨gb18001, 0, none⟩ = some (.int .i64 a0_0) := (blk_cell BK18001.out 0).trans rfl; have hcz33_1 : w32.cell? ⟨gb18001, 1, none⟩ = some (.int .i64 a0_1) := (blk_cell BK18001.out 1).trans rfl; have hcz33_2 : w32.cell? ⟨gb18001, 2, none⟩ = some (.int .i64 a0_2) := (blk_cell BK18001.out 2).trans rfl; have hfz33_0 := blk_frozen BK18001.out 0; have hfz33_1 := blk_frozen BK18001.out 1; have hfz33_2 := blk_frozen BK18001.out 2) | ((with_reducible refine gate_callee (f := 33) rfl ?_); refine goesL_ (some 16) rfl rfl Try.func33 (by kernel_rfl) rfl #[.agg #[.int .i64 a0_0, .int .i64 a0_1, .int .i64 a0_2]] rfl (by (try simp only [List.map_toArray, List.map_cons, List.map_nil]); first | done | rfl | (simp only [List.length_drop, List.length_take]; rfl)) ?_; (with_reducible refine (dam_CheckReading.calls a0_0 a0_1 a0_2 t18011 _ A6.out).mono ?_); rintro e w34 ⟨rfl, hb⟩; refine ⟨_, rfl, ?_⟩; have n0_ := Aside0.mk (blk_below (g := gb18001) (o := .cells #[.int .i64 a0_0, .int .i64 a0_1, .int .i64 a0_2] 53 (0, 0)) (by (with_reducible repeat (first | refine blk_drewN ?_ _ | refine blk_drew ?_ | refine blk_alloc ?_ _)); exact BK18001.out) hb); have n1_ := Aside0.mk (blk_below (g := gb18009) (o := .cells #[.int .i64 t18003, .int .i64 t18004, .int .i64 t18005, .int .i64 t18006, .int .i64 t18007] 54 (0, 0)) (by (with_reducible repeat (first | refine blk_drewN ?_ _ | refine blk_drew ?_ | refine blk_alloc ?_ _)); exact BK18009.out) hb); have n2_ := Aside0.mk (below_step (by repeat (first | (with_reducible first | exact HB.out | apply below_alloc | apply pw_below_drewN | apply below_drew1 | refine below_set ?_ GE18001.out | refine below_set ?_ GE18009.out) | exact HB.out)) hb); clear BK18001; clear BK18009; clear HB; have BK18001 := n0_; have BK18009 := n1_; have HB := n2_; clear n0_ n1_ n2_; (try clear hb); (try clear hb2); (try clear hk); (try clear hi)))
          have n0_ := Aside0.mk (blk_drew BK18001.out)
          have n1_ := Aside0.mk (blk_drew BK18009.out)
          have n2_ := Aside0.mk (below_drew1 HB.out)
          clear BK18001
          clear BK18009
          clear HB
          have BK18001 := n0_
          have BK18009 := n1_
          have HB := n2_
          clear n0_ n1_ n2_
          refine start_ (n := 9) (S := fun w' => True) (ds := []) #[false, false, false, false, false, false, false, false, false] (by kernel_rfl) rfl rfl trivial (fun hHeld => ?_); refine with_tabW guidevanelaw09_DamTerms.tab9 guidevanelaw09_DamTerms.bits9 (fun HT_ HW_ => ?_)
          generalize w34.drew = w35 at BK18001 BK18009 HB hHeld ⊢
          refine pure_ (i := 0) (N := some 29) (v := ?_) (a' := ?_) #[true, false, false, false, false, false, false, false, false] rfl rfl (any_of HT_.out (by kernel_rfl)) (fun _ _ _ h => h) (Or.inl ⟨by rfl, ?_⟩) ?_ ?_
          rotate_left
          · intro w'
            go_simp
            with_reducible rfl
          rotate_left
          · simp only [Act.put, List.setIfInBounds_toArray, List.set_cons_zero, List.set_cons_succ, i64_w, i32_w]
            rfl
          refine pure_ (i := 1) (N := some 30) (v := ?_) (a' := ?_) #[true, true, false, false, false, false, false, false, false] rfl rfl (any_of HT_.out (by kernel_rfl)) (fun _ _ _ h => h) (Or.inl ⟨by rfl, ?_⟩) ?_ ?_
          rotate_left
          · intro w'
            go_simp
            with_reducible rfl
          rotate_left
          · simp only [Act.put, List.setIfInBounds_toArray, List.set_cons_zero, List.set_cons_succ, i64_w, i32_w]
            rfl
          refine pure_ (i := 2) (N := some 31) (v := ?_) (a' := ?_) #[true, true, true, false, false, false, false, false, false] rfl rfl (any_of HT_.out (by kernel_rfl)) (fun _ _ _ h => h) (Or.inl ⟨by rfl, ?_⟩) ?_ ?_
          rotate_left
          · intro w'
            go_simp
            with_reducible rfl
          rotate_left
          · simp only [Act.put, List.setIfInBounds_toArray, List.set_cons_zero, List.set_cons_succ, i64_w, i32_w]
            rfl
          refine pure_ (i := 3) (N := some 32) (v := undef) (a' := ?_) #[true, true, true, true, false, false, false, false, false] rfl rfl (any_of HT_.out (by kernel_rfl)) (fun _ _ _ h => h) (Or.inr ⟨by rfl, rfl⟩) ?_ ?_
          rotate_left
          · simp only [Act.put, List.setIfInBounds_toArray, List.set_cons_zero, List.set_cons_succ, i64_w, i32_w]
            rfl
          refine pure_ (i := 4) (N := some 33) (v := undef) (a' := ?_) #[true, true, true, true, true, false, false, false, false] rfl rfl (any_of HT_.out (by kernel_rfl)) (fun _ _ _ h => h) (Or.inr ⟨by rfl, rfl⟩) ?_ ?_
          rotate_left
          · simp only [Act.put, List.setIfInBounds_toArray, List.set_cons_zero, List.set_cons_succ, i64_w, i32_w]
            rfl
          refine pure_ (i := 5) (N := some 34) (v := undef) (a' := ?_) #[true, true, true, true, true, true, false, false, false] rfl rfl (any_of HT_.out (by kernel_rfl)) (fun _ _ _ h => h) (Or.inr ⟨by rfl, rfl⟩) ?_ ?_
          rotate_left
          · simp only [Act.put, List.setIfInBounds_toArray, List.set_cons_zero, List.set_cons_succ, i64_w, i32_w]
            rfl
          refine pure_ (i := 6) (N := some 35) (v := undef) (a' := ?_) #[true, true, true, true, true, true, true, false, false] rfl rfl (any_of HT_.out (by kernel_rfl)) (fun _ _ _ h => h) (Or.inr ⟨by rfl, rfl⟩) ?_ ?_
          rotate_left
          · simp only [Act.put, List.setIfInBounds_toArray, List.set_cons_zero, List.set_cons_succ, i64_w, i32_w]
            rfl
          refine pure_ (i := 7) (N := some 36) (v := ?_) (a' := ?_) #[true, true, true, true, true, true, true, true, false] rfl rfl (any_of HT_.out (by kernel_rfl)) (fun _ _ _ h => h) (Or.inl ⟨by rfl, ?_⟩) ?_ ?_
          rotate_left
          · intro w'
            go_simp
            with_reducible rfl
          rotate_left
          · simp only [Act.put, List.setIfInBounds_toArray, List.set_cons_zero, List.set_cons_succ, i64_w, i32_w]
            rfl
          refine pure_ (i := 8) (N := some 2) (v := ?_) (a' := ?_) #[true, true, true, true, true, true, true, true, true] rfl rfl (any_of HT_.out (by kernel_rfl)) (fun _ _ _ h => h) (Or.inl ⟨by rfl, ?_⟩) ?_ ?_
          rotate_left
          · intro w'
            go_simp
            with_reducible rfl
          rotate_left
          · simp only [Act.put, List.setIfInBounds_toArray, List.set_cons_zero, List.set_cons_succ, i64_w, i32_w]
            rfl
          refine done_ (done_of HT_.out (by kernel_rfl)) ?_
          try go_wp2
          go_ret
          exact ⟨by first | rfl | (simp [errW_none, errW_some] <;> rfl) | (simp [*, errW_none, errW_some] <;> rfl), by repeat (first | (with_reducible first | exact HB.out | apply below_alloc | apply pw_below_drewN | apply below_drew1 | refine below_set ?_ GE18001.out | refine below_set ?_ GE18009.out) | exact HB.out)⟩
      · rw [if_neg c8] at H
        have c8b0 : (t18010 == 0) = false := beq_eq_false_iff_ne.mpr c8
        have c8b1 : (t18010 != 0) = true := bne_iff_ne.mpr c8
        by_cases c36 : t18008 = t18010
        · rw [if_pos c36] at H
          have c36b0 : (t18008 == t18010) = true := beq_iff_eq.mpr c36
          have c36b1 : (t18008 != t18010) = false := bne_eq_false_iff_eq.mpr c36
          clear c36
          obtain rfl := Option.some.inj H
          go_enter Try.func6, Try.ntmps6
          go_wp2_with (first | ((with_reducible refine gate_dst (N := 1) rfl ?_); refine box_event ?hg (N := 1) ?hd (cs := #[.int .i64 a0_0, .int .i64 a0_1, .int .i64 a0_2]) (t := 53) ?hr ?_; (case hd => rfl); (case hg => rfl); (case hr => first | (go_simp; done) | (go_simp; rfl)); intro gb18001 hg w37 hbox hb; have n0_ := Aside0.mk (below_step (by repeat (first | (with_reducible first | exact HB.out | apply below_alloc | apply pw_below_drewN | apply below_drew1) | exact HB.out)) hb); have n1_ := Aside0.mk (hbox); have n2_ := Aside0.mk ((by rw [hg]; exact (below_size (by repeat (first | (with_reducible first | exact HB.out | apply below_alloc | apply pw_below_drewN | apply below_drew1) | exact HB.out))) : w.heap.size ≤ gb18001)); have n3_ := Aside0.mk ((by rw [hg]; exact (below_size (by repeat (first | (with_reducible first | exact HB.out | apply below_alloc | apply pw_below_drewN | apply below_drew1) | exact HB.out))) : w.heap.size ≤ gb18001)); clear HB; have HB := n0_; have BK18001 := n1_; have GW18001 := n2_; have GE18001 := n3_; clear n0_ n1_ n2_ n3_; clear hb hbox hg) | ((with_reducible refine gate_callee (f := 10) rfl ?_); refine goesL_ (some 6) rfl rfl Try.func10 (by kernel_rfl) rfl #[] rfl (by (try simp only [List.map_toArray, List.map_cons, List.map_nil]); first | done | rfl | (simp only [List.length_drop, List.length_take]; rfl)) ?_; (with_reducible refine (guidevanelaw09_awake.calls  true _ A2.out).mono ?_); rintro e w38 ⟨rfl, hb⟩; refine ⟨_, rfl, ?_⟩; have n0_ := Aside0.mk (blk_below (g := gb18001) (o := .cells #[.int .i64 a0_0, .int .i64 a0_1, .int .i64 a0_2] 53 (0, 0)) (by (with_reducible repeat (first | refine blk_drewN ?_ _ | refine blk_drew ?_ | refine blk_alloc ?_ _)); exact BK18001.out) hb); have n1_ := Aside0.mk (below_step (by repeat (first | (with_reducible first | exact HB.out | apply below_alloc | apply pw_below_drewN | apply below_drew1 | refine below_set ?_ GE18001.out) | exact HB.out)) hb); clear BK18001; clear HB; have BK18001 := n0_; have HB := n1_; clear n0_ n1_; (try clear hb); (try clear hb2); (try clear hk); (try clear hi); have hcz39_0 : w38.cell? ⟨gb18001, 0, none⟩ = some (.int .i64 a0_0) := (blk_cell BK18001.out 0).trans rfl; have hcz39_1 : w38.cell? ⟨gb18001, 1, none⟩ = some (.int .i64 a0_1) := (blk_cell BK18001.out 1).trans rfl; have hcz39_2 : w38.cell? ⟨gb18001, 2, none⟩ = some (.int .i64 a0_2) := (blk_cell BK18001.out 2).trans rfl; have hfz39_0 := blk_frozen BK18001.out 0; have hfz39_1 := blk_frozen BK18001.out 1; have hfz39_2 := blk_frozen BK18001.out 2) | ((with_reducible refine gate_callee (f := 31) rfl ?_); refine goesL_ (some 10) rfl rfl Try.func31 (by kernel_rfl) rfl #[.agg #[.int .i64 a0_0, .int .i64 a0_1, .int .i64 a0_2]] rfl (by (try simp only [List.map_toArray, List.map_cons, List.map_nil]); first | done | rfl | (simp only [List.length_drop, List.length_take]; rfl)) ?_; (with_reducible refine (dam_TermsOf.calls a0_0 a0_1 a0_2 t18003 t18004 t18005 t18006 t18007 t18008 _ A4.out).mono ?_); rintro e w40 ⟨rfl, hb⟩; refine ⟨_, rfl, ?_⟩; have n0_ := Aside0.mk (blk_below (g := gb18001) (o := .cells #[.int .i64 a0_0, .int .i64 a0_1, .int .i64 a0_2] 53 (0, 0)) (by (with_reducible repeat (first | refine blk_drewN ?_ _ | refine blk_drew ?_ | refine blk_alloc ?_ _)); exact BK18001.out) hb); have n1_ := Aside0.mk (below_step (by repeat (first | (with_reducible first | exact HB.out | apply below_alloc | apply pw_below_drewN | apply below_drew1 | refine below_set ?_ GE18001.out) | exact HB.out)) hb); clear BK18001; clear HB; have BK18001 := n0_; have HB := n1_; clear n0_ n1_; (try clear hb); (try clear hb2); (try clear hk); (try clear hi)) | ((with_reducible refine gate_dst (N := 3) rfl ?_); refine box_event ?hg (N := 3) ?hd (cs := #[.int .i64 0, .int .i64 0, .int .i64 0, .int .i64 0, .int .i64 0]) (t := 54) ?hr ?_; (case hd => rfl); (case hg => rfl); (case hr => first | (go_simp; done) | (go_simp; rfl)); intro gb18009 hg w41 hbox hb; have n0_ := Aside0.mk (blk_below (g := gb18001) (o := .cells #[.int .i64 a0_0, .int .i64 a0_1, .int .i64 a0_2] 53 (0, 0)) (by (with_reducible repeat (first | refine blk_drewN ?_ _ | refine blk_drew ?_ | refine blk_alloc ?_ _)); exact BK18001.out) hb); have n1_ := Aside0.mk (below_step (by repeat (first | (with_reducible first | exact HB.out | apply below_alloc | apply pw_below_drewN | apply below_drew1 | refine below_set ?_ GE18001.out) | exact HB.out)) hb); have n2_ := Aside0.mk (hbox); have n3_ := Aside0.mk ((by rw [hg]; exact (below_size (by repeat (first | (with_reducible first | exact HB.out | apply below_alloc | apply pw_below_drewN | apply below_drew1 | refine below_set ?_ GE18001.out) | exact HB.out))) : w.heap.size ≤ gb18009)); have n4_ := Aside0.mk ((by rw [hg]; exact (below_size (by repeat (first | (with_reducible first | exact HB.out | apply below_alloc | apply pw_below_drewN | apply below_drew1 | refine below_set ?_ GE18001.out) | exact HB.out))) : w.heap.size ≤ gb18009)); have n5_ := Aside0.mk ((by rw [hg]; exact Nat.ne_of_lt (blk_lt (g := gb18001) (o := .cells #[.int .i64 a0_0, .int .i64 a0_1, .int .i64 a0_2] 53 (0, 0)) (by (with_reducible repeat (first | refine blk_drewN ?_ _ | refine blk_drew ?_ | refine blk_alloc ?_ _)); exact BK18001.out)) : gb18001 ≠ gb18009)); have n6_ := Aside0.mk ((by rw [hg]; exact Nat.ne_of_gt (blk_lt (g := gb18001) (o := .cells #[.int .i64 a0_0, .int .i64 a0_1, .int .i64 a0_2] 53 (0, 0)) (by (with_reducible repeat (first | refine blk_drewN ?_ _ | refine blk_drew ?_ | refine blk_alloc ?_ _)); exact BK18001.out)) : gb18009 ≠ gb18001)); clear BK18001; clear HB; have BK18001 := n0_; have HB := n1_; have BK18009 := n2_; have GW18009 := n3_; have GE18009 := n4_; have NB18001_18009 := n5_; have NB18009_18001 := n6_; clear n0_ n1_ n2_ n3_ n4_ n5_ n6_; clear hb hbox hg; have hnb42 := NB18009_18001.out; have hnc42 := NB18001_18009.out; have hcz43_0 : w41.cell? ⟨gb18009, 0, none⟩ = some (.int .i64 0) := (blk_cell BK18009.out 0).trans rfl; have hcz43_1 : w41.cell? ⟨gb18009, 1, none⟩ = some (.int .i64 0) := (blk_cell BK18009.out 1).trans rfl; have hcz43_2 : w41.cell? ⟨gb18009, 2, none⟩ = some (.int .i64 0) := (blk_cell BK18009.out 2).trans rfl; have hcz43_3 : w41.cell? ⟨gb18009, 3, none⟩ = some (.int .i64 0) := (blk_cell BK18009.out 3).trans rfl; have hcz43_4 : w41.cell? ⟨gb18009, 4, none⟩ = some (.int .i64 0) := (blk_cell BK18009.out 4).trans rfl; have hfz43_0 := blk_frozen BK18009.out 0; have hfz43_1 := blk_frozen BK18009.out 1; have hfz43_2 := blk_frozen BK18009.out 2; have hfz43_3 := blk_frozen BK18009.out 3; have hfz43_4 := blk_frozen BK18009.out 4; have hcz44_0 : w41.cell? ⟨gb18001, 0, none⟩ = some (.int .i64 a0_0) := (blk_cell BK18001.out 0).trans rfl; have hcz44_1 : w41.cell? ⟨gb18001, 1, none⟩ = some (.int .i64 a0_1) := (blk_cell BK18001.out 1).trans rfl; have hcz44_2 : w41.cell? ⟨gb18001, 2, none⟩ = some (.int .i64 a0_2) := (blk_cell BK18001.out 2).trans rfl; have hfz44_0 := blk_frozen BK18001.out 0; have hfz44_1 := blk_frozen BK18001.out 1; have hfz44_2 := blk_frozen BK18001.out 2) | ((with_reducible refine gate_callee (f := 32) rfl ?_); refine goesL_ (some 14) rfl rfl Try.func32 (by kernel_rfl) rfl #[.agg #[.int .i64 a0_0, .int .i64 a0_1, .int .i64 a0_2]] rfl (by (try simp only [List.map_toArray, List.map_cons, List.map_nil]); first | done | rfl | (simp only [List.length_drop, List.length_take]; rfl)) ?_; (with_reducible refine (guidevaneref09_ReadingErr.calls a0_0 a0_1 a0_2 t18010 _ A5.out).mono ?_); rintro e w45 ⟨rfl, hb⟩; refine ⟨_, rfl, ?_⟩; have n0_ := Aside0.mk (blk_below (g := gb18001) (o := .cells #[.int .i64 a0_0, .int .i64 a0_1, .int .i64 a0_2] 53 (0, 0)) (by (with_reducible repeat (first | refine blk_drewN ?_ _ | refine blk_drew ?_ | refine blk_alloc ?_ _)); refine blk_far ?_ NB18001_18009.out _; (with_reducible repeat (first | refine blk_drewN ?_ _ | refine blk_drew ?_ | refine blk_alloc ?_ _)); refine blk_far ?_ NB18001_18009.out _; (with_reducible repeat (first | refine blk_drewN ?_ _ | refine blk_drew ?_ | refine blk_alloc ?_ _)); refine blk_far ?_ NB18001_18009.out _; (with_reducible repeat (first | refine blk_drewN ?_ _ | refine blk_drew ?_ | refine blk_alloc ?_ _)); refine blk_far ?_ NB18001_18009.out _; (with_reducible repeat (first | refine blk_drewN ?_ _ | refine blk_drew ?_ | refine blk_alloc ?_ _)); refine blk_far ?_ NB18001_18009.out _; (with_reducible repeat (first | refine blk_drewN ?_ _ | refine blk_drew ?_ | refine blk_alloc ?_ _)); exact BK18001.out) hb); have n1_ := Aside0.mk (blk_below (g := gb18009) (o := .cells #[.int .i64 t18003, .int .i64 t18004, .int .i64 t18005, .int .i64 t18006, .int .i64 t18007] 54 (0, 0)) (by (with_reducible repeat (first | refine blk_drewN ?_ _ | refine blk_drew ?_ | refine blk_alloc ?_ _)); refine blk_put (cs := #[.int .i64 t18003, .int .i64 t18004, .int .i64 t18005, .int .i64 t18006, .int .i64 0]) ?_ 4 _ rfl; (with_reducible repeat (first | refine blk_drewN ?_ _ | refine blk_drew ?_ | refine blk_alloc ?_ _)); refine blk_put (cs := #[.int .i64 t18003, .int .i64 t18004, .int .i64 t18005, .int .i64 0, .int .i64 0]) ?_ 3 _ rfl; (with_reducible repeat (first | refine blk_drewN ?_ _ | refine blk_drew ?_ | refine blk_alloc ?_ _)); refine blk_put (cs := #[.int .i64 t18003, .int .i64 t18004, .int .i64 0, .int .i64 0, .int .i64 0]) ?_ 2 _ rfl; (with_reducible repeat (first | refine blk_drewN ?_ _ | refine blk_drew ?_ | refine blk_alloc ?_ _)); refine blk_put (cs := #[.int .i64 t18003, .int .i64 0, .int .i64 0, .int .i64 0, .int .i64 0]) ?_ 1 _ rfl; (with_reducible repeat (first | refine blk_drewN ?_ _ | refine blk_drew ?_ | refine blk_alloc ?_ _)); refine blk_put (cs := #[.int .i64 0, .int .i64 0, .int .i64 0, .int .i64 0, .int .i64 0]) ?_ 0 _ rfl; (with_reducible repeat (first | refine blk_drewN ?_ _ | refine blk_drew ?_ | refine blk_alloc ?_ _)); exact BK18009.out) hb); have n2_ := Aside0.mk (below_step (by repeat (first | (with_reducible first | exact HB.out | apply below_alloc | apply pw_below_drewN | apply below_drew1 | refine below_set ?_ GE18001.out | refine below_set ?_ GE18009.out) | exact HB.out)) hb); clear BK18001; clear BK18009; clear HB; have BK18001 := n0_; have BK18009 := n1_; have HB := n2_; clear n0_ n1_ n2_; (try clear hb); (try clear hb2); (try clear hk); (try clear hi); have hcz46_0 : w45.cell? ⟨gb18001, 0, none⟩ = some (.int .i64 a0_0) := (blk_cell BK18001.out 0).trans rfl; have hcz46_1 : w45.cell? ⟨gb18001, 1, none⟩ = some (.int .i64 a0_1) := (blk_cell BK18001.out 1).trans rfl; have hcz46_2 : w45.cell? ⟨gb18001, 2, none⟩ = some (.int .i64 a0_2) := (blk_cell BK18001.out 2).trans rfl; have hfz46_0 := blk_frozen BK18001.out 0; have hfz46_1 := blk_frozen BK18001.out 1; have hfz46_2 := blk_frozen BK18001.out 2) | ((with_reducible refine gate_callee (f := 33) rfl ?_); refine goesL_ (some 16) rfl rfl Try.func33 (by kernel_rfl) rfl #[.agg #[.int .i64 a0_0, .int .i64 a0_1, .int .i64 a0_2]] rfl (by (try simp only [List.map_toArray, List.map_cons, List.map_nil]); first | done | rfl | (simp only [List.length_drop, List.length_take]; rfl)) ?_; (with_reducible refine (dam_CheckReading.calls a0_0 a0_1 a0_2 t18011 _ A6.out).mono ?_); rintro e w47 ⟨rfl, hb⟩; refine ⟨_, rfl, ?_⟩; have n0_ := Aside0.mk (blk_below (g := gb18001) (o := .cells #[.int .i64 a0_0, .int .i64 a0_1, .int .i64 a0_2] 53 (0, 0)) (by (with_reducible repeat (first | refine blk_drewN ?_ _ | refine blk_drew ?_ | refine blk_alloc ?_ _)); exact BK18001.out) hb); have n1_ := Aside0.mk (blk_below (g := gb18009) (o := .cells #[.int .i64 t18003, .int .i64 t18004, .int .i64 t18005, .int .i64 t18006, .int .i64 t18007] 54 (0, 0)) (by (with_reducible repeat (first | refine blk_drewN ?_ _ | refine blk_drew ?_ | refine blk_alloc ?_ _)); exact BK18009.out) hb); have n2_ := Aside0.mk (below_step (by repeat (first | (with_reducible first | exact HB.out | apply below_alloc | apply pw_below_drewN | apply below_drew1 | refine below_set ?_ GE18001.out | refine below_set ?_ GE18009.out) | exact HB.out)) hb); clear BK18001; clear BK18009; clear HB; have BK18001 := n0_; have BK18009 := n1_; have HB := n2_; clear n0_ n1_ n2_; (try clear hb); (try clear hb2); (try clear hk); (try clear hi); have hcz48_0 : w47.cell? ⟨gb18009, 0, none⟩ = some (.int .i64 t18003) := (blk_cell BK18009.out 0).trans rfl; have hcz48_1 : w47.cell? ⟨gb18009, 1, none⟩ = some (.int .i64 t18004) := (blk_cell BK18009.out 1).trans rfl; have hcz48_2 : w47.cell? ⟨gb18009, 2, none⟩ = some (.int .i64 t18005) := (blk_cell BK18009.out 2).trans rfl; have hcz48_3 : w47.cell? ⟨gb18009, 3, none⟩ = some (.int .i64 t18006) := (blk_cell BK18009.out 3).trans rfl; have hcz48_4 : w47.cell? ⟨gb18009, 4, none⟩ = some (.int .i64 t18007) := (blk_cell BK18009.out 4).trans rfl; have hfz48_0 := blk_frozen BK18009.out 0; have hfz48_1 := blk_frozen BK18009.out 1; have hfz48_2 := blk_frozen BK18009.out 2; have hfz48_3 := blk_frozen BK18009.out 3; have hfz48_4 := blk_frozen BK18009.out 4))
          go_ret
          exact ⟨by first | rfl | (simp [errW_none, errW_some] <;> rfl) | (simp [*, errW_none, errW_some] <;> rfl), by repeat (first | (with_reducible first | exact HB.out | apply below_alloc | apply pw_below_drewN | apply below_drew1 | refine below_set ?_ GE18001.out | refine below_set ?_ GE18009.out) | exact HB.out)⟩
        · rw [if_neg c36] at H
          have c36b0 : (t18008 == t18010) = false := beq_eq_false_iff_ne.mpr c36
          have c36b1 : (t18008 != t18010) = true := bne_iff_ne.mpr c36
          obtain rfl := Option.some.inj H
          go_enter Try.func6, Try.ntmps6
          go_wp2_with (first | ((with_reducible refine gate_dst (N := 1) rfl ?_); refine box_event ?hg (N := 1) ?hd (cs := #[.int .i64 a0_0, .int .i64 a0_1, .int .i64 a0_2]) (t := 53) ?hr ?_; (case hd => rfl); (case hg => rfl); (case hr => first | (go_simp; done) | (go_simp; rfl)); intro gb18001 hg w49 hbox hb; have n0_ := Aside0.mk (below_step (by repeat (first | (with_reducible first | exact HB.out | apply below_alloc | apply pw_below_drewN | apply below_drew1) | exact HB.out)) hb); have n1_ := Aside0.mk (hbox); have n2_ := Aside0.mk ((by rw [hg]; exact (below_size (by repeat (first | (with_reducible first | exact HB.out | apply below_alloc | apply pw_below_drewN | apply below_drew1) | exact HB.out))) : w.heap.size ≤ gb18001)); have n3_ := Aside0.mk ((by rw [hg]; exact (below_size (by repeat (first | (with_reducible first | exact HB.out | apply below_alloc | apply pw_below_drewN | apply below_drew1) | exact HB.out))) : w.heap.size ≤ gb18001)); clear HB; have HB := n0_; have BK18001 := n1_; have GW18001 := n2_; have GE18001 := n3_; clear n0_ n1_ n2_ n3_; clear hb hbox hg) | ((with_reducible refine gate_callee (f := 10) rfl ?_); refine goesL_ (some 6) rfl rfl Try.func10 (by kernel_rfl) rfl #[] rfl (by (try simp only [List.map_toArray, List.map_cons, List.map_nil]); first | done | rfl | (simp only [List.length_drop, List.length_take]; rfl)) ?_; (with_reducible refine (guidevanelaw09_awake.calls  true _ A2.out).mono ?_); rintro e w50 ⟨rfl, hb⟩; refine ⟨_, rfl, ?_⟩; have n0_ := Aside0.mk (blk_below (g := gb18001) (o := .cells #[.int .i64 a0_0, .int .i64 a0_1, .int .i64 a0_2] 53 (0, 0)) (by (with_reducible repeat (first | refine blk_drewN ?_ _ | refine blk_drew ?_ | refine blk_alloc ?_ _)); exact BK18001.out) hb); have n1_ := Aside0.mk (below_step (by repeat (first | (with_reducible first | exact HB.out | apply below_alloc | apply pw_below_drewN | apply below_drew1 | refine below_set ?_ GE18001.out) | exact HB.out)) hb); clear BK18001; clear HB; have BK18001 := n0_; have HB := n1_; clear n0_ n1_; (try clear hb); (try clear hb2); (try clear hk); (try clear hi); have hcz51_0 : w50.cell? ⟨gb18001, 0, none⟩ = some (.int .i64 a0_0) := (blk_cell BK18001.out 0).trans rfl; have hcz51_1 : w50.cell? ⟨gb18001, 1, none⟩ = some (.int .i64 a0_1) := (blk_cell BK18001.out 1).trans rfl; have hcz51_2 : w50.cell? ⟨gb18001, 2, none⟩ = some (.int .i64 a0_2) := (blk_cell BK18001.out 2).trans rfl; have hfz51_0 := blk_frozen BK18001.out 0; have hfz51_1 := blk_frozen BK18001.out 1; have hfz51_2 := blk_frozen BK18001.out 2) | ((with_reducible refine gate_callee (f := 31) rfl ?_); refine goesL_ (some 10) rfl rfl Try.func31 (by kernel_rfl) rfl #[.agg #[.int .i64 a0_0, .int .i64 a0_1, .int .i64 a0_2]] rfl (by (try simp only [List.map_toArray, List.map_cons, List.map_nil]); first | done | rfl | (simp only [List.length_drop, List.length_take]; rfl)) ?_; (with_reducible refine (dam_TermsOf.calls a0_0 a0_1 a0_2 t18003 t18004 t18005 t18006 t18007 t18008 _ A4.out).mono ?_); rintro e w52 ⟨rfl, hb⟩; refine ⟨_, rfl, ?_⟩; have n0_ := Aside0.mk (blk_below (g := gb18001) (o := .cells #[.int .i64 a0_0, .int .i64 a0_1, .int .i64 a0_2] 53 (0, 0)) (by (with_reducible repeat (first | refine blk_drewN ?_ _ | refine blk_drew ?_ | refine blk_alloc ?_ _)); exact BK18001.out) hb); have n1_ := Aside0.mk (below_step (by repeat (first | (with_reducible first | exact HB.out | apply below_alloc | apply pw_below_drewN | apply below_drew1 | refine below_set ?_ GE18001.out) | exact HB.out)) hb); clear BK18001; clear HB; have BK18001 := n0_; have HB := n1_; clear n0_ n1_; (try clear hb); (try clear hb2); (try clear hk); (try clear hi)) | ((with_reducible refine gate_dst (N := 3) rfl ?_); refine box_event ?hg (N := 3) ?hd (cs := #[.int .i64 0, .int .i64 0, .int .i64 0, .int .i64 0, .int .i64 0]) (t := 54) ?hr ?_; (case hd => rfl); (case hg => rfl); (case hr => first | (go_simp; done) | (go_simp; rfl)); intro gb18009 hg w53 hbox hb; have n0_ := Aside0.mk (blk_below (g := gb18001) (o := .cells #[.int .i64 a0_0, .int .i64 a0_1, .int .i64 a0_2] 53 (0, 0)) (by (with_reducible repeat (first | refine blk_drewN ?_ _ | refine blk_drew ?_ | refine blk_alloc ?_ _)); exact BK18001.out) hb); have n1_ := Aside0.mk (below_step (by repeat (first | (with_reducible first | exact HB.out | apply below_alloc | apply pw_below_drewN | apply below_drew1 | refine below_set ?_ GE18001.out) | exact HB.out)) hb); have n2_ := Aside0.mk (hbox); have n3_ := Aside0.mk ((by rw [hg]; exact (below_size (by repeat (first | (with_reducible first | exact HB.out | apply below_alloc | apply pw_below_drewN | apply below_drew1 | refine below_set ?_ GE18001.out) | exact HB.out))) : w.heap.size ≤ gb18009)); have n4_ := Aside0.mk ((by rw [hg]; exact (below_size (by repeat (first | (with_reducible first | exact HB.out | apply below_alloc | apply pw_below_drewN | apply below_drew1 | refine below_set ?_ GE18001.out) | exact HB.out))) : w.heap.size ≤ gb18009)); have n5_ := Aside0.mk ((by rw [hg]; exact Nat.ne_of_lt (blk_lt (g := gb18001) (o := .cells #[.int .i64 a0_0, .int .i64 a0_1, .int .i64 a0_2] 53 (0, 0)) (by (with_reducible repeat (first | refine blk_drewN ?_ _ | refine blk_drew ?_ | refine blk_alloc ?_ _)); exact BK18001.out)) : gb18001 ≠ gb18009)); have n6_ := Aside0.mk ((by rw [hg]; exact Nat.ne_of_gt (blk_lt (g := gb18001) (o := .cells #[.int .i64 a0_0, .int .i64 a0_1, .int .i64 a0_2] 53 (0, 0)) (by (with_reducible repeat (first | refine blk_drewN ?_ _ | refine blk_drew ?_ | refine blk_alloc ?_ _)); exact BK18001.out)) : gb18009 ≠ gb18001)); clear BK18001; clear HB; have BK18001 := n0_; have HB := n1_; have BK18009 := n2_; have GW18009 := n3_; have GE18009 := n4_; have NB18001_18009 := n5_; have NB18009_18001 := n6_; clear n0_ n1_ n2_ n3_ n4_ n5_ n6_; clear hb hbox hg; have hnb54 := NB18009_18001.out; have hnc54 := NB18001_18009.out; have hcz55_0 : w53.cell? ⟨gb18009, 0, none⟩ = some (.int .i64 0) := (blk_cell BK18009.out 0).trans rfl; have hcz55_1 : w53.cell? ⟨gb18009, 1, none⟩ = some (.int .i64 0) := (blk_cell BK18009.out 1).trans rfl; have hcz55_2 : w53.cell? ⟨gb18009, 2, none⟩ = some (.int .i64 0) := (blk_cell BK18009.out 2).trans rfl; have hcz55_3 : w53.cell? ⟨gb18009, 3, none⟩ = some (.int .i64 0) := (blk_cell BK18009.out 3).trans rfl; have hcz55_4 : w53.cell? ⟨gb18009, 4, none⟩ = some (.int .i64 0) := (blk_cell BK18009.out 4).trans rfl; have hfz55_0 := blk_frozen BK18009.out 0; have hfz55_1 := blk_frozen BK18009.out 1; have hfz55_2 := blk_frozen BK18009.out 2; have hfz55_3 := blk_frozen BK18009.out 3; have hfz55_4 := blk_frozen BK18009.out 4; have hcz56_0 : w53.cell? ⟨gb18001, 0, none⟩ = some (.int .i64 a0_0) := (blk_cell BK18001.out 0).trans rfl; have hcz56_1 : w53.cell? ⟨gb18001, 1, none⟩ = some (.int .i64 a0_1) := (blk_cell BK18001.out 1).trans rfl; have hcz56_2 : w53.cell? ⟨gb18001, 2, none⟩ = some (.int .i64 a0_2) := (blk_cell BK18001.out 2).trans rfl; have hfz56_0 := blk_frozen BK18001.out 0; have hfz56_1 := blk_frozen BK18001.out 1; have hfz56_2 := blk_frozen BK18001.out 2) | ((with_reducible refine gate_callee (f := 32) rfl ?_); refine goesL_ (some 14) rfl rfl Try.func32 (by kernel_rfl) rfl #[.agg #[.int .i64 a0_0, .int .i64 a0_1, .int .i64 a0_2]] rfl (by (try simp only [List.map_toArray, List.map_cons, List.map_nil]); first | done | rfl | (simp only [List.length_drop, List.length_take]; rfl)) ?_; (with_reducible refine (guidevaneref09_ReadingErr.calls a0_0 a0_1 a0_2 t18010 _ A5.out).mono ?_); rintro e w57 ⟨rfl, hb⟩; refine ⟨_, rfl, ?_⟩; have n0_ := Aside0.mk (blk_below (g := gb18001) (o := .cells #[.int .i64 a0_0, .int .i64 a0_1, .int .i64 a0_2] 53 (0, 0)) (by (with_reducible repeat (first | refine blk_drewN ?_ _ | refine blk_drew ?_ | refine blk_alloc ?_ _)); refine blk_far ?_ NB18001_18009.out _; (with_reducible repeat (first | refine blk_drewN ?_ _ | refine blk_drew ?_ | refine blk_alloc ?_ _)); refine blk_far ?_ NB18001_18009.out _; (with_reducible repeat (first | refine blk_drewN ?_ _ | refine blk_drew ?_ | refine blk_alloc ?_ _)); refine blk_far ?_ NB18001_18009.out _; (with_reducible repeat (first | refine blk_drewN ?_ _ | refine blk_drew ?_ | refine blk_alloc ?_ _)); refine blk_far ?_ NB18001_18009.out _; (with_reducible repeat (first | refine blk_drewN ?_ _ | refine blk_drew ?_ | refine blk_alloc ?_ _)); refine blk_far ?_ NB18001_18009.out _; (with_reducible repeat (first | refine blk_drewN ?_ _ | refine blk_drew ?_ | refine blk_alloc ?_ _)); exact BK18001.out) hb); have n1_ := Aside0.mk (blk_below (g := gb18009) (o := .cells #[.int .i64 t18003, .int .i64 t18004, .int .i64 t18005, .int .i64 t18006, .int .i64 t18007] 54 (0, 0)) (by (with_reducible repeat (first | refine blk_drewN ?_ _ | refine blk_drew ?_ | refine blk_alloc ?_ _)); refine blk_put (cs := #[.int .i64 t18003, .int .i64 t18004, .int .i64 t18005, .int .i64 t18006, .int .i64 0]) ?_ 4 _ rfl; (with_reducible repeat (first | refine blk_drewN ?_ _ | refine blk_drew ?_ | refine blk_alloc ?_ _)); refine blk_put (cs := #[.int .i64 t18003, .int .i64 t18004, .int .i64 t18005, .int .i64 0, .int .i64 0]) ?_ 3 _ rfl; (with_reducible repeat (first | refine blk_drewN ?_ _ | refine blk_drew ?_ | refine blk_alloc ?_ _)); refine blk_put (cs := #[.int .i64 t18003, .int .i64 t18004, .int .i64 0, .int .i64 0, .int .i64 0]) ?_ 2 _ rfl; (with_reducible repeat (first | refine blk_drewN ?_ _ | refine blk_drew ?_ | refine blk_alloc ?_ _)); refine blk_put (cs := #[.int .i64 t18003, .int .i64 0, .int .i64 0, .int .i64 0, .int .i64 0]) ?_ 1 _ rfl; (with_reducible repeat (first | refine blk_drewN ?_ _ | refine blk_drew ?_ | refine blk_alloc ?_ _)); refine blk_put (cs := #[.int .i64 0, .int .i64 0, .int .i64 0, .int .i64 0, .int .i64 0]) ?_ 0 _ rfl; (with_reducible repeat (first | refine blk_drewN ?_ _ | refine blk_drew ?_ | refine blk_alloc ?_ _)); exact BK18009.out) hb); have n2_ := Aside0.mk (below_step (by repeat (first | (with_reducible first | exact HB.out | apply below_alloc | apply pw_below_drewN | apply below_drew1 | refine below_set ?_ GE18001.out | refine below_set ?_ GE18009.out) | exact HB.out)) hb); clear BK18001; clear BK18009; clear HB; have BK18001 := n0_; have BK18009 := n1_; have HB := n2_; clear n0_ n1_ n2_; (try clear hb); (try clear hb2); (try clear hk); (try clear hi); have hcz58_0 : w57.cell? ⟨gb18001, 0, none⟩ = some (.int .i64 a0_0) := (blk_cell BK18001.out 0).trans rfl; have hcz58_1 : w57.cell? ⟨gb18001, 1, none⟩ = some (.int .i64 a0_1) := (blk_cell BK18001.out 1).trans rfl; have hcz58_2 : w57.cell? ⟨gb18001, 2, none⟩ = some (.int .i64 a0_2) := (blk_cell BK18001.out 2).trans rfl; have hfz58_0 := blk_frozen BK18001.out 0; have hfz58_1 := blk_frozen BK18001.out 1; have hfz58_2 := blk_frozen BK18001.out 2) | ((with_reducible refine gate_callee (f := 33) rfl ?_); refine goesL_ (some 16) rfl rfl Try.func33 (by kernel_rfl) rfl #[.agg #[.int .i64 a0_0, .int .i64 a0_1, .int .i64 a0_2]] rfl (by (try simp only [List.map_toArray, List.map_cons, List.map_nil]); first | done | rfl | (simp only [List.length_drop, List.length_take]; rfl)) ?_; (with_reducible refine (dam_CheckReading.calls a0_0 a0_1 a0_2 t18011 _ A6.out).mono ?_); rintro e w59 ⟨rfl, hb⟩; refine ⟨_, rfl, ?_⟩; have n0_ := Aside0.mk (blk_below (g := gb18001) (o := .cells #[.int .i64 a0_0, .int .i64 a0_1, .int .i64 a0_2] 53 (0, 0)) (by (with_reducible repeat (first | refine blk_drewN ?_ _ | refine blk_drew ?_ | refine blk_alloc ?_ _)); exact BK18001.out) hb); have n1_ := Aside0.mk (blk_below (g := gb18009) (o := .cells #[.int .i64 t18003, .int .i64 t18004, .int .i64 t18005, .int .i64 t18006, .int .i64 t18007] 54 (0, 0)) (by (with_reducible repeat (first | refine blk_drewN ?_ _ | refine blk_drew ?_ | refine blk_alloc ?_ _)); exact BK18009.out) hb); have n2_ := Aside0.mk (below_step (by repeat (first | (with_reducible first | exact HB.out | apply below_alloc | apply pw_below_drewN | apply below_drew1 | refine below_set ?_ GE18001.out | refine below_set ?_ GE18009.out) | exact HB.out)) hb); clear BK18001; clear BK18009; clear HB; have BK18001 := n0_; have BK18009 := n1_; have HB := n2_; clear n0_ n1_ n2_; (try clear hb); (try clear hb2); (try clear hk); (try clear hi)))
          go_ret
          exact ⟨by first | rfl | (simp [errW_none, errW_some] <;> rfl) | (simp [*, errW_none, errW_some] <;> rfl), by repeat (first | (with_reducible first | exact HB.out | apply below_alloc | apply pw_below_drewN | apply below_drew1 | refine below_set ?_ GE18001.out | refine below_set ?_ GE18009.out) | exact HB.out)⟩
    · rw [if_neg c7] at H
      have c7b0 : (t18011 == t18010) = false := beq_eq_false_iff_ne.mpr c7
      have c7b1 : (t18011 != t18010) = true := bne_iff_ne.mpr c7
      obtain rfl := Option.some.inj H
      go_enter Try.func6, Try.ntmps6
      go_wp2_with (first | ((with_reducible refine gate_dst (N := 1) rfl ?_); refine box_event ?hg (N := 1) ?hd (cs := #[.int .i64 a0_0, .int .i64 a0_1, .int .i64 a0_2]) (t := 53) ?hr ?_; (case hd => rfl); (case hg => rfl); (case hr => first | (go_simp; done) | (go_simp; rfl)); intro gb18001 hg w60 hbox hb; have n0_ := Aside0.mk (below_step (by repeat (first | (with_reducible first | exact HB.out | apply below_alloc | apply pw_below_drewN | apply below_drew1) | exact HB.out)) hb); have n1_ := Aside0.mk (hbox); have n2_ := Aside0.mk ((by rw [hg]; exact (below_size (by repeat (first | (with_reducible first | exact HB.out | apply below_alloc | apply pw_below_drewN | apply below_drew1) | exact HB.out))) : w.heap.size ≤ gb18001)); have n3_ := Aside0.mk ((by rw [hg]; exact (below_size (by repeat (first | (with_reducible first | exact HB.out | apply below_alloc | apply pw_below_drewN | apply below_drew1) | exact HB.out))) : w.heap.size ≤ gb18001)); clear HB; have HB := n0_; have BK18001 := n1_; have GW18001 := n2_; have GE18001 := n3_; clear n0_ n1_ n2_ n3_; clear hb hbox hg) | ((with_reducible refine gate_callee (f := 10) rfl ?_); refine goesL_ (some 6) rfl rfl Try.func10 (by kernel_rfl) rfl #[] rfl (by (try simp only [List.map_toArray, List.map_cons, List.map_nil]); first | done | rfl | (simp only [List.length_drop, List.length_take]; rfl)) ?_; (with_reducible refine (guidevanelaw09_awake.calls  true _ A2.out).mono ?_); rintro e w61 ⟨rfl, hb⟩; refine ⟨_, rfl, ?_⟩; have n0_ := Aside0.mk (blk_below (g := gb18001) (o := .cells #[.int .i64 a0_0, .int .i64 a0_1, .int .i64 a0_2] 53 (0, 0)) (by (with_reducible repeat (first | refine blk_drewN ?_ _ | refine blk_drew ?_ | refine blk_alloc ?_ _)); exact BK18001.out) hb); have n1_ := Aside0.mk (below_step (by repeat (first | (with_reducible first | exact HB.out | apply below_alloc | apply pw_below_drewN | apply below_drew1 | refine below_set ?_ GE18001.out) | exact HB.out)) hb); clear BK18001; clear HB; have BK18001 := n0_; have HB := n1_; clear n0_ n1_; (try clear hb); (try clear hb2); (try clear hk); (try clear hi); have hcz62_0 : w61.cell? ⟨gb18001, 0, none⟩ = some (.int .i64 a0_0) := (blk_cell BK18001.out 0).trans rfl; have hcz62_1 : w61.cell? ⟨gb18001, 1, none⟩ = some (.int .i64 a0_1) := (blk_cell BK18001.out 1).trans rfl; have hcz62_2 : w61.cell? ⟨gb18001, 2, none⟩ = some (.int .i64 a0_2) := (blk_cell BK18001.out 2).trans rfl; have hfz62_0 := blk_frozen BK18001.out 0; have hfz62_1 := blk_frozen BK18001.out 1; have hfz62_2 := blk_frozen BK18001.out 2) | ((with_reducible refine gate_callee (f := 31) rfl ?_); refine goesL_ (some 10) rfl rfl Try.func31 (by kernel_rfl) rfl #[.agg #[.int .i64 a0_0, .int .i64 a0_1, .int .i64 a0_2]] rfl (by (try simp only [List.map_toArray, List.map_cons, List.map_nil]); first | done | rfl | (simp only [List.length_drop, List.length_take]; rfl)) ?_; (with_reducible refine (dam_TermsOf.calls a0_0 a0_1 a0_2 t18003 t18004 t18005 t18006 t18007 t18008 _ A4.out).mono ?_); rintro e w63 ⟨rfl, hb⟩; refine ⟨_, rfl, ?_⟩; have n0_ := Aside0.mk (blk_below (g := gb18001) (o := .cells #[.int .i64 a0_0, .int .i64 a0_1, .int .i64 a0_2] 53 (0, 0)) (by (with_reducible repeat (first | refine blk_drewN ?_ _ | refine blk_drew ?_ | refine blk_alloc ?_ _)); exact BK18001.out) hb); have n1_ := Aside0.mk (below_step (by repeat (first | (with_reducible first | exact HB.out | apply below_alloc | apply pw_below_drewN | apply below_drew1 | refine below_set ?_ GE18001.out) | exact HB.out)) hb); clear BK18001; clear HB; have BK18001 := n0_; have HB := n1_; clear n0_ n1_; (try clear hb); (try clear hb2); (try clear hk); (try clear hi)) | ((with_reducible refine gate_dst (N := 3) rfl ?_); refine box_event ?hg (N := 3) ?hd (cs := #[.int .i64 0, .int .i64 0, .int .i64 0, .int .i64 0, .int .i64 0]) (t := 54) ?hr ?_; (case hd => rfl); (case hg => rfl); (case hr => first | (go_simp; done) | (go_simp; rfl)); intro gb18009 hg w64 hbox hb; have n0_ := Aside0.mk (blk_below (g := gb18001) (o := .cells #[.int .i64 a0_0, .int .i64 a0_1, .int .i64 a0_2] 53 (0, 0)) (by (with_reducible repeat (first | refine blk_drewN ?_ _ | refine blk_drew ?_ | refine blk_alloc ?_ _)); exact BK18001.out) hb); have n1_ := Aside0.mk (below_step (by repeat (first | (with_reducible first | exact HB.out | apply below_alloc | apply pw_below_drewN | apply below_drew1 | refine below_set ?_ GE18001.out) | exact HB.out)) hb); have n2_ := Aside0.mk (hbox); have n3_ := Aside0.mk ((by rw [hg]; exact (below_size (by repeat (first | (with_reducible first | exact HB.out | apply below_alloc | apply pw_below_drewN | apply below_drew1 | refine below_set ?_ GE18001.out) | exact HB.out))) : w.heap.size ≤ gb18009)); have n4_ := Aside0.mk ((by rw [hg]; exact (below_size (by repeat (first | (with_reducible first | exact HB.out | apply below_alloc | apply pw_below_drewN | apply below_drew1 | refine below_set ?_ GE18001.out) | exact HB.out))) : w.heap.size ≤ gb18009)); have n5_ := Aside0.mk ((by rw [hg]; exact Nat.ne_of_lt (blk_lt (g := gb18001) (o := .cells #[.int .i64 a0_0, .int .i64 a0_1, .int .i64 a0_2] 53 (0, 0)) (by (with_reducible repeat (first | refine blk_drewN ?_ _ | refine blk_drew ?_ | refine blk_alloc ?_ _)); exact BK18001.out)) : gb18001 ≠ gb18009)); have n6_ := Aside0.mk ((by rw [hg]; exact Nat.ne_of_gt (blk_lt (g := gb18001) (o := .cells #[.int .i64 a0_0, .int .i64 a0_1, .int .i64 a0_2] 53 (0, 0)) (by (with_reducible repeat (first | refine blk_drewN ?_ _ | refine blk_drew ?_ | refine blk_alloc ?_ _)); exact BK18001.out)) : gb18009 ≠ gb18001)); clear BK18001; clear HB; have BK18001 := n0_; have HB := n1_; have BK18009 := n2_; have GW18009 := n3_; have GE18009 := n4_; have NB18001_18009 := n5_; have NB18009_18001 := n6_; clear n0_ n1_ n2_ n3_ n4_ n5_ n6_; clear hb hbox hg; have hnb65 := NB18009_18001.out; have hnc65 := NB18001_18009.out; have hcz66_0 : w64.cell? ⟨gb18009, 0, none⟩ = some (.int .i64 0) := (blk_cell BK18009.out 0).trans rfl; have hcz66_1 : w64.cell? ⟨gb18009, 1, none⟩ = some (.int .i64 0) := (blk_cell BK18009.out 1).trans rfl; have hcz66_2 : w64.cell? ⟨gb18009, 2, none⟩ = some (.int .i64 0) := (blk_cell BK18009.out 2).trans rfl; have hcz66_3 : w64.cell? ⟨gb18009, 3, none⟩ = some (.int .i64 0) := (blk_cell BK18009.out 3).trans rfl; have hcz66_4 : w64.cell? ⟨gb18009, 4, none⟩ = some (.int .i64 0) := (blk_cell BK18009.out 4).trans rfl; have hfz66_0 := blk_frozen BK18009.out 0; have hfz66_1 := blk_frozen BK18009.out 1; have hfz66_2 := blk_frozen BK18009.out 2; have hfz66_3 := blk_frozen BK18009.out 3; have hfz66_4 := blk_frozen BK18009.out 4; have hcz67_0 : w64.cell? ⟨gb18001, 0, none⟩ = some (.int .i64 a0_0) := (blk_cell BK18001.out 0).trans rfl; have hcz67_1 : w64.cell? ⟨gb18001, 1, none⟩ = some (.int .i64 a0_1) := (blk_cell BK18001.out 1).trans rfl; have hcz67_2 : w64.cell? ⟨gb18001, 2, none⟩ = some (.int .i64 a0_2) := (blk_cell BK18001.out 2).trans rfl; have hfz67_0 := blk_frozen BK18001.out 0; have hfz67_1 := blk_frozen BK18001.out 1; have hfz67_2 := blk_frozen BK18001.out 2) | ((with_reducible refine gate_callee (f := 32) rfl ?_); refine goesL_ (some 14) rfl rfl Try.func32 (by kernel_rfl) rfl #[.agg #[.int .i64 a0_0, .int .i64 a0_1, .int .i64 a0_2]] rfl (by (try simp only [List.map_toArray, List.map_cons, List.map_nil]); first | done | rfl | (simp only [List.length_drop, List.length_take]; rfl)) ?_; (with_reducible refine (guidevaneref09_ReadingErr.calls a0_0 a0_1 a0_2 t18010 _ A5.out).mono ?_); rintro e w68 ⟨rfl, hb⟩; refine ⟨_, rfl, ?_⟩; have n0_ := Aside0.mk (blk_below (g := gb18001) (o := .cells #[.int .i64 a0_0, .int .i64 a0_1, .int .i64 a0_2] 53 (0, 0)) (by (with_reducible repeat (first | refine blk_drewN ?_ _ | refine blk_drew ?_ | refine blk_alloc ?_ _)); refine blk_far ?_ NB18001_18009.out _; (with_reducible repeat (first | refine blk_drewN ?_ _ | refine blk_drew ?_ | refine blk_alloc ?_ _)); refine blk_far ?_ NB18001_18009.out _; (with_reducible repeat (first | refine blk_drewN ?_ _ | refine blk_drew ?_ | refine blk_alloc ?_ _)); refine blk_far ?_ NB18001_18009.out _; (with_reducible repeat (first | refine blk_drewN ?_ _ | refine blk_drew ?_ | refine blk_alloc ?_ _)); refine blk_far ?_ NB18001_18009.out _; (with_reducible repeat (first | refine blk_drewN ?_ _ | refine blk_drew ?_ | refine blk_alloc ?_ _)); refine blk_far ?_ NB18001_18009.out _; (with_reducible repeat (first | refine blk_drewN ?_ _ | refine blk_drew ?_ | refine blk_alloc ?_ _)); exact BK18001.out) hb); have n1_ := Aside0.mk (blk_below (g := gb18009) (o := .cells #[.int .i64 t18003, .int .i64 t18004, .int .i64 t18005, .int .i64 t18006, .int .i64 t18007] 54 (0, 0)) (by (with_reducible repeat (first | refine blk_drewN ?_ _ | refine blk_drew ?_ | refine blk_alloc ?_ _)); refine blk_put (cs := #[.int .i64 t18003, .int .i64 t18004, .int .i64 t18005, .int .i64 t18006, .int .i64 0]) ?_ 4 _ rfl; (with_reducible repeat (first | refine blk_drewN ?_ _ | refine blk_drew ?_ | refine blk_alloc ?_ _)); refine blk_put (cs := #[.int .i64 t18003, .int .i64 t18004, .int .i64 t18005, .int .i64 0, .int .i64 0]) ?_ 3 _ rfl; (with_reducible repeat (first | refine blk_drewN ?_ _ | refine blk_drew ?_ | refine blk_alloc ?_ _)); refine blk_put (cs := #[.int .i64 t18003, .int .i64 t18004, .int .i64 0, .int .i64 0, .int .i64 0]) ?_ 2 _ rfl; (with_reducible repeat (first | refine blk_drewN ?_ _ | refine blk_drew ?_ | refine blk_alloc ?_ _)); refine blk_put (cs := #[.int .i64 t18003, .int .i64 0, .int .i64 0, .int .i64 0, .int .i64 0]) ?_ 1 _ rfl; (with_reducible repeat (first | refine blk_drewN ?_ _ | refine blk_drew ?_ | refine blk_alloc ?_ _)); refine blk_put (cs := #[.int .i64 0, .int .i64 0, .int .i64 0, .int .i64 0, .int .i64 0]) ?_ 0 _ rfl; (with_reducible repeat (first | refine blk_drewN ?_ _ | refine blk_drew ?_ | refine blk_alloc ?_ _)); exact BK18009.out) hb); have n2_ := Aside0.mk (below_step (by repeat (first | (with_reducible first | exact HB.out | apply below_alloc | apply pw_below_drewN | apply below_drew1 | refine below_set ?_ GE18001.out | refine below_set ?_ GE18009.out) | exact HB.out)) hb); clear BK18001; clear BK18009; clear HB; have BK18001 := n0_; have BK18009 := n1_; have HB := n2_; clear n0_ n1_ n2_; (try clear hb); (try clear hb2); (try clear hk); (try clear hi); have hcz69_0 : w68.cell? ⟨gb18001, 0, none⟩ = some (.int .i64 a0_0) := (blk_cell BK18001.out 0).trans rfl; have hcz69_1 : w68.cell? ⟨gb18001, 1, none⟩ = some (.int .i64 a0_1) := (blk_cell BK18001.out 1).trans rfl; have hcz69_2 : w68.cell? ⟨gb18001, 2, none⟩ = some (.int .i64 a0_2) := (blk_cell BK18001.out 2).trans rfl; have hfz69_0 := blk_frozen BK18001.out 0; have hfz69_1 := blk_frozen BK18001.out 1; have hfz69_2 := blk_frozen BK18001.out 2) | ((with_reducible refine gate_callee (f := 33) rfl ?_); refine goesL_ (some 16) rfl rfl Try.func33 (by kernel_rfl) rfl #[.agg #[.int .i64 a0_0, .int .i64 a0_1, .int .i64 a0_2]] rfl (by (try simp only [List.map_toArray, List.map_cons, List.map_nil]); first | done | rfl | (simp only [List.length_drop, List.length_take]; rfl)) ?_; (with_reducible refine (dam_CheckReading.calls a0_0 a0_1 a0_2 t18011 _ A6.out).mono ?_); rintro e w70 ⟨rfl, hb⟩; refine ⟨_, rfl, ?_⟩; have n0_ := Aside0.mk (blk_below (g := gb18001) (o := .cells #[.int .i64 a0_0, .int .i64 a0_1, .int .i64 a0_2] 53 (0, 0)) (by (with_reducible repeat (first | refine blk_drewN ?_ _ | refine blk_drew ?_ | refine blk_alloc ?_ _)); exact BK18001.out) hb); have n1_ := Aside0.mk (blk_below (g := gb18009) (o := .cells #[.int .i64 t18003, .int .i64 t18004, .int .i64 t18005, .int .i64 t18006, .int .i64 t18007] 54 (0, 0)) (by (with_reducible repeat (first | refine blk_drewN ?_ _ | refine blk_drew ?_ | refine blk_alloc ?_ _)); exact BK18009.out) hb); have n2_ := Aside0.mk (below_step (by repeat (first | (with_reducible first | exact HB.out | apply below_alloc | apply pw_below_drewN | apply below_drew1 | refine below_set ?_ GE18001.out | refine below_set ?_ GE18009.out) | exact HB.out)) hb); clear BK18001; clear BK18009; clear HB; have BK18001 := n0_; have BK18009 := n1_; have HB := n2_; clear n0_ n1_ n2_; (try clear hb); (try clear hb2); (try clear hk); (try clear hi)))
      go_ret
      exact ⟨by first | rfl | (simp [errW_none, errW_some] <;> rfl) | (simp [*, errW_none, errW_some] <;> rfl), by repeat (first | (with_reducible first | exact HB.out | apply below_alloc | apply pw_below_drewN | apply below_drew1 | refine below_set ?_ GE18001.out | refine below_set ?_ GE18009.out) | exact HB.out)⟩
  · replace c3 := Bool.eq_false_iff.mpr c3
    subst c3
    have H1 : (some false) = some r := by rw [if_neg (show ¬ (false = true) by decide)] at H; exact H
    clear H
    have H := H1
    clear H1
    obtain rfl := Option.some.inj H
    go_enter Try.func6, Try.ntmps6
    go_wp2_with (first | ((with_reducible refine gate_dst (N := 1) rfl ?_); refine box_event ?hg (N := 1) ?hd (cs := #[.int .i64 a0_0, .int .i64 a0_1, .int .i64 a0_2]) (t := 53) ?hr ?_; (case hd => rfl); (case hg => rfl); (case hr => first | (go_simp; done) | (go_simp; rfl)); intro gb18001 hg w71 hbox hb; have n0_ := Aside0.mk (below_step (by repeat (first | (with_reducible first | exact HB.out | apply below_alloc | apply pw_below_drewN | apply below_drew1) | exact HB.out)) hb); have n1_ := Aside0.mk (hbox); have n2_ := Aside0.mk ((by rw [hg]; exact (below_size (by repeat (first | (with_reducible first | exact HB.out | apply below_alloc | apply pw_below_drewN | apply below_drew1) | exact HB.out))) : w.heap.size ≤ gb18001)); have n3_ := Aside0.mk ((by rw [hg]; exact (below_size (by repeat (first | (with_reducible first | exact HB.out | apply below_alloc | apply pw_below_drewN | apply below_drew1) | exact HB.out))) : w.heap.size ≤ gb18001)); clear HB; have HB := n0_; have BK18001 := n1_; have GW18001 := n2_; have GE18001 := n3_; clear n0_ n1_ n2_ n3_; clear hb hbox hg) | ((with_reducible refine gate_callee (f := 10) rfl ?_); refine goesL_ (some 6) rfl rfl Try.func10 (by kernel_rfl) rfl #[] rfl (by (try simp only [List.map_toArray, List.map_cons, List.map_nil]); first | done | rfl | (simp only [List.length_drop, List.length_take]; rfl)) ?_; (with_reducible refine (guidevanelaw09_awake.calls  false _ A2.out).mono ?_); rintro e w72 ⟨rfl, hb⟩; refine ⟨_, rfl, ?_⟩; have n0_ := Aside0.mk (blk_below (g := gb18001) (o := .cells #[.int .i64 a0_0, .int .i64 a0_1, .int .i64 a0_2] 53 (0, 0)) (by (with_reducible repeat (first | refine blk_drewN ?_ _ | refine blk_drew ?_ | refine blk_alloc ?_ _)); exact BK18001.out) hb); have n1_ := Aside0.mk (below_step (by repeat (first | (with_reducible first | exact HB.out | apply below_alloc | apply pw_below_drewN | apply below_drew1 | refine below_set ?_ GE18001.out) | exact HB.out)) hb); clear BK18001; clear HB; have BK18001 := n0_; have HB := n1_; clear n0_ n1_; (try clear hb); (try clear hb2); (try clear hk); (try clear hi)))
    go_ret
    exact ⟨by first | rfl | (simp [errW_none, errW_some] <;> rfl) | (simp [*, errW_none, errW_some] <;> rfl), by repeat (first | (with_reducible first | exact HB.out | apply below_alloc | apply pw_below_drewN | apply below_drew1 | refine below_set ?_ GE18001.out) | exact HB.out)⟩

end Go.Proofs.Yteopooljohdoiaa.Px

/- DamTerms' pure law: the terms of a reading, and the errors, are as the reference has them. -/
set_option linter.unusedVariables false
set_option linter.unusedSimpArgs false
namespace Go.Proofs.Yteopooljohdoiaa.Px
open Go.RowKit Go.Proofs.YteopooljohdoiaaW.PrintWords Go.Proofs.YteopooljohdoiaaW.PrintLast

def rdOk (d l m : Int) : Bool := decide (0 ≤ d) && decide (d ≤ 36000) && (decide (-50 ≤ l) && decide (l ≤ 50)) && (decide (-2000 ≤ m) && decide (m ≤ 2000))
theorem dsized_f (a b : Int) (h : -9223372036854775808 ≤ -b ∧ -b ≤ 9223372036854775807) : dam_isSized.f a b = some (decide (-b ≤ a) && decide (a ≤ b)) := by
  unfold dam_isSized.f
  rw [dwithin_f]
  have : wrap64 (-b) = -b := by unfold wrap64; omega
  rw [this]; rfl
theorem checkReading_f (d l m : Int) : dam_CheckReading.f d l m = some (if rdOk d l m = true then 0 else 2) := by
  unfold dam_CheckReading.f rdOk
  rw [dwithin_f, dsized_f _ _ (by omega), dsized_f _ _ (by omega)]
  cases (decide (0 ≤ d) && decide (d ≤ 36000)) <;> cases (decide (-50 ≤ l) && decide (l ≤ 50)) <;> cases (decide (-2000 ≤ m) && decide (m ≤ 2000)) <;> rfl
theorem readingErr_f (d l m : Int) : guidevaneref09_ReadingErr.f d l m = some (if rdOk d l m = true then 0 else 2) := by
  unfold guidevaneref09_ReadingErr.f rdOk
  rw [bwithin_f, bwithin_f, bwithin_f]
  cases (decide (0 ≤ d) && decide (d ≤ 36000)) <;> cases (decide (-50 ≤ l) && decide (l ≤ 50)) <;> cases (decide (-2000 ≤ m) && decide (m ≤ 2000)) <;> rfl
theorem rdOk_bd {d l m : Int} (h : rdOk d l m = true) : (0 ≤ d ∧ d ≤ 36000) ∧ (-50 ≤ l ∧ l ≤ 50) ∧ (-2000 ≤ m ∧ m ≤ 2000) := by
  unfold rdOk at h
  simp only [Bool.and_eq_true, decide_eq_true_eq] at h
  omega
theorem rterms_f (d l m : Int) (h : 0 ≤ d ∧ d ≤ 36000) : guidevaneref09_Terms.f d l m = some (1, l, season0 (d % 360 * 4 / 360), season1 (d % 360 * 4 / 360), d / 360) := by
  unfold guidevaneref09_Terms.f
  have e1 : wrap64 (Int.tdiv (Int.tmod d 360) 90) = d % 360 * 4 / 360 := by
    rw [Int.tmod_eq_emod_of_nonneg h.1, Int.tdiv_eq_ediv_of_nonneg (by omega)]
    unfold wrap64; omega
  have e2 : wrap64 (Int.tdiv d 360) = d / 360 := by
    rw [Int.tdiv_eq_ediv_of_nonneg h.1]
    unfold wrap64; omega
  rw [e1, e2]
  have hq : d % 360 * 4 / 360 = 0 ∨ d % 360 * 4 / 360 = 1 ∨ d % 360 * 4 / 360 = 2 ∨ d % 360 * 4 / 360 = 3 := by omega
  rcases hq with hq | hq | hq | hq <;> rw [hq] <;> rfl
theorem termsOf_f (d l m : Int) : dam_TermsOf.f d l m = some (if rdOk d l m = true then (1, l, season0 (d % 360 * 4 / 360), season1 (d % 360 * 4 / 360), d / 360, 0) else (0, 0, 0, 0, 0, 2)) := by
  unfold dam_TermsOf.f
  rw [checkReading_f]
  cases h : rdOk d l m
  · rfl
  · have hb := (rdOk_bd h).1
    simp only [Option.bind_some, if_true]
    unfold dam_terms.f
    rw [if_pos hb]; rfl
theorem DamTerms_pure (d l m : Int) : guidevanelaw09_DamTerms.f d l m = some true := by
  unfold guidevanelaw09_DamTerms.f
  rw [show guidevanelaw09_awake.f = some true from rfl, termsOf_f, checkReading_f, readingErr_f]
  cases h : rdOk d l m
  · rfl
  · have hb := (rdOk_bd h).1
    simp only [Option.bind_some, if_true]
    rw [rterms_f d l m hb]
    simp
end Go.Proofs.Yteopooljohdoiaa.Px
