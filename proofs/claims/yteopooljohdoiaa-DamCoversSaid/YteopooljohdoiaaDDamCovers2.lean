/- DamCovers: for every input the call returns true and each argument reads afterwards as it read before; no condition. (its contracts and its pure law) -/
import Derived.Test.YteopooljohdoiaaK1
import Derived.Test.YteopooljohdoiaaK2
import Derived.Test.YteopooljohdoiaaK3
import Derived.Test.YteopooljohdoiaaDDamCovers1
set_option linter.unusedVariables false
set_option linter.unusedSimpArgs false
namespace Go.Proofs.Yteopooljohdoiaa.Px
open Go.RowKit Go.Proofs.YteopooljohdoiaaW.PrintWords Go.Proofs.YteopooljohdoiaaW.PrintLast Go.Proofs.YteopooljohdoiaaW.PrintMore
attribute [local go_sem] max2_int min2_int max_two min_two max_three min_three max_four min_four
mutual
def guidevanelaw09_DamCovers.j0 : Nat → Bool → List (S112) → List Int → Option (Bool)
  | 0, _, _, _ => none
  | k + 1, x22, x12002000, x12002001 => if x22 = true then (some true) else ((guidevaneref09_CopyValley.f x12002000 x12002001).bind fun bt12005 => ((dam_CheckValley.f bt12005.1 bt12005.2).bind fun bt12011 => ((guidevaneref09_CopyValley.f x12002000 x12002001).bind fun bt12013 => ((dam_CoverOf.f k bt12013.1 bt12013.2).bind fun bt12019 => ((guidevaneref09_CopyValley.f x12002000 x12002001).bind fun bt12023 => ((dam_PackingOf.f bt12023.1 bt12023.2).bind fun bt12029 => ((guidevaneref09_CheckValley.f k x12002000 x12002001).bind fun bt12033 => (if bt12011.2 = bt12033.2 then (guidevanelaw09_DamCovers.j1 k bt12019.1 bt12019.2 bt12029.1 bt12029.2 bt12033.2 (bt12011.1 != bt12033.1) x12002000 x12002001) else (guidevanelaw09_DamCovers.j1 k bt12019.1 bt12019.2 bt12029.1 bt12029.2 bt12033.2 true x12002000 x12002001)))))))))
def guidevanelaw09_DamCovers.j1 : Nat → List Int → Int → List Int → Int → Int → Bool → List (S112) → List Int → Option (Bool)
  | 0, _, _, _, _, _, _, _, _ => none
  | k + 1, x5, x6, x7, x8, x10, x53, x12002000, x12002001 => if x53 = true then (some false) else (if x10 = 0 then ((guidevaneref09_Cover.f k x12002000 x12002001).bind fun bt12035 => (if bt12035.2 = true then (if x6 = 0 then ((guidevanebase_Ints.f k x5 bt12035.1).bind fun t12039 => (if t12039 = true then (if x8 = 0 then (some ((x7.length : Int) == (bt12035.1.length : Int))) else (some false)) else (some false))) else (some false)) else (if x6 = 12 then (if x8 = 12 then (some ((wrap64 ((x5.length : Int) + (x7.length : Int))) == 0)) else (some false)) else (some false)))) else (if x6 = x10 then (if x8 = x10 then (some ((wrap64 ((x5.length : Int) + (x7.length : Int))) == 0)) else (some false)) else (some false)))
end
def guidevanelaw09_DamCovers.f (k : Nat) (l0_0 : List (S112)) (l0_1 : List Int) : Option (Bool) := (guidevanelaw09_awake.f).bind fun t12002 => (if t12002 = true then ((guidevanelaw09_fewSirens.f l0_0 l0_1).bind fun t12003 => (if t12003 = true then ((guidevanelaw09_lightValley.f k l0_0 l0_1).bind fun t12004 => (guidevanelaw09_DamCovers.j0 k (!t12004) l0_0 l0_1)) else (guidevanelaw09_DamCovers.j0 k true l0_0 l0_1))) else (some false))
set_option maxHeartbeats 8000000 in
set_option maxRecDepth 100000 in
theorem guidevanelaw09_DamCovers.calls (k : Nat) (A0_0 : Option Addr) (c0_0 : Nat) (l0_0 : List (S112)) (A0_1 : Option Addr) (c0_1 : Nat) (l0_1 : List Int) (r : Bool) (w : World) (hr0_0 : Kd.C k112 w A0_0 l0_0.length l0_0) (hc0_0 : l0_0.length ≤ c0_0) (hr0_1 : Kd.C (Kd.int .i64) w A0_1 l0_1.length l0_1) (hc0_1 : l0_1.length ≤ c0_1) (h : guidevanelaw09_DamCovers.f k l0_0 l0_1 = some r) :
    Calls Try.prog 4 #[.agg #[.slice A0_0 l0_0.length c0_0, .slice A0_1 l0_1.length c0_1]] w fun e w' => e = .returned (.bool r) ∧ Below w.heap.size w w' := by
  have hu39 := Try.underlying39
  have HR0_0 := Aside0.mk hr0_0
  have HC0_0 := Aside0.mk hc0_0
  clear hr0_0 hc0_0
  have HR0_1 := Aside0.mk hr0_1
  have HC0_1 := Aside0.mk hc0_1
  clear hr0_1 hc0_1
  have HB := Aside0.mk (Below.refl w.heap.size w)
  have H : ((guidevanelaw09_awake.f).bind fun t12002 => (if t12002 = true then ((guidevanelaw09_fewSirens.f l0_0 l0_1).bind fun t12003 => (if t12003 = true then ((guidevanelaw09_lightValley.f k l0_0 l0_1).bind fun t12004 => (guidevanelaw09_DamCovers.j0 k (!t12004) l0_0 l0_1)) else (guidevanelaw09_DamCovers.j0 k true l0_0 l0_1))) else (some false))) = some r := h
  clear h
  replace H := Option.bind_eq_some_iff.mp H
  obtain ⟨t12002, A20, H⟩ := H
  replace H : (if t12002 = true then ((guidevanelaw09_fewSirens.f l0_0 l0_1).bind fun t12003 => (if t12003 = true then ((guidevanelaw09_lightValley.f k l0_0 l0_1).bind fun t12004 => (guidevanelaw09_DamCovers.j0 k (!t12004) l0_0 l0_1)) else (guidevanelaw09_DamCovers.j0 k true l0_0 l0_1))) else (some false)) = some r := H
  have A2 := Aside0.mk A20
  clear A20
  by_cases c3 : t12002 = true
  · subst c3
    have H1 : ((guidevanelaw09_fewSirens.f l0_0 l0_1).bind fun t12003 => (if t12003 = true then ((guidevanelaw09_lightValley.f k l0_0 l0_1).bind fun t12004 => (guidevanelaw09_DamCovers.j0 k (!t12004) l0_0 l0_1)) else (guidevanelaw09_DamCovers.j0 k true l0_0 l0_1))) = some r := by rw [if_pos rfl] at H; exact H
    clear H
    have H := H1
    clear H1
    have HC4 := Aside0.mk H
    clear H
    go_enter Try.func4, Try.ntmps4
    go_upto_region 3 with (first | ((with_reducible refine gate_dst (N := 1) rfl ?_); (try (refine gate_guard (by rfl) ?_; dsimp only)); refine box_event ?hg (N := 1) ?hd (cs := #[.slice A0_0 l0_0.length c0_0, .slice A0_1 l0_1.length c0_1]) (t := 39) ?hr ?_; (case hd => rfl); (case hg => rfl); (case hr => first | (go_simp; done) | (go_simp; rfl)); intro gb12001 hg w5 hbox hb; have n0_ := Aside0.mk (below_step (bel HB.out) hb); have n1_ := Aside0.mk (hbox); have n2_ := Aside0.mk ((by rw [hg]; exact (below_size (bel HB.out)) : w.heap.size ≤ gb12001)); have n3_ := Aside0.mk ((by rw [hg]; exact (below_size (bel HB.out)) : w.heap.size ≤ gb12001)); clear HB; have HB := n0_; have BK12001 := n1_; have GW12001 := n2_; have GE12001 := n3_; clear n0_ n1_ n2_ n3_; clear hb hbox hg) | ((with_reducible refine gate_callee (f := 10) rfl ?_); refine goesL_ (some 13) rfl rfl Try.func10 (by kernel_rfl) rfl #[] rfl mpa ?_; (with_reducible refine (guidevanelaw09_awake.calls  true _ A2.out).mono ?_); rintro e w6 ⟨rfl, hb⟩; refine ⟨_, rfl, ?_⟩; have n0_ := Aside0.mk (blk_below (g := gb12001) (o := .cells #[.slice A0_0 l0_0.length c0_0, .slice A0_1 l0_1.length c0_1] 39 (0, 0)) (bkl BK12001.out) hb); have n1_ := Aside0.mk (below_step (belS HB.out GE12001.out) hb); clear BK12001; clear HB; have BK12001 := n0_; have HB := n1_; clear n0_ n1_; (try clear hb); (try clear hb2); (try clear hk); (try clear hi)))
    (try simp only [Act.put, List.setIfInBounds_toArray, List.set_cons_zero, List.set_cons_succ])
    go_cut [22] (fun v22 wc => ∃ (kq : Nat) (x22_3 : Bool), v22 = .bool x22_3 ∧ Aside0 (guidevanelaw09_DamCovers.j0 kq x22_3 l0_0 l0_1 = some r) ∧ Aside0 (kq ≤ k) ∧ Aside0 (wc.heap[gb12001]? = some (.cells #[(.slice A0_0 l0_0.length c0_0), (.slice A0_1 l0_1.length c0_1)] 39 (0, 0))) ∧ Aside0 (Below w.heap.size w wc))
    case first =>
      have H := HC4.out
      clear HC4
      replace H := Option.bind_eq_some_iff.mp H
      obtain ⟨t12003, A70, H⟩ := H
      replace H : (if t12003 = true then ((guidevanelaw09_lightValley.f k l0_0 l0_1).bind fun t12004 => (guidevanelaw09_DamCovers.j0 k (!t12004) l0_0 l0_1)) else (guidevanelaw09_DamCovers.j0 k true l0_0 l0_1)) = some r := H
      have A7 := Aside0.mk A70
      clear A70
      by_cases c8 : t12003 = true
      · subst c8
        have H1 : ((guidevanelaw09_lightValley.f k l0_0 l0_1).bind fun t12004 => (guidevanelaw09_DamCovers.j0 k (!t12004) l0_0 l0_1)) = some r := by rw [if_pos rfl] at H; exact H
        clear H
        have H := H1
        clear H1
        replace H := Option.bind_eq_some_iff.mp H
        obtain ⟨t12004, A90, H⟩ := H
        replace H : (guidevanelaw09_DamCovers.j0 k (!t12004) l0_0 l0_1) = some r := H
        have A9 := Aside0.mk A90
        clear A90
        have H' := Aside0.mk H
        clear H
        have hcz10_0 : w6.cell? ⟨gb12001, 0, none⟩ = some (.slice A0_0 l0_0.length c0_0) := (blk_cell BK12001.out 0).trans rfl
        have hcz10_1 : w6.cell? ⟨gb12001, 1, none⟩ = some (.slice A0_1 l0_1.length c0_1) := (blk_cell BK12001.out 1).trans rfl
        have hfz10_0 := blk_frozen BK12001.out 0
        have hfz10_1 := blk_frozen BK12001.out 1
        go_wp2_with (first | ((with_reducible refine gate_callee (f := 18) rfl ?_); refine goesL_ (some 16) rfl rfl Try.func18 (by kernel_rfl) rfl #[.agg #[.slice A0_0 l0_0.length c0_0, .slice A0_1 l0_1.length c0_1]] rfl mpa ?_; (with_reducible refine (guidevanelaw09_fewSirens.calls _ _ l0_0 _ _ l0_1 true _ ?side1 ?side2 ?side3 ?side4 A7.out).mono ?_); (case side1 => repeat (first | exact (Kd.C_below HR0_0.out HB.out) | (with_reducible refine Kd.C_alloc ?_ _) | (with_reducible refine Kd.C_drewN ?_ _) | (with_reducible refine Kd.C_drew ?_))); (case side2 => exact HC0_0.out); (case side3 => repeat (first | exact (Kd.C_below HR0_1.out HB.out) | (with_reducible refine Kd.C_alloc ?_ _) | (with_reducible refine Kd.C_drewN ?_ _) | (with_reducible refine Kd.C_drew ?_))); (case side4 => exact HC0_1.out); rintro e w11 ⟨rfl, hb⟩; refine ⟨_, rfl, ?_⟩; have n0_ := Aside0.mk (blk_below (g := gb12001) (o := .cells #[.slice A0_0 l0_0.length c0_0, .slice A0_1 l0_1.length c0_1] 39 (0, 0)) (bkl BK12001.out) hb); have n1_ := Aside0.mk (below_step (belS HB.out GE12001.out) hb); clear BK12001; clear HB; have BK12001 := n0_; have HB := n1_; clear n0_ n1_; (try clear hb); (try clear hb2); (try clear hk); (try clear hi); have hcz12_0 : w11.cell? ⟨gb12001, 0, none⟩ = some (.slice A0_0 l0_0.length c0_0) := (blk_cell BK12001.out 0).trans rfl; have hcz12_1 : w11.cell? ⟨gb12001, 1, none⟩ = some (.slice A0_1 l0_1.length c0_1) := (blk_cell BK12001.out 1).trans rfl; have hfz12_0 := blk_frozen BK12001.out 0; have hfz12_1 := blk_frozen BK12001.out 1) | (go_at_call 19; (with_reducible refine (guidevanelaw09_lightValley.calls k _ _ l0_0 _ _ l0_1 t12004 _ ?side1 ?side2 ?side3 ?side4 A9.out).mono ?_); (case side1 => repeat (first | exact (Kd.C_below HR0_0.out HB.out) | (with_reducible refine Kd.C_alloc ?_ _) | (with_reducible refine Kd.C_drewN ?_ _) | (with_reducible refine Kd.C_drew ?_))); (case side2 => exact HC0_0.out); (case side3 => repeat (first | exact (Kd.C_below HR0_1.out HB.out) | (with_reducible refine Kd.C_alloc ?_ _) | (with_reducible refine Kd.C_drewN ?_ _) | (with_reducible refine Kd.C_drew ?_))); (case side4 => exact HC0_1.out); rintro e w13 ⟨rfl, hb⟩; have n0_ := Aside0.mk (blk_below (g := gb12001) (o := .cells #[.slice A0_0 l0_0.length c0_0, .slice A0_1 l0_1.length c0_1] 39 (0, 0)) (bkl BK12001.out) hb); have n1_ := Aside0.mk (below_step (belS HB.out GE12001.out) hb); clear BK12001; clear HB; have BK12001 := n0_; have HB := n1_; clear n0_ n1_; (try clear hb); (try clear hb2); (try clear hk); (try clear hi)))
        go_meet
        case rel => exact ⟨_, (!t12004), (by first | rfl | (simp; done) | (simp [*]; done)), H', ⟨by first | omega | exact Nat.le_refl _⟩, ⟨bkl BK12001.out⟩, ⟨belS HB.out GE12001.out⟩⟩
      · replace c8 := Bool.eq_false_iff.mpr c8
        subst c8
        have H1 : (guidevanelaw09_DamCovers.j0 k true l0_0 l0_1) = some r := by rw [if_neg (show ¬ (false = true) by decide)] at H; exact H
        clear H
        have H := H1
        clear H1
        have H' := Aside0.mk H
        clear H
        have hcz14_0 : w6.cell? ⟨gb12001, 0, none⟩ = some (.slice A0_0 l0_0.length c0_0) := (blk_cell BK12001.out 0).trans rfl
        have hcz14_1 : w6.cell? ⟨gb12001, 1, none⟩ = some (.slice A0_1 l0_1.length c0_1) := (blk_cell BK12001.out 1).trans rfl
        have hfz14_0 := blk_frozen BK12001.out 0
        have hfz14_1 := blk_frozen BK12001.out 1
        go_wp2_with (first | ((with_reducible refine gate_callee (f := 18) rfl ?_); refine goesL_ (some 16) rfl rfl Try.func18 (by kernel_rfl) rfl #[.agg #[.slice A0_0 l0_0.length c0_0, .slice A0_1 l0_1.length c0_1]] rfl mpa ?_; (with_reducible refine (guidevanelaw09_fewSirens.calls _ _ l0_0 _ _ l0_1 false _ ?side1 ?side2 ?side3 ?side4 A7.out).mono ?_); (case side1 => repeat (first | exact (Kd.C_below HR0_0.out HB.out) | (with_reducible refine Kd.C_alloc ?_ _) | (with_reducible refine Kd.C_drewN ?_ _) | (with_reducible refine Kd.C_drew ?_))); (case side2 => exact HC0_0.out); (case side3 => repeat (first | exact (Kd.C_below HR0_1.out HB.out) | (with_reducible refine Kd.C_alloc ?_ _) | (with_reducible refine Kd.C_drewN ?_ _) | (with_reducible refine Kd.C_drew ?_))); (case side4 => exact HC0_1.out); rintro e w15 ⟨rfl, hb⟩; refine ⟨_, rfl, ?_⟩; have n0_ := Aside0.mk (blk_below (g := gb12001) (o := .cells #[.slice A0_0 l0_0.length c0_0, .slice A0_1 l0_1.length c0_1] 39 (0, 0)) (bkl BK12001.out) hb); have n1_ := Aside0.mk (below_step (belS HB.out GE12001.out) hb); clear BK12001; clear HB; have BK12001 := n0_; have HB := n1_; clear n0_ n1_; (try clear hb); (try clear hb2); (try clear hk); (try clear hi)))
        go_meet
        case rel => exact ⟨_, (true), (by first | rfl | (simp; done) | (simp [*]; done)), H', ⟨by first | omega | exact Nat.le_refl _⟩, ⟨bkl BK12001.out⟩, ⟨belS HB.out GE12001.out⟩⟩
    case rest =>
      clear HC4
      try clear c1
      try clear p2
      try clear c3
      try clear c4
      try clear c8
      try clear c10
      try clear hcz10_0
      try clear hcz10_1
      try clear hcz12_0
      try clear hcz12_1
      try clear hcz14_0
      try clear hcz14_1
      try clear hfz10_0
      try clear hfz10_1
      try clear hfz12_0
      try clear hfz12_1
      try clear hfz14_0
      try clear hfz14_1
      obtain ⟨kq, x22_3, rfl, HA, HJ3, BK12001, HB⟩ := hcut
      cases kq with
      | zero => exact absurd HA.out (by simp [guidevanelaw09_DamCovers.j0])
      | succ kj3 =>
        have H := HA.out
        clear HA
        simp only [guidevanelaw09_DamCovers.j0] at H
        by_cases c16 : x22_3 = true
        · subst c16
          have H1 : (some true) = some r := by rw [if_pos rfl] at H; exact H
          clear H
          have H := H1
          clear H1
          obtain rfl := Option.some.inj H
          go_wp2
          go_ret
          exact ⟨by first | rfl | (simp [errW_none, errW_some] <;> rfl) | (simp [*, errW_none, errW_some] <;> rfl), belS HB.out GE12001.out⟩
        · replace c16 := Bool.eq_false_iff.mpr c16
          subst c16
          have H1 : ((guidevaneref09_CopyValley.f l0_0 l0_1).bind fun bt12005 => ((dam_CheckValley.f bt12005.1 bt12005.2).bind fun bt12011 => ((guidevaneref09_CopyValley.f l0_0 l0_1).bind fun bt12013 => ((dam_CoverOf.f kj3 bt12013.1 bt12013.2).bind fun bt12019 => ((guidevaneref09_CopyValley.f l0_0 l0_1).bind fun bt12023 => ((dam_PackingOf.f bt12023.1 bt12023.2).bind fun bt12029 => ((guidevaneref09_CheckValley.f kj3 l0_0 l0_1).bind fun bt12033 => (if bt12011.2 = bt12033.2 then (guidevanelaw09_DamCovers.j1 kj3 bt12019.1 bt12019.2 bt12029.1 bt12029.2 bt12033.2 (bt12011.1 != bt12033.1) l0_0 l0_1) else (guidevanelaw09_DamCovers.j1 kj3 bt12019.1 bt12019.2 bt12029.1 bt12029.2 bt12033.2 true l0_0 l0_1))))))))) = some r := by rw [if_neg (show ¬ (false = true) by decide)] at H; exact H
          clear H
          have H := H1
          clear H1
          replace H := Option.bind_eq_some_iff.mp H
          obtain ⟨⟨t12005, t12008⟩, A170, H⟩ := H
          replace H : ((dam_CheckValley.f t12005 t12008).bind fun bt12011 => ((guidevaneref09_CopyValley.f l0_0 l0_1).bind fun bt12013 => ((dam_CoverOf.f kj3 bt12013.1 bt12013.2).bind fun bt12019 => ((guidevaneref09_CopyValley.f l0_0 l0_1).bind fun bt12023 => ((dam_PackingOf.f bt12023.1 bt12023.2).bind fun bt12029 => ((guidevaneref09_CheckValley.f kj3 l0_0 l0_1).bind fun bt12033 => (if bt12011.2 = bt12033.2 then (guidevanelaw09_DamCovers.j1 kj3 bt12019.1 bt12019.2 bt12029.1 bt12029.2 bt12033.2 (bt12011.1 != bt12033.1) l0_0 l0_1) else (guidevanelaw09_DamCovers.j1 kj3 bt12019.1 bt12019.2 bt12029.1 bt12029.2 bt12033.2 true l0_0 l0_1)))))))) = some r := H
          have A17 := Aside0.mk A170
          clear A170
          replace H := Option.bind_eq_some_iff.mp H
          obtain ⟨⟨t12011, t12012⟩, A180, H⟩ := H
          replace H : ((guidevaneref09_CopyValley.f l0_0 l0_1).bind fun bt12013 => ((dam_CoverOf.f kj3 bt12013.1 bt12013.2).bind fun bt12019 => ((guidevaneref09_CopyValley.f l0_0 l0_1).bind fun bt12023 => ((dam_PackingOf.f bt12023.1 bt12023.2).bind fun bt12029 => ((guidevaneref09_CheckValley.f kj3 l0_0 l0_1).bind fun bt12033 => (if t12012 = bt12033.2 then (guidevanelaw09_DamCovers.j1 kj3 bt12019.1 bt12019.2 bt12029.1 bt12029.2 bt12033.2 (t12011 != bt12033.1) l0_0 l0_1) else (guidevanelaw09_DamCovers.j1 kj3 bt12019.1 bt12019.2 bt12029.1 bt12029.2 bt12033.2 true l0_0 l0_1))))))) = some r := H
          have A18 := Aside0.mk A180
          clear A180
          replace H := Option.bind_eq_some_iff.mp H
          obtain ⟨⟨t12013, t12016⟩, A190, H⟩ := H
          replace H : ((dam_CoverOf.f kj3 t12013 t12016).bind fun bt12019 => ((guidevaneref09_CopyValley.f l0_0 l0_1).bind fun bt12023 => ((dam_PackingOf.f bt12023.1 bt12023.2).bind fun bt12029 => ((guidevaneref09_CheckValley.f kj3 l0_0 l0_1).bind fun bt12033 => (if t12012 = bt12033.2 then (guidevanelaw09_DamCovers.j1 kj3 bt12019.1 bt12019.2 bt12029.1 bt12029.2 bt12033.2 (t12011 != bt12033.1) l0_0 l0_1) else (guidevanelaw09_DamCovers.j1 kj3 bt12019.1 bt12019.2 bt12029.1 bt12029.2 bt12033.2 true l0_0 l0_1)))))) = some r := H
          have A19 := Aside0.mk A190
          clear A190
          replace H := Option.bind_eq_some_iff.mp H
          obtain ⟨⟨t12019, t12022⟩, A200, H⟩ := H
          replace H : ((guidevaneref09_CopyValley.f l0_0 l0_1).bind fun bt12023 => ((dam_PackingOf.f bt12023.1 bt12023.2).bind fun bt12029 => ((guidevaneref09_CheckValley.f kj3 l0_0 l0_1).bind fun bt12033 => (if t12012 = bt12033.2 then (guidevanelaw09_DamCovers.j1 kj3 t12019 t12022 bt12029.1 bt12029.2 bt12033.2 (t12011 != bt12033.1) l0_0 l0_1) else (guidevanelaw09_DamCovers.j1 kj3 t12019 t12022 bt12029.1 bt12029.2 bt12033.2 true l0_0 l0_1))))) = some r := H
          have A20 := Aside0.mk A200
          clear A200
          replace H := Option.bind_eq_some_iff.mp H
          obtain ⟨⟨t12023, t12026⟩, A210, H⟩ := H
          replace H : ((dam_PackingOf.f t12023 t12026).bind fun bt12029 => ((guidevaneref09_CheckValley.f kj3 l0_0 l0_1).bind fun bt12033 => (if t12012 = bt12033.2 then (guidevanelaw09_DamCovers.j1 kj3 t12019 t12022 bt12029.1 bt12029.2 bt12033.2 (t12011 != bt12033.1) l0_0 l0_1) else (guidevanelaw09_DamCovers.j1 kj3 t12019 t12022 bt12029.1 bt12029.2 bt12033.2 true l0_0 l0_1)))) = some r := H
          have A21 := Aside0.mk A210
          clear A210
          replace H := Option.bind_eq_some_iff.mp H
          obtain ⟨⟨t12029, t12032⟩, A220, H⟩ := H
          replace H : ((guidevaneref09_CheckValley.f kj3 l0_0 l0_1).bind fun bt12033 => (if t12012 = bt12033.2 then (guidevanelaw09_DamCovers.j1 kj3 t12019 t12022 t12029 t12032 bt12033.2 (t12011 != bt12033.1) l0_0 l0_1) else (guidevanelaw09_DamCovers.j1 kj3 t12019 t12022 t12029 t12032 bt12033.2 true l0_0 l0_1))) = some r := H
          have A22 := Aside0.mk A220
          clear A220
          replace H := Option.bind_eq_some_iff.mp H
          obtain ⟨⟨t12033, t12034⟩, A230, H⟩ := H
          replace H : (if t12012 = t12034 then (guidevanelaw09_DamCovers.j1 kj3 t12019 t12022 t12029 t12032 t12034 (t12011 != t12033) l0_0 l0_1) else (guidevanelaw09_DamCovers.j1 kj3 t12019 t12022 t12029 t12032 t12034 true l0_0 l0_1)) = some r := H
          have A23 := Aside0.mk A230
          clear A230
          have HC24 := Aside0.mk H
          clear H
          have hcz25_0 : wc.cell? ⟨gb12001, 0, none⟩ = some (.slice A0_0 l0_0.length c0_0) := (blk_cell BK12001.out 0).trans rfl
          have hcz25_1 : wc.cell? ⟨gb12001, 1, none⟩ = some (.slice A0_1 l0_1.length c0_1) := (blk_cell BK12001.out 1).trans rfl
          have hfz25_0 := blk_frozen BK12001.out 0
          have hfz25_1 := blk_frozen BK12001.out 1
          go_upto_region 9 with (first | ((with_reducible refine gate_callee (f := 21) rfl ?_); refine goesL_ (some 25) rfl rfl Try.func21 (by kernel_rfl) rfl #[.agg #[.slice A0_0 l0_0.length c0_0, .slice A0_1 l0_1.length c0_1]] rfl mpa ?_; (with_reducible refine (guidevaneref09_CopyValley.calls _ _ l0_0 _ _ l0_1 t12005 t12008 _ ?side1 ?side2 ?side3 ?side4 A17.out).mono ?_); (case side1 => repeat (first | exact (Kd.C_below HR0_0.out HB.out) | (with_reducible refine Kd.C_alloc ?_ _) | (with_reducible refine Kd.C_drewN ?_ _) | (with_reducible refine Kd.C_drew ?_))); (case side2 => exact HC0_0.out); (case side3 => repeat (first | exact (Kd.C_below HR0_1.out HB.out) | (with_reducible refine Kd.C_alloc ?_ _) | (with_reducible refine Kd.C_drewN ?_ _) | (with_reducible refine Kd.C_drew ?_))); (case side4 => exact HC0_1.out); rintro e w26 ⟨v12006, v12009, rfl, ho0, ho1, hb⟩; refine ⟨_, rfl, ?_⟩; have n0_ := Aside0.mk (Kd.R_lower ho0 (below_size (belS HB.out GE12001.out))); have n1_ := Aside0.mk (Kd.R_lower ho1 (below_size (belS HB.out GE12001.out))); have n2_ := Aside0.mk (blk_below (g := gb12001) (o := .cells #[.slice A0_0 l0_0.length c0_0, .slice A0_1 l0_1.length c0_1] 39 (0, 0)) (bkl BK12001.out) hb); have n3_ := Aside0.mk (below_step (belS HB.out GE12001.out) hb); clear BK12001; clear HB; have HO12007 := n0_; have HO12010 := n1_; have BK12001 := n2_; have HB := n3_; clear n0_ n1_ n2_ n3_; (try clear hb); (try clear hb2); (try clear hk); (try clear hi); (try clear ho0); (try clear ho1); obtain ⟨Ao27, co27, eo27⟩ := Kd.R_slice HO12007.out; subst eo27; obtain ⟨Ao28, co28, eo28⟩ := Kd.R_slice HO12010.out; subst eo28) | ((with_reducible refine gate_callee (f := 20) rfl ?_); refine goesL_ (some 26) rfl rfl Try.func20 (by kernel_rfl) rfl #[.agg #[.slice Ao27 t12005.length co27, .slice Ao28 t12008.length co28]] rfl mpa ?_; (with_reducible refine (dam_CheckValley.calls _ _ t12005 _ _ t12008 t12011 t12012 _ ?side1 ?side2 ?side3 ?side4 A18.out).mono ?_); (case side1 => repeat (first | exact (Kd.R_reads' HO12007.out).2.2 | (with_reducible refine Kd.C_alloc ?_ _) | (with_reducible refine Kd.C_drewN ?_ _) | (with_reducible refine Kd.C_drew ?_))); (case side2 => exact (Kd.R_reads' HO12007.out).2.1); (case side3 => repeat (first | exact (Kd.R_reads' HO12010.out).2.2 | (with_reducible refine Kd.C_alloc ?_ _) | (with_reducible refine Kd.C_drewN ?_ _) | (with_reducible refine Kd.C_drew ?_))); (case side4 => exact (Kd.R_reads' HO12010.out).2.1); rintro e w29 ⟨rfl, hb⟩; refine ⟨_, rfl, ?_⟩; have n0_ := Aside0.mk (Kd.R_below (krl HO12007.out) hb); have n1_ := Aside0.mk (Kd.R_below (krl HO12010.out) hb); have n2_ := Aside0.mk (blk_below (g := gb12001) (o := .cells #[.slice A0_0 l0_0.length c0_0, .slice A0_1 l0_1.length c0_1] 39 (0, 0)) (bkl BK12001.out) hb); have n3_ := Aside0.mk (below_step (belS HB.out GE12001.out) hb); clear HO12007; clear HO12010; clear BK12001; clear HB; have HO12007 := n0_; have HO12010 := n1_; have BK12001 := n2_; have HB := n3_; clear n0_ n1_ n2_ n3_; (try clear hb); (try clear hb2); (try clear hk); (try clear hi); have hcz30_0 : w29.cell? ⟨gb12001, 0, none⟩ = some (.slice A0_0 l0_0.length c0_0) := (blk_cell BK12001.out 0).trans rfl; have hcz30_1 : w29.cell? ⟨gb12001, 1, none⟩ = some (.slice A0_1 l0_1.length c0_1) := (blk_cell BK12001.out 1).trans rfl; have hfz30_0 := blk_frozen BK12001.out 0; have hfz30_1 := blk_frozen BK12001.out 1) | ((with_reducible refine gate_callee (f := 21) rfl ?_); refine goesL_ (some 31) rfl rfl Try.func21 (by kernel_rfl) rfl #[.agg #[.slice A0_0 l0_0.length c0_0, .slice A0_1 l0_1.length c0_1]] rfl mpa ?_; (with_reducible refine (guidevaneref09_CopyValley.calls _ _ l0_0 _ _ l0_1 t12013 t12016 _ ?side1 ?side2 ?side3 ?side4 A19.out).mono ?_); (case side1 => repeat (first | exact (Kd.C_below HR0_0.out HB.out) | (with_reducible refine Kd.C_alloc ?_ _) | (with_reducible refine Kd.C_drewN ?_ _) | (with_reducible refine Kd.C_drew ?_))); (case side2 => exact HC0_0.out); (case side3 => repeat (first | exact (Kd.C_below HR0_1.out HB.out) | (with_reducible refine Kd.C_alloc ?_ _) | (with_reducible refine Kd.C_drewN ?_ _) | (with_reducible refine Kd.C_drew ?_))); (case side4 => exact HC0_1.out); rintro e w31 ⟨v12014, v12017, rfl, ho0, ho1, hb⟩; refine ⟨_, rfl, ?_⟩; have n0_ := Aside0.mk (Kd.R_elder' (krl HO12007.out) (Kd.R_base ho0) hb); have n1_ := Aside0.mk (Kd.R_elder' (krl HO12010.out) (Kd.R_base ho1) hb); have n2_ := Aside0.mk (Kd.R_lower (Kd.R_new' ho0 (Kd.R_lt (krl HO12007.out))) (below_size (belS HB.out GE12001.out))); have n3_ := Aside0.mk (Kd.R_lower (Kd.R_new' ho1 (Kd.R_lt (krl HO12010.out))) (below_size (belS HB.out GE12001.out))); have n4_ := Aside0.mk (blk_below (g := gb12001) (o := .cells #[.slice A0_0 l0_0.length c0_0, .slice A0_1 l0_1.length c0_1] 39 (0, 0)) (bkl BK12001.out) hb); have n5_ := Aside0.mk (below_step (belS HB.out GE12001.out) hb); clear HO12007; clear HO12010; clear BK12001; clear HB; have HO12007 := n0_; have HO12010 := n1_; have HO12015 := n2_; have HO12018 := n3_; have BK12001 := n4_; have HB := n5_; clear n0_ n1_ n2_ n3_ n4_ n5_; (try clear hb); (try clear hb2); (try clear hk); (try clear hi); (try clear ho0); (try clear ho1); obtain ⟨Ao32, co32, eo32⟩ := Kd.R_slice HO12015.out; subst eo32; obtain ⟨Ao33, co33, eo33⟩ := Kd.R_slice HO12018.out; subst eo33) | ((with_reducible refine gate_callee (f := 22) rfl ?_); refine goesL_ (some 32) rfl rfl Try.func22 (by kernel_rfl) rfl #[.agg #[.slice Ao32 t12013.length co32, .slice Ao33 t12016.length co33]] rfl mpa ?_; (with_reducible refine (dam_CoverOf.calls kj3 _ _ t12013 _ _ t12016 t12019 t12022 _ ?side1 ?side2 ?side3 ?side4 A20.out).mono ?_); (case side1 => repeat (first | exact (Kd.R_reads' HO12015.out).2.2 | (with_reducible refine Kd.C_alloc ?_ _) | (with_reducible refine Kd.C_drewN ?_ _) | (with_reducible refine Kd.C_drew ?_))); (case side2 => exact (Kd.R_reads' HO12015.out).2.1); (case side3 => repeat (first | exact (Kd.R_reads' HO12018.out).2.2 | (with_reducible refine Kd.C_alloc ?_ _) | (with_reducible refine Kd.C_drewN ?_ _) | (with_reducible refine Kd.C_drew ?_))); (case side4 => exact (Kd.R_reads' HO12018.out).2.1); rintro e w34 ⟨v12020, rfl, ho0, hb⟩; refine ⟨_, rfl, ?_⟩; have n0_ := Aside0.mk (Kd.R_below (krl HO12007.out) hb); have n1_ := Aside0.mk (Kd.R_elder' (krl HO12010.out) (Kd.R_base ho0) hb); have n2_ := Aside0.mk (Kd.R_below (krl HO12015.out) hb); have n3_ := Aside0.mk (Kd.R_elder' (krl HO12018.out) (Kd.R_base ho0) hb); have n4_ := Aside0.mk (Kd.R_lower (Kd.R_new' (Kd.R_new' ho0 (Kd.R_lt (krl HO12010.out))) (Kd.R_lt (krl HO12018.out))) (below_size (belS HB.out GE12001.out))); have n5_ := Aside0.mk (blk_below (g := gb12001) (o := .cells #[.slice A0_0 l0_0.length c0_0, .slice A0_1 l0_1.length c0_1] 39 (0, 0)) (bkl BK12001.out) hb); have n6_ := Aside0.mk (below_step (belS HB.out GE12001.out) hb); clear HO12007; clear HO12010; clear HO12015; clear HO12018; clear BK12001; clear HB; have HO12007 := n0_; have HO12010 := n1_; have HO12015 := n2_; have HO12018 := n3_; have HO12021 := n4_; have BK12001 := n5_; have HB := n6_; clear n0_ n1_ n2_ n3_ n4_ n5_ n6_; (try clear hb); (try clear hb2); (try clear hk); (try clear hi); (try clear ho0); have hcz35_0 : w34.cell? ⟨gb12001, 0, none⟩ = some (.slice A0_0 l0_0.length c0_0) := (blk_cell BK12001.out 0).trans rfl; have hcz35_1 : w34.cell? ⟨gb12001, 1, none⟩ = some (.slice A0_1 l0_1.length c0_1) := (blk_cell BK12001.out 1).trans rfl; have hfz35_0 := blk_frozen BK12001.out 0; have hfz35_1 := blk_frozen BK12001.out 1) | ((with_reducible refine gate_callee (f := 21) rfl ?_); refine goesL_ (some 37) rfl rfl Try.func21 (by kernel_rfl) rfl #[.agg #[.slice A0_0 l0_0.length c0_0, .slice A0_1 l0_1.length c0_1]] rfl mpa ?_; (with_reducible refine (guidevaneref09_CopyValley.calls _ _ l0_0 _ _ l0_1 t12023 t12026 _ ?side1 ?side2 ?side3 ?side4 A21.out).mono ?_); (case side1 => repeat (first | exact (Kd.C_below HR0_0.out HB.out) | (with_reducible refine Kd.C_alloc ?_ _) | (with_reducible refine Kd.C_drewN ?_ _) | (with_reducible refine Kd.C_drew ?_))); (case side2 => exact HC0_0.out); (case side3 => repeat (first | exact (Kd.C_below HR0_1.out HB.out) | (with_reducible refine Kd.C_alloc ?_ _) | (with_reducible refine Kd.C_drewN ?_ _) | (with_reducible refine Kd.C_drew ?_))); (case side4 => exact HC0_1.out); rintro e w36 ⟨v12024, v12027, rfl, ho0, ho1, hb⟩; refine ⟨_, rfl, ?_⟩; have n0_ := Aside0.mk (Kd.R_elder' (krl HO12007.out) (Kd.R_base ho0) hb); have n1_ := Aside0.mk (Kd.R_elder' (krl HO12010.out) (Kd.R_base ho1) hb); have n2_ := Aside0.mk (Kd.R_elder' (krl HO12015.out) (Kd.R_base ho0) hb); have n3_ := Aside0.mk (Kd.R_elder' (krl HO12018.out) (Kd.R_base ho1) hb); have n4_ := Aside0.mk (Kd.R_elder' (krl HO12021.out) (Kd.R_base ho1) hb); have n5_ := Aside0.mk (Kd.R_lower (Kd.R_new' (Kd.R_new' ho0 (Kd.R_lt (krl HO12007.out))) (Kd.R_lt (krl HO12015.out))) (below_size (belS HB.out GE12001.out))); have n6_ := Aside0.mk (Kd.R_lower (Kd.R_new' (Kd.R_new' (Kd.R_new' ho1 (Kd.R_lt (krl HO12010.out))) (Kd.R_lt (krl HO12018.out))) (Kd.R_lt (krl HO12021.out))) (below_size (belS HB.out GE12001.out))); have n7_ := Aside0.mk (blk_below (g := gb12001) (o := .cells #[.slice A0_0 l0_0.length c0_0, .slice A0_1 l0_1.length c0_1] 39 (0, 0)) (bkl BK12001.out) hb); have n8_ := Aside0.mk (below_step (belS HB.out GE12001.out) hb); clear HO12007; clear HO12010; clear HO12015; clear HO12018; clear HO12021; clear BK12001; clear HB; have HO12007 := n0_; have HO12010 := n1_; have HO12015 := n2_; have HO12018 := n3_; have HO12021 := n4_; have HO12025 := n5_; have HO12028 := n6_; have BK12001 := n7_; have HB := n8_; clear n0_ n1_ n2_ n3_ n4_ n5_ n6_ n7_ n8_; (try clear hb); (try clear hb2); (try clear hk); (try clear hi); (try clear ho0); (try clear ho1); obtain ⟨Ao37, co37, eo37⟩ := Kd.R_slice HO12025.out; subst eo37; obtain ⟨Ao38, co38, eo38⟩ := Kd.R_slice HO12028.out; subst eo38) | ((with_reducible refine gate_callee (f := 23) rfl ?_); refine goesL_ (some 38) rfl rfl Try.func23 (by kernel_rfl) rfl #[.agg #[.slice Ao37 t12023.length co37, .slice Ao38 t12026.length co38]] rfl mpa ?_; (with_reducible refine (dam_PackingOf.calls _ _ t12023 _ _ t12026 t12029 t12032 _ ?side1 ?side2 ?side3 ?side4 A22.out).mono ?_); (case side1 => repeat (first | exact (Kd.R_reads' HO12025.out).2.2 | (with_reducible refine Kd.C_alloc ?_ _) | (with_reducible refine Kd.C_drewN ?_ _) | (with_reducible refine Kd.C_drew ?_))); (case side2 => exact (Kd.R_reads' HO12025.out).2.1); (case side3 => repeat (first | exact (Kd.R_reads' HO12028.out).2.2 | (with_reducible refine Kd.C_alloc ?_ _) | (with_reducible refine Kd.C_drewN ?_ _) | (with_reducible refine Kd.C_drew ?_))); (case side4 => exact (Kd.R_reads' HO12028.out).2.1); rintro e w39 ⟨v12030, rfl, ho0, hb⟩; refine ⟨_, rfl, ?_⟩; have n0_ := Aside0.mk (Kd.R_below (krl HO12007.out) hb); have n1_ := Aside0.mk (Kd.R_elder' (krl HO12010.out) (Kd.R_base ho0) hb); have n2_ := Aside0.mk (Kd.R_below (krl HO12015.out) hb); have n3_ := Aside0.mk (Kd.R_elder' (krl HO12018.out) (Kd.R_base ho0) hb); have n4_ := Aside0.mk (Kd.R_elder' (krl HO12021.out) (Kd.R_base ho0) hb); have n5_ := Aside0.mk (Kd.R_below (krl HO12025.out) hb); have n6_ := Aside0.mk (Kd.R_elder' (krl HO12028.out) (Kd.R_base ho0) hb); have n7_ := Aside0.mk (Kd.R_lower (Kd.R_new' (Kd.R_new' (Kd.R_new' (Kd.R_new' ho0 (Kd.R_lt (krl HO12010.out))) (Kd.R_lt (krl HO12018.out))) (Kd.R_lt (krl HO12021.out))) (Kd.R_lt (krl HO12028.out))) (below_size (belS HB.out GE12001.out))); have n8_ := Aside0.mk (blk_below (g := gb12001) (o := .cells #[.slice A0_0 l0_0.length c0_0, .slice A0_1 l0_1.length c0_1] 39 (0, 0)) (bkl BK12001.out) hb); have n9_ := Aside0.mk (below_step (belS HB.out GE12001.out) hb); clear HO12007; clear HO12010; clear HO12015; clear HO12018; clear HO12021; clear HO12025; clear HO12028; clear BK12001; clear HB; have HO12007 := n0_; have HO12010 := n1_; have HO12015 := n2_; have HO12018 := n3_; have HO12021 := n4_; have HO12025 := n5_; have HO12028 := n6_; have HO12031 := n7_; have BK12001 := n8_; have HB := n9_; clear n0_ n1_ n2_ n3_ n4_ n5_ n6_ n7_ n8_ n9_; (try clear hb); (try clear hb2); (try clear hk); (try clear hi); (try clear ho0); have hcz40_0 : w39.cell? ⟨gb12001, 0, none⟩ = some (.slice A0_0 l0_0.length c0_0) := (blk_cell BK12001.out 0).trans rfl; have hcz40_1 : w39.cell? ⟨gb12001, 1, none⟩ = some (.slice A0_1 l0_1.length c0_1) := (blk_cell BK12001.out 1).trans rfl; have hfz40_0 := blk_frozen BK12001.out 0; have hfz40_1 := blk_frozen BK12001.out 1) | ((with_reducible refine gate_callee (f := 24) rfl ?_); refine goesL_ (some 43) rfl rfl Try.func24 (by kernel_rfl) rfl #[.agg #[.slice A0_0 l0_0.length c0_0, .slice A0_1 l0_1.length c0_1]] rfl mpa ?_; (with_reducible refine (guidevaneref09_CheckValley.calls kj3 _ _ l0_0 _ _ l0_1 t12033 t12034 _ ?side1 ?side2 ?side3 ?side4 A23.out).mono ?_); (case side1 => repeat (first | exact (Kd.C_below HR0_0.out HB.out) | (with_reducible refine Kd.C_alloc ?_ _) | (with_reducible refine Kd.C_drewN ?_ _) | (with_reducible refine Kd.C_drew ?_))); (case side2 => exact HC0_0.out); (case side3 => repeat (first | exact (Kd.C_below HR0_1.out HB.out) | (with_reducible refine Kd.C_alloc ?_ _) | (with_reducible refine Kd.C_drewN ?_ _) | (with_reducible refine Kd.C_drew ?_))); (case side4 => exact HC0_1.out); rintro e w41 ⟨rfl, hb⟩; refine ⟨_, rfl, ?_⟩; have n0_ := Aside0.mk (Kd.R_below (krl HO12007.out) hb); have n1_ := Aside0.mk (Kd.R_below (krl HO12010.out) hb); have n2_ := Aside0.mk (Kd.R_below (krl HO12015.out) hb); have n3_ := Aside0.mk (Kd.R_below (krl HO12018.out) hb); have n4_ := Aside0.mk (Kd.R_below (krl HO12021.out) hb); have n5_ := Aside0.mk (Kd.R_below (krl HO12025.out) hb); have n6_ := Aside0.mk (Kd.R_below (krl HO12028.out) hb); have n7_ := Aside0.mk (Kd.R_below (krl HO12031.out) hb); have n8_ := Aside0.mk (blk_below (g := gb12001) (o := .cells #[.slice A0_0 l0_0.length c0_0, .slice A0_1 l0_1.length c0_1] 39 (0, 0)) (bkl BK12001.out) hb); have n9_ := Aside0.mk (below_step (belS HB.out GE12001.out) hb); clear HO12007; clear HO12010; clear HO12015; clear HO12018; clear HO12021; clear HO12025; clear HO12028; clear HO12031; clear BK12001; clear HB; have HO12007 := n0_; have HO12010 := n1_; have HO12015 := n2_; have HO12018 := n3_; have HO12021 := n4_; have HO12025 := n5_; have HO12028 := n6_; have HO12031 := n7_; have BK12001 := n8_; have HB := n9_; clear n0_ n1_ n2_ n3_ n4_ n5_ n6_ n7_ n8_ n9_; (try clear hb); (try clear hb2); (try clear hk); (try clear hi)))
          (try simp only [Act.put, List.setIfInBounds_toArray, List.set_cons_zero, List.set_cons_succ])
          go_cut [53] (fun v53 wc => ∃ (kq : Nat) (x53_23 : Bool), v53 = .bool x53_23 ∧ Aside0 (guidevanelaw09_DamCovers.j1 kq t12019 t12022 t12029 t12032 t12034 x53_23 l0_0 l0_1 = some r) ∧ Aside0 (kq ≤ kj3) ∧ Aside0 (Kd.R (Kd.int .i64) 3 wc w.heap.size (fun k_ => some k_ ≠ (v12030 : Value).ownBlock) v12020 t12019) ∧ Aside0 (Kd.R (Kd.int .i64) 3 wc w.heap.size (fun k_ => some k_ ≠ (v12020 : Value).ownBlock) v12030 t12029) ∧ Aside0 (wc.heap[gb12001]? = some (.cells #[(.slice A0_0 l0_0.length c0_0), (.slice A0_1 l0_1.length c0_1)] 39 (0, 0))) ∧ Aside0 (Below w.heap.size w wc))
          case first =>
            have H := HC24.out
            clear HC24
            by_cases c42 : t12012 = t12034
            · rw [if_pos c42] at H
              have c42b0 : (t12012 == t12034) = true := beq_iff_eq.mpr c42
              have c42b1 : (t12012 != t12034) = false := bne_eq_false_iff_eq.mpr c42
              clear c42
              (first | rw [c42b0] | (simp only [i64_w, i32_w]; rw [c42b0]) | skip)
              have H' := Aside0.mk H
              clear H
              go_wp2
              go_meet
              case rel => exact ⟨_, ((t12011 != t12033)), (by first | rfl | (simp; done) | (simp [*]; done)), H', ⟨by have := HJ3.out; first | omega | exact Nat.le_refl _⟩, ⟨by (with_reducible repeat (first | apply Kd.R_alloc | apply Kd.R_drewN | apply Kd.R_drew)); exact Kd.R_mono HO12021.out (fun _ hk => hk.2)⟩, ⟨by (with_reducible repeat (first | apply Kd.R_alloc | apply Kd.R_drewN | apply Kd.R_drew)); exact Kd.R_mono HO12031.out (fun _ hk => hk.1.2)⟩, ⟨bkl BK12001.out⟩, ⟨belS HB.out GE12001.out⟩⟩
            · rw [if_neg c42] at H
              have c42b0 : (t12012 == t12034) = false := beq_eq_false_iff_ne.mpr c42
              have c42b1 : (t12012 != t12034) = true := bne_iff_ne.mpr c42
              (first | rw [c42b0] | (simp only [i64_w, i32_w]; rw [c42b0]) | skip)
              have H' := Aside0.mk H
              clear H
              go_wp2
              go_meet
              case rel => exact ⟨_, (true), (by first | rfl | (simp; done) | (simp [*]; done)), H', ⟨by have := HJ3.out; first | omega | exact Nat.le_refl _⟩, ⟨by (with_reducible repeat (first | apply Kd.R_alloc | apply Kd.R_drewN | apply Kd.R_drew)); exact Kd.R_mono HO12021.out (fun _ hk => hk.2)⟩, ⟨by (with_reducible repeat (first | apply Kd.R_alloc | apply Kd.R_drewN | apply Kd.R_drew)); exact Kd.R_mono HO12031.out (fun _ hk => hk.1.2)⟩, ⟨bkl BK12001.out⟩, ⟨belS HB.out GE12001.out⟩⟩
          case rest =>
            clear HC24
            try clear c1
            try clear c2
            try clear p2
            try clear c3
            try clear c4
            try clear c8
            try clear c10
            try clear c16
            try clear c18
            try clear c20
            try clear c21
            try clear c22
            try clear c23
            try clear c24
            try clear c42
            try clear c42b0
            try clear c42b1
            try clear hcz10_0
            try clear hcz10_1
            try clear hcz12_0
            try clear hcz12_1
            try clear hcz14_0
            try clear hcz14_1
            try clear hcz25_0
            try clear hcz25_1
            try clear hcz30_0
            try clear hcz30_1
            try clear hcz35_0
            try clear hcz35_1
            try clear hcz40_0
            try clear hcz40_1
            try clear hfz10_0
            try clear hfz10_1
            try clear hfz12_0
            try clear hfz12_1
            try clear hfz14_0
            try clear hfz14_1
            try clear hfz25_0
            try clear hfz25_1
            try clear hfz30_0
            try clear hfz30_1
            try clear hfz35_0
            try clear hfz35_1
            try clear hfz40_0
            try clear hfz40_1
            try clear p2
            obtain ⟨kq, x53_23, rfl, HA, HJ23, HO_5, HO_7, BK12001, HB⟩ := hcut
            cases kq with
            | zero => exact absurd HA.out (by simp [guidevanelaw09_DamCovers.j1])
            | succ kj23 =>
              have H := HA.out
              clear HA
              simp only [guidevanelaw09_DamCovers.j1] at H
              by_cases c43 : x53_23 = true
              · subst c43
                have H1 : (some false) = some r := by rw [if_pos rfl] at H; exact H
                clear H
                have H := H1
                clear H1
                obtain rfl := Option.some.inj H
                go_wp2
                go_ret
                exact ⟨by first | rfl | (simp [errW_none, errW_some] <;> rfl) | (simp [*, errW_none, errW_some] <;> rfl), belS HB.out GE12001.out⟩
              · replace c43 := Bool.eq_false_iff.mpr c43
                subst c43
                have H1 : (if t12034 = 0 then ((guidevaneref09_Cover.f kj23 l0_0 l0_1).bind fun bt12035 => (if bt12035.2 = true then (if t12022 = 0 then ((guidevanebase_Ints.f kj23 t12019 bt12035.1).bind fun t12039 => (if t12039 = true then (if t12032 = 0 then (some ((t12029.length : Int) == (bt12035.1.length : Int))) else (some false)) else (some false))) else (some false)) else (if t12022 = 12 then (if t12032 = 12 then (some ((wrap64 ((t12019.length : Int) + (t12029.length : Int))) == 0)) else (some false)) else (some false)))) else (if t12022 = t12034 then (if t12032 = t12034 then (some ((wrap64 ((t12019.length : Int) + (t12029.length : Int))) == 0)) else (some false)) else (some false))) = some r := by rw [if_neg (show ¬ (false = true) by decide)] at H; exact H
                clear H
                have H := H1
                clear H1
                by_cases c44 : t12034 = 0
                · rw [if_pos c44] at H
                  have c44b0 : (t12034 == 0) = true := beq_iff_eq.mpr c44
                  have c44b1 : (t12034 != 0) = false := bne_eq_false_iff_eq.mpr c44
                  clear c44
                  replace H := Option.bind_eq_some_iff.mp H
                  obtain ⟨⟨t12035, t12038⟩, A450, H⟩ := H
                  replace H : (if t12038 = true then (if t12022 = 0 then ((guidevanebase_Ints.f kj23 t12019 t12035).bind fun t12039 => (if t12039 = true then (if t12032 = 0 then (some ((t12029.length : Int) == (t12035.length : Int))) else (some false)) else (some false))) else (some false)) else (if t12022 = 12 then (if t12032 = 12 then (some ((wrap64 ((t12019.length : Int) + (t12029.length : Int))) == 0)) else (some false)) else (some false))) = some r := H
                  have A45 := Aside0.mk A450
                  clear A450
                  by_cases c46 : t12038 = true
                  · subst c46
                    have H1 : (if t12022 = 0 then ((guidevanebase_Ints.f kj23 t12019 t12035).bind fun t12039 => (if t12039 = true then (if t12032 = 0 then (some ((t12029.length : Int) == (t12035.length : Int))) else (some false)) else (some false))) else (some false)) = some r := by rw [if_pos rfl] at H; exact H
                    clear H
                    have H := H1
                    clear H1
                    by_cases c47 : t12022 = 0
                    · rw [if_pos c47] at H
                      have c47b0 : (t12022 == 0) = true := beq_iff_eq.mpr c47
                      have c47b1 : (t12022 != 0) = false := bne_eq_false_iff_eq.mpr c47
                      clear c47
                      replace H := Option.bind_eq_some_iff.mp H
                      obtain ⟨t12039, A480, H⟩ := H
                      replace H : (if t12039 = true then (if t12032 = 0 then (some ((t12029.length : Int) == (t12035.length : Int))) else (some false)) else (some false)) = some r := H
                      have A48 := Aside0.mk A480
                      clear A480
                      by_cases c49 : t12039 = true
                      · subst c49
                        have H1 : (if t12032 = 0 then (some ((t12029.length : Int) == (t12035.length : Int))) else (some false)) = some r := by rw [if_pos rfl] at H; exact H
                        clear H
                        have H := H1
                        clear H1
                        by_cases c50 : t12032 = 0
                        · rw [if_pos c50] at H
                          have c50b0 : (t12032 == 0) = true := beq_iff_eq.mpr c50
                          have c50b1 : (t12032 != 0) = false := bne_eq_false_iff_eq.mpr c50
                          clear c50
                          obtain rfl := Option.some.inj H
                          have hcz51_0 : wc.cell? ⟨gb12001, 0, none⟩ = some (.slice A0_0 l0_0.length c0_0) := (blk_cell BK12001.out 0).trans rfl
                          have hcz51_1 : wc.cell? ⟨gb12001, 1, none⟩ = some (.slice A0_1 l0_1.length c0_1) := (blk_cell BK12001.out 1).trans rfl
                          have hfz51_0 := blk_frozen BK12001.out 0
                          have hfz51_1 := blk_frozen BK12001.out 1
                          go_wp2_with (first | ((with_reducible refine gate_callee (f := 25) rfl ?_); refine goesL_ (some 74) rfl rfl Try.func25 (by kernel_rfl) rfl #[.agg #[.slice A0_0 l0_0.length c0_0, .slice A0_1 l0_1.length c0_1]] rfl mpa ?_; (with_reducible refine (guidevaneref09_Cover.calls kj23 _ _ l0_0 _ _ l0_1 t12035 true _ ?side1 ?side2 ?side3 ?side4 A45.out).mono ?_); (case side1 => repeat (first | exact (Kd.C_below HR0_0.out HB.out) | (with_reducible refine Kd.C_alloc ?_ _) | (with_reducible refine Kd.C_drewN ?_ _) | (with_reducible refine Kd.C_drew ?_))); (case side2 => exact HC0_0.out); (case side3 => repeat (first | exact (Kd.C_below HR0_1.out HB.out) | (with_reducible refine Kd.C_alloc ?_ _) | (with_reducible refine Kd.C_drewN ?_ _) | (with_reducible refine Kd.C_drew ?_))); (case side4 => exact HC0_1.out); rintro e w52 ⟨v12036, rfl, ho0, hb⟩; refine ⟨_, rfl, ?_⟩; have n0_ := Aside0.mk (Kd.R_elder' (krl HO_5.out) (Kd.R_base ho0) hb); have n1_ := Aside0.mk (Kd.R_elder' (krl HO_7.out) (Kd.R_base ho0) hb); have n2_ := Aside0.mk (Kd.R_lower (Kd.R_new' (Kd.R_new' ho0 (Kd.R_lt (krl HO_5.out))) (Kd.R_lt (krl HO_7.out))) (below_size (belS HB.out GE12001.out))); have n3_ := Aside0.mk (blk_below (g := gb12001) (o := .cells #[.slice A0_0 l0_0.length c0_0, .slice A0_1 l0_1.length c0_1] 39 (0, 0)) (bkl BK12001.out) hb); have n4_ := Aside0.mk (below_step (belS HB.out GE12001.out) hb); clear HO_5; clear HO_7; clear BK12001; clear HB; have HO_5 := n0_; have HO_7 := n1_; have HO12037 := n2_; have BK12001 := n3_; have HB := n4_; clear n0_ n1_ n2_ n3_ n4_; (try clear hb); (try clear hb2); (try clear hk); (try clear hi); (try clear ho0); obtain ⟨Ao53, co53, eo53⟩ := Kd.R_slice HO_5.out; subst eo53; obtain ⟨Ao54, co54, eo54⟩ := Kd.R_slice HO12037.out; subst eo54) | (go_at_call 26; (with_reducible refine (guidevanebase_Ints.calls kj23 _ _ t12019 _ _ t12035 true _ ?side1 ?side2 ?side3 ?side4 A48.out).mono ?_); (case side1 => repeat (first | exact (Kd.R_reads' HO_5.out).2.2 | (with_reducible refine Kd.C_alloc ?_ _) | (with_reducible refine Kd.C_drewN ?_ _) | (with_reducible refine Kd.C_drew ?_))); (case side2 => exact (Kd.R_reads' HO_5.out).2.1); (case side3 => repeat (first | exact (Kd.R_reads' HO12037.out).2.2 | (with_reducible refine Kd.C_alloc ?_ _) | (with_reducible refine Kd.C_drewN ?_ _) | (with_reducible refine Kd.C_drew ?_))); (case side4 => exact (Kd.R_reads' HO12037.out).2.1); rintro e w' ⟨rfl, ⟨nd, rfl⟩⟩; obtain ⟨Ao55, co55, eo55⟩ := Kd.R_slice HO_7.out; subst eo55))
                          go_ret
                          exact ⟨by first | rfl | (simp [errW_none, errW_some] <;> rfl) | (simp [*, errW_none, errW_some] <;> rfl), belS HB.out GE12001.out⟩
                        · rw [if_neg c50] at H
                          have c50b0 : (t12032 == 0) = false := beq_eq_false_iff_ne.mpr c50
                          have c50b1 : (t12032 != 0) = true := bne_iff_ne.mpr c50
                          obtain rfl := Option.some.inj H
                          have hcz56_0 : wc.cell? ⟨gb12001, 0, none⟩ = some (.slice A0_0 l0_0.length c0_0) := (blk_cell BK12001.out 0).trans rfl
                          have hcz56_1 : wc.cell? ⟨gb12001, 1, none⟩ = some (.slice A0_1 l0_1.length c0_1) := (blk_cell BK12001.out 1).trans rfl
                          have hfz56_0 := blk_frozen BK12001.out 0
                          have hfz56_1 := blk_frozen BK12001.out 1
                          go_wp2_with (first | ((with_reducible refine gate_callee (f := 25) rfl ?_); refine goesL_ (some 74) rfl rfl Try.func25 (by kernel_rfl) rfl #[.agg #[.slice A0_0 l0_0.length c0_0, .slice A0_1 l0_1.length c0_1]] rfl mpa ?_; (with_reducible refine (guidevaneref09_Cover.calls kj23 _ _ l0_0 _ _ l0_1 t12035 true _ ?side1 ?side2 ?side3 ?side4 A45.out).mono ?_); (case side1 => repeat (first | exact (Kd.C_below HR0_0.out HB.out) | (with_reducible refine Kd.C_alloc ?_ _) | (with_reducible refine Kd.C_drewN ?_ _) | (with_reducible refine Kd.C_drew ?_))); (case side2 => exact HC0_0.out); (case side3 => repeat (first | exact (Kd.C_below HR0_1.out HB.out) | (with_reducible refine Kd.C_alloc ?_ _) | (with_reducible refine Kd.C_drewN ?_ _) | (with_reducible refine Kd.C_drew ?_))); (case side4 => exact HC0_1.out); rintro e w57 ⟨v12036, rfl, ho0, hb⟩; refine ⟨_, rfl, ?_⟩; have n0_ := Aside0.mk (Kd.R_elder' (krl HO_5.out) (Kd.R_base ho0) hb); have n1_ := Aside0.mk (Kd.R_elder' (krl HO_7.out) (Kd.R_base ho0) hb); have n2_ := Aside0.mk (Kd.R_lower (Kd.R_new' (Kd.R_new' ho0 (Kd.R_lt (krl HO_5.out))) (Kd.R_lt (krl HO_7.out))) (below_size (belS HB.out GE12001.out))); have n3_ := Aside0.mk (blk_below (g := gb12001) (o := .cells #[.slice A0_0 l0_0.length c0_0, .slice A0_1 l0_1.length c0_1] 39 (0, 0)) (bkl BK12001.out) hb); have n4_ := Aside0.mk (below_step (belS HB.out GE12001.out) hb); clear HO_5; clear HO_7; clear BK12001; clear HB; have HO_5 := n0_; have HO_7 := n1_; have HO12037 := n2_; have BK12001 := n3_; have HB := n4_; clear n0_ n1_ n2_ n3_ n4_; (try clear hb); (try clear hb2); (try clear hk); (try clear hi); (try clear ho0); obtain ⟨Ao58, co58, eo58⟩ := Kd.R_slice HO_5.out; subst eo58; obtain ⟨Ao59, co59, eo59⟩ := Kd.R_slice HO12037.out; subst eo59) | (go_at_call 26; (with_reducible refine (guidevanebase_Ints.calls kj23 _ _ t12019 _ _ t12035 true _ ?side1 ?side2 ?side3 ?side4 A48.out).mono ?_); (case side1 => repeat (first | exact (Kd.R_reads' HO_5.out).2.2 | (with_reducible refine Kd.C_alloc ?_ _) | (with_reducible refine Kd.C_drewN ?_ _) | (with_reducible refine Kd.C_drew ?_))); (case side2 => exact (Kd.R_reads' HO_5.out).2.1); (case side3 => repeat (first | exact (Kd.R_reads' HO12037.out).2.2 | (with_reducible refine Kd.C_alloc ?_ _) | (with_reducible refine Kd.C_drewN ?_ _) | (with_reducible refine Kd.C_drew ?_))); (case side4 => exact (Kd.R_reads' HO12037.out).2.1); rintro e w' ⟨rfl, ⟨nd, rfl⟩⟩))
                          go_ret
                          exact ⟨by first | rfl | (simp [errW_none, errW_some] <;> rfl) | (simp [*, errW_none, errW_some] <;> rfl), belS HB.out GE12001.out⟩
                      · replace c49 := Bool.eq_false_iff.mpr c49
                        subst c49
                        have H1 : (some false) = some r := by rw [if_neg (show ¬ (false = true) by decide)] at H; exact H
                        clear H
                        have H := H1
                        clear H1
                        obtain rfl := Option.some.inj H
                        have hcz60_0 : wc.cell? ⟨gb12001, 0, none⟩ = some (.slice A0_0 l0_0.length c0_0) := (blk_cell BK12001.out 0).trans rfl
                        have hcz60_1 : wc.cell? ⟨gb12001, 1, none⟩ = some (.slice A0_1 l0_1.length c0_1) := (blk_cell BK12001.out 1).trans rfl
                        have hfz60_0 := blk_frozen BK12001.out 0
                        have hfz60_1 := blk_frozen BK12001.out 1
                        go_wp2_with (first | ((with_reducible refine gate_callee (f := 25) rfl ?_); refine goesL_ (some 74) rfl rfl Try.func25 (by kernel_rfl) rfl #[.agg #[.slice A0_0 l0_0.length c0_0, .slice A0_1 l0_1.length c0_1]] rfl mpa ?_; (with_reducible refine (guidevaneref09_Cover.calls kj23 _ _ l0_0 _ _ l0_1 t12035 true _ ?side1 ?side2 ?side3 ?side4 A45.out).mono ?_); (case side1 => repeat (first | exact (Kd.C_below HR0_0.out HB.out) | (with_reducible refine Kd.C_alloc ?_ _) | (with_reducible refine Kd.C_drewN ?_ _) | (with_reducible refine Kd.C_drew ?_))); (case side2 => exact HC0_0.out); (case side3 => repeat (first | exact (Kd.C_below HR0_1.out HB.out) | (with_reducible refine Kd.C_alloc ?_ _) | (with_reducible refine Kd.C_drewN ?_ _) | (with_reducible refine Kd.C_drew ?_))); (case side4 => exact HC0_1.out); rintro e w61 ⟨v12036, rfl, ho0, hb⟩; refine ⟨_, rfl, ?_⟩; have n0_ := Aside0.mk (Kd.R_elder' (krl HO_5.out) (Kd.R_base ho0) hb); have n1_ := Aside0.mk (Kd.R_elder' (krl HO_7.out) (Kd.R_base ho0) hb); have n2_ := Aside0.mk (Kd.R_lower (Kd.R_new' (Kd.R_new' ho0 (Kd.R_lt (krl HO_5.out))) (Kd.R_lt (krl HO_7.out))) (below_size (belS HB.out GE12001.out))); have n3_ := Aside0.mk (blk_below (g := gb12001) (o := .cells #[.slice A0_0 l0_0.length c0_0, .slice A0_1 l0_1.length c0_1] 39 (0, 0)) (bkl BK12001.out) hb); have n4_ := Aside0.mk (below_step (belS HB.out GE12001.out) hb); clear HO_5; clear HO_7; clear BK12001; clear HB; have HO_5 := n0_; have HO_7 := n1_; have HO12037 := n2_; have BK12001 := n3_; have HB := n4_; clear n0_ n1_ n2_ n3_ n4_; (try clear hb); (try clear hb2); (try clear hk); (try clear hi); (try clear ho0); obtain ⟨Ao62, co62, eo62⟩ := Kd.R_slice HO_5.out; subst eo62; obtain ⟨Ao63, co63, eo63⟩ := Kd.R_slice HO12037.out; subst eo63) | (go_at_call 26; (with_reducible refine (guidevanebase_Ints.calls kj23 _ _ t12019 _ _ t12035 false _ ?side1 ?side2 ?side3 ?side4 A48.out).mono ?_); (case side1 => repeat (first | exact (Kd.R_reads' HO_5.out).2.2 | (with_reducible refine Kd.C_alloc ?_ _) | (with_reducible refine Kd.C_drewN ?_ _) | (with_reducible refine Kd.C_drew ?_))); (case side2 => exact (Kd.R_reads' HO_5.out).2.1); (case side3 => repeat (first | exact (Kd.R_reads' HO12037.out).2.2 | (with_reducible refine Kd.C_alloc ?_ _) | (with_reducible refine Kd.C_drewN ?_ _) | (with_reducible refine Kd.C_drew ?_))); (case side4 => exact (Kd.R_reads' HO12037.out).2.1); rintro e w' ⟨rfl, ⟨nd, rfl⟩⟩))
                        go_ret
                        exact ⟨by first | rfl | (simp [errW_none, errW_some] <;> rfl) | (simp [*, errW_none, errW_some] <;> rfl), belS HB.out GE12001.out⟩
                    · rw [if_neg c47] at H
                      have c47b0 : (t12022 == 0) = false := beq_eq_false_iff_ne.mpr c47
                      have c47b1 : (t12022 != 0) = true := bne_iff_ne.mpr c47
                      obtain rfl := Option.some.inj H
                      have hcz64_0 : wc.cell? ⟨gb12001, 0, none⟩ = some (.slice A0_0 l0_0.length c0_0) := (blk_cell BK12001.out 0).trans rfl
                      have hcz64_1 : wc.cell? ⟨gb12001, 1, none⟩ = some (.slice A0_1 l0_1.length c0_1) := (blk_cell BK12001.out 1).trans rfl
                      have hfz64_0 := blk_frozen BK12001.out 0
                      have hfz64_1 := blk_frozen BK12001.out 1
                      go_wp2_with (first | ((with_reducible refine gate_callee (f := 25) rfl ?_); refine goesL_ (some 74) rfl rfl Try.func25 (by kernel_rfl) rfl #[.agg #[.slice A0_0 l0_0.length c0_0, .slice A0_1 l0_1.length c0_1]] rfl mpa ?_; (with_reducible refine (guidevaneref09_Cover.calls kj23 _ _ l0_0 _ _ l0_1 t12035 true _ ?side1 ?side2 ?side3 ?side4 A45.out).mono ?_); (case side1 => repeat (first | exact (Kd.C_below HR0_0.out HB.out) | (with_reducible refine Kd.C_alloc ?_ _) | (with_reducible refine Kd.C_drewN ?_ _) | (with_reducible refine Kd.C_drew ?_))); (case side2 => exact HC0_0.out); (case side3 => repeat (first | exact (Kd.C_below HR0_1.out HB.out) | (with_reducible refine Kd.C_alloc ?_ _) | (with_reducible refine Kd.C_drewN ?_ _) | (with_reducible refine Kd.C_drew ?_))); (case side4 => exact HC0_1.out); rintro e w65 ⟨v12036, rfl, ho0, hb⟩; refine ⟨_, rfl, ?_⟩; have n0_ := Aside0.mk (Kd.R_elder' (krl HO_5.out) (Kd.R_base ho0) hb); have n1_ := Aside0.mk (Kd.R_elder' (krl HO_7.out) (Kd.R_base ho0) hb); have n2_ := Aside0.mk (Kd.R_lower (Kd.R_new' (Kd.R_new' ho0 (Kd.R_lt (krl HO_5.out))) (Kd.R_lt (krl HO_7.out))) (below_size (belS HB.out GE12001.out))); have n3_ := Aside0.mk (blk_below (g := gb12001) (o := .cells #[.slice A0_0 l0_0.length c0_0, .slice A0_1 l0_1.length c0_1] 39 (0, 0)) (bkl BK12001.out) hb); have n4_ := Aside0.mk (below_step (belS HB.out GE12001.out) hb); clear HO_5; clear HO_7; clear BK12001; clear HB; have HO_5 := n0_; have HO_7 := n1_; have HO12037 := n2_; have BK12001 := n3_; have HB := n4_; clear n0_ n1_ n2_ n3_ n4_; (try clear hb); (try clear hb2); (try clear hk); (try clear hi); (try clear ho0)))
                      go_ret
                      exact ⟨by first | rfl | (simp [errW_none, errW_some] <;> rfl) | (simp [*, errW_none, errW_some] <;> rfl), belS HB.out GE12001.out⟩
                  · replace c46 := Bool.eq_false_iff.mpr c46
                    subst c46
                    have H1 : (if t12022 = 12 then (if t12032 = 12 then (some ((wrap64 ((t12019.length : Int) + (t12029.length : Int))) == 0)) else (some false)) else (some false)) = some r := by rw [if_neg (show ¬ (false = true) by decide)] at H; exact H
                    clear H
                    have H := H1
                    clear H1
                    by_cases c66 : t12022 = 12
                    · rw [if_pos c66] at H
                      have c66b0 : (t12022 == 12) = true := beq_iff_eq.mpr c66
                      have c66b1 : (t12022 != 12) = false := bne_eq_false_iff_eq.mpr c66
                      clear c66
                      by_cases c67 : t12032 = 12
                      · rw [if_pos c67] at H
                        have c67b0 : (t12032 == 12) = true := beq_iff_eq.mpr c67
                        have c67b1 : (t12032 != 12) = false := bne_eq_false_iff_eq.mpr c67
                        clear c67
                        obtain rfl := Option.some.inj H
                        have hcz68_0 : wc.cell? ⟨gb12001, 0, none⟩ = some (.slice A0_0 l0_0.length c0_0) := (blk_cell BK12001.out 0).trans rfl
                        have hcz68_1 : wc.cell? ⟨gb12001, 1, none⟩ = some (.slice A0_1 l0_1.length c0_1) := (blk_cell BK12001.out 1).trans rfl
                        have hfz68_0 := blk_frozen BK12001.out 0
                        have hfz68_1 := blk_frozen BK12001.out 1
                        go_wp2_with (first | ((with_reducible refine gate_callee (f := 25) rfl ?_); refine goesL_ (some 74) rfl rfl Try.func25 (by kernel_rfl) rfl #[.agg #[.slice A0_0 l0_0.length c0_0, .slice A0_1 l0_1.length c0_1]] rfl mpa ?_; (with_reducible refine (guidevaneref09_Cover.calls kj23 _ _ l0_0 _ _ l0_1 t12035 false _ ?side1 ?side2 ?side3 ?side4 A45.out).mono ?_); (case side1 => repeat (first | exact (Kd.C_below HR0_0.out HB.out) | (with_reducible refine Kd.C_alloc ?_ _) | (with_reducible refine Kd.C_drewN ?_ _) | (with_reducible refine Kd.C_drew ?_))); (case side2 => exact HC0_0.out); (case side3 => repeat (first | exact (Kd.C_below HR0_1.out HB.out) | (with_reducible refine Kd.C_alloc ?_ _) | (with_reducible refine Kd.C_drewN ?_ _) | (with_reducible refine Kd.C_drew ?_))); (case side4 => exact HC0_1.out); rintro e w69 ⟨v12036, rfl, ho0, hb⟩; refine ⟨_, rfl, ?_⟩; have n0_ := Aside0.mk (Kd.R_elder' (krl HO_5.out) (Kd.R_base ho0) hb); have n1_ := Aside0.mk (Kd.R_elder' (krl HO_7.out) (Kd.R_base ho0) hb); have n2_ := Aside0.mk (Kd.R_lower (Kd.R_new' (Kd.R_new' ho0 (Kd.R_lt (krl HO_5.out))) (Kd.R_lt (krl HO_7.out))) (below_size (belS HB.out GE12001.out))); have n3_ := Aside0.mk (blk_below (g := gb12001) (o := .cells #[.slice A0_0 l0_0.length c0_0, .slice A0_1 l0_1.length c0_1] 39 (0, 0)) (bkl BK12001.out) hb); have n4_ := Aside0.mk (below_step (belS HB.out GE12001.out) hb); clear HO_5; clear HO_7; clear BK12001; clear HB; have HO_5 := n0_; have HO_7 := n1_; have HO12037 := n2_; have BK12001 := n3_; have HB := n4_; clear n0_ n1_ n2_ n3_ n4_; (try clear hb); (try clear hb2); (try clear hk); (try clear hi); (try clear ho0); obtain ⟨Ao70, co70, eo70⟩ := Kd.R_slice HO_5.out; subst eo70; obtain ⟨Ao71, co71, eo71⟩ := Kd.R_slice HO_7.out; subst eo71))
                        go_ret
                        exact ⟨by first | rfl | (simp [errW_none, errW_some] <;> rfl) | (simp [*, errW_none, errW_some] <;> rfl), belS HB.out GE12001.out⟩
                      · rw [if_neg c67] at H
                        have c67b0 : (t12032 == 12) = false := beq_eq_false_iff_ne.mpr c67
                        have c67b1 : (t12032 != 12) = true := bne_iff_ne.mpr c67
                        obtain rfl := Option.some.inj H
                        have hcz72_0 : wc.cell? ⟨gb12001, 0, none⟩ = some (.slice A0_0 l0_0.length c0_0) := (blk_cell BK12001.out 0).trans rfl
                        have hcz72_1 : wc.cell? ⟨gb12001, 1, none⟩ = some (.slice A0_1 l0_1.length c0_1) := (blk_cell BK12001.out 1).trans rfl
                        have hfz72_0 := blk_frozen BK12001.out 0
                        have hfz72_1 := blk_frozen BK12001.out 1
                        go_wp2_with (first | ((with_reducible refine gate_callee (f := 25) rfl ?_); refine goesL_ (some 74) rfl rfl Try.func25 (by kernel_rfl) rfl #[.agg #[.slice A0_0 l0_0.length c0_0, .slice A0_1 l0_1.length c0_1]] rfl mpa ?_; (with_reducible refine (guidevaneref09_Cover.calls kj23 _ _ l0_0 _ _ l0_1 t12035 false _ ?side1 ?side2 ?side3 ?side4 A45.out).mono ?_); (case side1 => repeat (first | exact (Kd.C_below HR0_0.out HB.out) | (with_reducible refine Kd.C_alloc ?_ _) | (with_reducible refine Kd.C_drewN ?_ _) | (with_reducible refine Kd.C_drew ?_))); (case side2 => exact HC0_0.out); (case side3 => repeat (first | exact (Kd.C_below HR0_1.out HB.out) | (with_reducible refine Kd.C_alloc ?_ _) | (with_reducible refine Kd.C_drewN ?_ _) | (with_reducible refine Kd.C_drew ?_))); (case side4 => exact HC0_1.out); rintro e w73 ⟨v12036, rfl, ho0, hb⟩; refine ⟨_, rfl, ?_⟩; have n0_ := Aside0.mk (Kd.R_elder' (krl HO_5.out) (Kd.R_base ho0) hb); have n1_ := Aside0.mk (Kd.R_elder' (krl HO_7.out) (Kd.R_base ho0) hb); have n2_ := Aside0.mk (Kd.R_lower (Kd.R_new' (Kd.R_new' ho0 (Kd.R_lt (krl HO_5.out))) (Kd.R_lt (krl HO_7.out))) (below_size (belS HB.out GE12001.out))); have n3_ := Aside0.mk (blk_below (g := gb12001) (o := .cells #[.slice A0_0 l0_0.length c0_0, .slice A0_1 l0_1.length c0_1] 39 (0, 0)) (bkl BK12001.out) hb); have n4_ := Aside0.mk (below_step (belS HB.out GE12001.out) hb); clear HO_5; clear HO_7; clear BK12001; clear HB; have HO_5 := n0_; have HO_7 := n1_; have HO12037 := n2_; have BK12001 := n3_; have HB := n4_; clear n0_ n1_ n2_ n3_ n4_; (try clear hb); (try clear hb2); (try clear hk); (try clear hi); (try clear ho0)))
                        go_ret
                        exact ⟨by first | rfl | (simp [errW_none, errW_some] <;> rfl) | (simp [*, errW_none, errW_some] <;> rfl), belS HB.out GE12001.out⟩
                    · rw [if_neg c66] at H
                      have c66b0 : (t12022 == 12) = false := beq_eq_false_iff_ne.mpr c66
                      have c66b1 : (t12022 != 12) = true := bne_iff_ne.mpr c66
                      obtain rfl := Option.some.inj H
                      have hcz74_0 : wc.cell? ⟨gb12001, 0, none⟩ = some (.slice A0_0 l0_0.length c0_0) := (blk_cell BK12001.out 0).trans rfl
                      have hcz74_1 : wc.cell? ⟨gb12001, 1, none⟩ = some (.slice A0_1 l0_1.length c0_1) := (blk_cell BK12001.out 1).trans rfl
                      have hfz74_0 := blk_frozen BK12001.out 0
                      have hfz74_1 := blk_frozen BK12001.out 1
                      go_wp2_with (first | ((with_reducible refine gate_callee (f := 25) rfl ?_); refine goesL_ (some 74) rfl rfl Try.func25 (by kernel_rfl) rfl #[.agg #[.slice A0_0 l0_0.length c0_0, .slice A0_1 l0_1.length c0_1]] rfl mpa ?_; (with_reducible refine (guidevaneref09_Cover.calls kj23 _ _ l0_0 _ _ l0_1 t12035 false _ ?side1 ?side2 ?side3 ?side4 A45.out).mono ?_); (case side1 => repeat (first | exact (Kd.C_below HR0_0.out HB.out) | (with_reducible refine Kd.C_alloc ?_ _) | (with_reducible refine Kd.C_drewN ?_ _) | (with_reducible refine Kd.C_drew ?_))); (case side2 => exact HC0_0.out); (case side3 => repeat (first | exact (Kd.C_below HR0_1.out HB.out) | (with_reducible refine Kd.C_alloc ?_ _) | (with_reducible refine Kd.C_drewN ?_ _) | (with_reducible refine Kd.C_drew ?_))); (case side4 => exact HC0_1.out); rintro e w75 ⟨v12036, rfl, ho0, hb⟩; refine ⟨_, rfl, ?_⟩; have n0_ := Aside0.mk (Kd.R_elder' (krl HO_5.out) (Kd.R_base ho0) hb); have n1_ := Aside0.mk (Kd.R_elder' (krl HO_7.out) (Kd.R_base ho0) hb); have n2_ := Aside0.mk (Kd.R_lower (Kd.R_new' (Kd.R_new' ho0 (Kd.R_lt (krl HO_5.out))) (Kd.R_lt (krl HO_7.out))) (below_size (belS HB.out GE12001.out))); have n3_ := Aside0.mk (blk_below (g := gb12001) (o := .cells #[.slice A0_0 l0_0.length c0_0, .slice A0_1 l0_1.length c0_1] 39 (0, 0)) (bkl BK12001.out) hb); have n4_ := Aside0.mk (below_step (belS HB.out GE12001.out) hb); clear HO_5; clear HO_7; clear BK12001; clear HB; have HO_5 := n0_; have HO_7 := n1_; have HO12037 := n2_; have BK12001 := n3_; have HB := n4_; clear n0_ n1_ n2_ n3_ n4_; (try clear hb); (try clear hb2); (try clear hk); (try clear hi); (try clear ho0)))
                      go_ret
                      exact ⟨by first | rfl | (simp [errW_none, errW_some] <;> rfl) | (simp [*, errW_none, errW_some] <;> rfl), belS HB.out GE12001.out⟩
                · rw [if_neg c44] at H
                  have c44b0 : (t12034 == 0) = false := beq_eq_false_iff_ne.mpr c44
                  have c44b1 : (t12034 != 0) = true := bne_iff_ne.mpr c44
                  by_cases c76 : t12022 = t12034
                  · rw [if_pos c76] at H
                    have c76b0 : (t12022 == t12034) = true := beq_iff_eq.mpr c76
                    have c76b1 : (t12022 != t12034) = false := bne_eq_false_iff_eq.mpr c76
                    clear c76
                    by_cases c77 : t12032 = t12034
                    · rw [if_pos c77] at H
                      have c77b0 : (t12032 == t12034) = true := beq_iff_eq.mpr c77
                      have c77b1 : (t12032 != t12034) = false := bne_eq_false_iff_eq.mpr c77
                      clear c77
                      obtain rfl := Option.some.inj H
                      obtain ⟨Ao78, co78, eo78⟩ := Kd.R_slice HO_5.out
                      subst eo78
                      obtain ⟨Ao79, co79, eo79⟩ := Kd.R_slice HO_7.out
                      subst eo79
                      go_wp2
                      go_ret
                      exact ⟨by first | rfl | (simp [errW_none, errW_some] <;> rfl) | (simp [*, errW_none, errW_some] <;> rfl), belS HB.out GE12001.out⟩
                    · rw [if_neg c77] at H
                      have c77b0 : (t12032 == t12034) = false := beq_eq_false_iff_ne.mpr c77
                      have c77b1 : (t12032 != t12034) = true := bne_iff_ne.mpr c77
                      obtain rfl := Option.some.inj H
                      go_wp2
                      go_ret
                      exact ⟨by first | rfl | (simp [errW_none, errW_some] <;> rfl) | (simp [*, errW_none, errW_some] <;> rfl), belS HB.out GE12001.out⟩
                  · rw [if_neg c76] at H
                    have c76b0 : (t12022 == t12034) = false := beq_eq_false_iff_ne.mpr c76
                    have c76b1 : (t12022 != t12034) = true := bne_iff_ne.mpr c76
                    obtain rfl := Option.some.inj H
                    go_wp2
                    go_ret
                    exact ⟨by first | rfl | (simp [errW_none, errW_some] <;> rfl) | (simp [*, errW_none, errW_some] <;> rfl), belS HB.out GE12001.out⟩
  · replace c3 := Bool.eq_false_iff.mpr c3
    subst c3
    have H1 : (some false) = some r := by rw [if_neg (show ¬ (false = true) by decide)] at H; exact H
    clear H
    have H := H1
    clear H1
    obtain rfl := Option.some.inj H
    go_enter Try.func4, Try.ntmps4
    go_wp2_with (first | ((with_reducible refine gate_dst (N := 1) rfl ?_); (try (refine gate_guard (by rfl) ?_; dsimp only)); refine box_event ?hg (N := 1) ?hd (cs := #[.slice A0_0 l0_0.length c0_0, .slice A0_1 l0_1.length c0_1]) (t := 39) ?hr ?_; (case hd => rfl); (case hg => rfl); (case hr => first | (go_simp; done) | (go_simp; rfl)); intro gb12001 hg w80 hbox hb; have n0_ := Aside0.mk (below_step (bel HB.out) hb); have n1_ := Aside0.mk (hbox); have n2_ := Aside0.mk ((by rw [hg]; exact (below_size (bel HB.out)) : w.heap.size ≤ gb12001)); have n3_ := Aside0.mk ((by rw [hg]; exact (below_size (bel HB.out)) : w.heap.size ≤ gb12001)); clear HB; have HB := n0_; have BK12001 := n1_; have GW12001 := n2_; have GE12001 := n3_; clear n0_ n1_ n2_ n3_; clear hb hbox hg) | ((with_reducible refine gate_callee (f := 10) rfl ?_); refine goesL_ (some 13) rfl rfl Try.func10 (by kernel_rfl) rfl #[] rfl mpa ?_; (with_reducible refine (guidevanelaw09_awake.calls  false _ A2.out).mono ?_); rintro e w81 ⟨rfl, hb⟩; refine ⟨_, rfl, ?_⟩; have n0_ := Aside0.mk (blk_below (g := gb12001) (o := .cells #[.slice A0_0 l0_0.length c0_0, .slice A0_1 l0_1.length c0_1] 39 (0, 0)) (bkl BK12001.out) hb); have n1_ := Aside0.mk (below_step (belS HB.out GE12001.out) hb); clear BK12001; clear HB; have BK12001 := n0_; have HB := n1_; clear n0_ n1_; (try clear hb); (try clear hb2); (try clear hk); (try clear hi)))
    go_ret
    exact ⟨by first | rfl | (simp [errW_none, errW_some] <;> rfl) | (simp [*, errW_none, errW_some] <;> rfl), belS HB.out GE12001.out⟩
end Go.Proofs.Yteopooljohdoiaa.Px
namespace Go.Proofs.Yteopooljohdoiaa.Px
open Go.RowKit Go.Proofs.YteopooljohdoiaaW.PrintWords Go.Proofs.YteopooljohdoiaaW.PrintLast
theorem isPosB (n : Int) : guidevanebase_Within.f n 0 1000000 = some (isPos n) := bwithin_f n 0 1000000
theorem rvalley_l1 (ss : List Sir) (hs : List Int) (h : hs.length ≤ 1000) : ∀ (d i k : Nat), i + d = hs.length → d < k → (∀ j, j < i → isPos (hs.getD j 0) = true) →
    guidevaneref09_CheckValley.l1 k (i : Int) ss hs = some (if 0 ≤ idxF (fun n => !isPos n) hs then (idxF (fun n => !isPos n) hs, 2) else (0, 0)) := by
  intro d
  induction d with
  | zero =>
    intro i k hi hk h0
    obtain ⟨k, rfl⟩ : ∃ m, k = m + 1 := ⟨k - 1, by omega⟩
    simp only [guidevaneref09_CheckValley.l1]
    rw [if_neg (by omega), idxF_miss (d := 0) (fun j hj => by rw [h0 j (by omega)]; rfl), if_neg (by decide)]
  | succ d ih =>
    intro i k hi hk h0
    obtain ⟨k, rfl⟩ : ∃ m, k = m + 1 := ⟨k - 1, by omega⟩
    simp only [guidevaneref09_CheckValley.l1]
    rw [if_pos (by omega), if_pos (by omega), rd_nat, isPosB]
    simp only [Option.bind_some]
    cases hp : isPos (hs.getD i 0)
    · rw [if_neg (by decide), idxF_hit (d := 0) (k := i) (by omega) (fun j hj => by rw [h0 j hj]; rfl) (by rw [hp]; rfl), if_pos (by omega)]
    · rw [if_pos (by trivial), pw64 (by omega) (by omega)]
      exact ih (i + 1) k (by omega) (by omega) fun j hj => by
        by_cases e : j = i
        · subst e; exact hp
        · exact h0 j (by omega)
theorem rvalley_l0 (ss : List Sir) (hs : List Int) (h : hs.length ≤ 100) (h' : ss.length ≤ 100) : ∀ (d i k : Nat), i + d = ss.length → 102 + d < k → (∀ j, j < i → badSiren (ss.getD j zS) = false) →
    guidevaneref09_CheckValley.l0 k (i : Int) ss hs = some (if 0 ≤ idxF badSiren ss then (idxF badSiren ss, 2) else if 0 ≤ idxF (fun n => !isPos n) hs then (idxF (fun n => !isPos n) hs, 2) else (0, 0)) := by
  intro d
  induction d with
  | zero =>
    intro i k hi hk h0
    obtain ⟨k, rfl⟩ : ∃ m, k = m + 1 := ⟨k - 1, by omega⟩
    simp only [guidevaneref09_CheckValley.l0]
    rw [if_neg (by omega), show (0 : Int) = ((0 : Nat) : Int) from rfl, rvalley_l1 ss hs (by omega) hs.length 0 k (by omega) (by omega) (fun j hj => absurd hj (by omega)), idxF_miss (p := badSiren) (d := zS) (fun j hj => h0 j (by omega)), if_neg (show ¬ ((0 : Nat) : Int) ≤ -1 by decide)]
    rfl
  | succ d ih =>
    intro i k hi hk h0
    obtain ⟨k, rfl⟩ : ∃ m, k = m + 1 := ⟨k - 1, by omega⟩
    simp only [guidevaneref09_CheckValley.l0]
    rw [if_pos (by omega), if_pos (by omega), rdSir, Int.toNat_natCast, isPosB, isPosB]
    simp only [Option.bind_some]
    cases hp : isPos (ss.getD i zS).f0
    · rw [if_neg (by decide), idxF_hit (p := badSiren) (d := zS) (k := i) (by omega) (fun j hj => h0 j hj) (by unfold badSiren; rw [hp]; rfl), if_pos (by omega)]
    · rw [if_pos (by trivial)]
      cases hq : isPos (ss.getD i zS).f1
      · rw [if_neg (by decide), idxF_hit (p := badSiren) (d := zS) (k := i) (by omega) (fun j hj => h0 j hj) (by unfold badSiren; rw [hp, hq]; rfl), if_pos (by omega)]
      · rw [if_pos (by trivial), pw64 (by omega) (by omega)]
        exact ih (i + 1) k (by omega) (by omega) fun j hj => by
          by_cases e : j = i
          · subst e; unfold badSiren; rw [hp, hq]; rfl
          · exact h0 j (by omega)
theorem rcheckValley_f (ss : List Sir) (hs : List Int) (h : hs.length ≤ 42) (h' : ss.length ≤ 22) (k : Nat) (hk : 300 < k) : guidevaneref09_CheckValley.f k ss hs = some (valleyOut ss hs) := by
  obtain ⟨k, rfl⟩ : ∃ m, k = m + 1 := ⟨k - 1, by omega⟩
  unfold guidevaneref09_CheckValley.f valleyOut
  have key := rvalley_l0 ss hs (by omega) (by omega) ss.length 0 k (by omega) (by omega) (fun j hj => absurd hj (by omega))
  by_cases h1 : (20 : Int) < (ss.length : Int)
  · rw [if_pos h1, if_pos (.inl h1)]
    simp only [guidevaneref09_CheckValley.j0]
    rw [if_pos (by trivial)]
  · rw [if_neg h1]
    simp only [guidevaneref09_CheckValley.j0]
    by_cases h2 : (40 : Int) < (hs.length : Int)
    · rw [if_pos (decide_eq_true h2), if_pos (.inr h2)]
    · rw [if_neg (by rw [decide_eq_true_eq]; exact h2), if_neg (by intro hh; rcases hh with hh | hh; exact h1 hh; exact h2 hh)]
      exact key
theorem valley_ok {ss : List Sir} {hs : List Int} (h : (valleyOut ss hs).2 = 0) : okValley ss hs ∧ ss.length ≤ 20 ∧ hs.length ≤ 40 := by
  unfold valleyOut at h
  split at h
  · exact absurd h (show ¬ (8 : Int) = 0 by decide)
  rename_i h1
  split at h
  · exact absurd h (show ¬ (2 : Int) = 0 by decide)
  rename_i h2
  split at h
  · exact absurd h (show ¬ (2 : Int) = 0 by decide)
  rename_i h3
  have a1 := idxF_any badSiren ss
  have a2 := idxF_any (fun n => !isPos n) hs
  rw [decide_eq_false h2] at a1
  rw [decide_eq_false h3] at a2
  have b1 := List.any_eq_false.1 a1.symm
  have b2 := List.any_eq_false.1 a2.symm
  have pos : ∀ n, isPos n = true → 0 ≤ n ∧ n ≤ 1000000 := fun n hn => by
    unfold isPos at hn
    rw [Bool.and_eq_true, decide_eq_true_eq, decide_eq_true_eq] at hn
    exact hn
  refine ⟨⟨fun s hs' => ?_, fun n hn => ?_⟩, by omega, by omega⟩
  · have := b1 s hs'
    unfold badSiren at this
    cases h4 : isPos s.f0 <;> cases h5 : isPos s.f1 <;> simp [h4, h5] at this
    exact ⟨pos _ h4, pos _ h5⟩
  · have := b2 n hn
    cases h4 : isPos n <;> simp [h4] at this
    exact pos _ h4
theorem ints_go (l : List Int) (hl : l.length ≤ 1000) : ∀ (d i k : Nat), i + d = l.length → d < k → guidevanebase_Ints.l0 k l l (i : Int) = some true := by
  intro d
  induction d with
  | zero =>
    intro i k hi hk
    obtain ⟨k, rfl⟩ : ∃ m, k = m + 1 := ⟨k - 1, by omega⟩
    simp only [guidevanebase_Ints.l0]
    rw [if_neg (by omega)]
  | succ d ih =>
    intro i k hi hk
    obtain ⟨k, rfl⟩ : ∃ m, k = m + 1 := ⟨k - 1, by omega⟩
    simp only [guidevanebase_Ints.l0]
    rw [if_pos (by omega), if_pos (by omega), if_pos (by omega), if_pos (by trivial), pw64 (by omega) (by omega)]
    exact ih (i + 1) k (by omega) (by omega)
theorem ints_self (l : List Int) (hl : l.length ≤ 100) (k : Nat) (hk : 200 < k) : guidevanebase_Ints.f k l l = some true := by
  unfold guidevanebase_Ints.f
  rw [if_pos (by trivial)]
  exact ints_go l (by omega) l.length 0 k (by omega) (by omega)
theorem copyValley_f (ss : List Sir) (hs : List Int) (h : hs.length ≤ 42) (h' : ss.length ≤ 22) : guidevaneref09_CopyValley.f ss hs = some (ss, hs) := by
  unfold guidevaneref09_CopyValley.f
  simp only [Option.bind_some, List.length_nil, List.nil_append]
  rw [if_pos (by omega), copyInts_f hs (by omega)]
  rfl
theorem openValley_bad {ss : List Sir} {hs : List Int} (h : ¬ (valleyOut ss hs).2 = 0) : dam_openValley.f ss hs = some ([], (valleyOut ss hs).2) := by
  unfold dam_openValley.f dam_CheckValley.f
  simp only [Option.bind_some]
  rw [if_neg h]
theorem covers_k (ss : List Sir) (hs : List Int) (k : Nat) (hk : 980 < k) : guidevanelaw09_DamCovers.f k ss hs = some true := by
  obtain ⟨k, rfl⟩ : ∃ m, k = m + 1 + 1 := ⟨k - 2, by omega⟩
  unfold guidevanelaw09_DamCovers.f guidevanelaw09_awake.f
  simp only [Option.bind_some]
  rw [if_pos (by trivial)]
  unfold guidevanelaw09_fewSirens.f
  by_cases h1 : (ss.length : Int) ≤ 22
  case neg =>
    rw [if_neg h1]
    simp only [Option.bind_some]
    rw [if_neg (by decide)]
    simp only [guidevanelaw09_DamCovers.j0]
    rw [if_pos (by trivial)]
  case pos =>
  rw [if_pos h1]
  simp only [Option.bind_some]
  by_cases h2 : (hs.length : Int) ≤ 42
  case neg =>
    rw [if_neg (by rw [decide_eq_true_eq]; exact h2)]
    simp only [guidevanelaw09_DamCovers.j0]
    rw [if_pos (by trivial)]
  case pos =>
  rw [if_pos (decide_eq_true h2)]
  have hck := fun k hk => rcheckValley_f ss hs (by omega) (by omega) k hk
  have hcp := copyValley_f ss hs (by omega) (by omega)
  have hl : ∃ t4, guidevanelaw09_lightValley.f (k + 1 + 1) ss hs = some t4 ∧ (t4 = true → (valleyOut ss hs).2 = 0 → ss.length ≤ 9) := by
    unfold guidevanelaw09_lightValley.f
    by_cases h9 : (ss.length : Int) ≤ 9
    · rw [if_pos h9]; exact ⟨true, rfl, fun _ _ => by omega⟩
    · rw [if_neg h9]
      unfold guidevaneref09_ValleyErr.f
      rw [hck _ (by omega)]
      refine ⟨_, rfl, fun h he => ?_⟩
      simp [he] at h
  obtain ⟨t4, ht4, hlight⟩ := hl
  rw [ht4]
  simp only [Option.bind_some]
  cases t4
  case false =>
    simp only [guidevanelaw09_DamCovers.j0]
    rw [if_pos (by trivial)]
  case true =>
  have hlight := hlight rfl
  simp only [guidevanelaw09_DamCovers.j0]
  rw [if_neg (by decide), hcp]
  simp only [Option.bind_some]
  rw [show dam_CheckValley.f ss hs = some (valleyOut ss hs) from rfl]
  simp only [Option.bind_some]
  by_cases he : (valleyOut ss hs).2 = 0
  case neg =>
    have hov := openValley_bad he
    have hco : dam_CoverOf.f (k + 1) ss hs = some ([], (valleyOut ss hs).2) := by
      unfold dam_CoverOf.f
      rw [hov]
      simp only [Option.bind_some]
      rw [if_neg he]
    rw [hco]
    simp only [Option.bind_some]
    rw [show dam_PackingOf.f ss hs = dam_openValley.f ss hs from rfl, hov]
    simp only [Option.bind_some]
    rw [hck _ (by omega)]
    simp only [Option.bind_some]
    rw [if_pos (by trivial)]
    simp only [guidevanelaw09_DamCovers.j1, bne_self_eq_false]
    rw [if_neg (by decide), if_neg he, if_pos (by trivial), if_pos (by trivial)]
    simp [wrap64]
  case pos =>
  obtain ⟨hv, h20, h40⟩ := valley_ok he
  have h9 := hlight he
  have hx : ∀ h : Nat, 0 ≤ hs.getD h 0 := fun h => by
    rcases Nat.lt_or_ge h hs.length with hh | hh
    · exact (hv.2 _ (getD_mem hs h 0 hh)).1
    · rw [List.getD_eq_getElem?_getD, List.getElem?_eq_none hh]; exact Int.le_refl _
  have hsw : dam_valley_sweep.f ss hs [] 0 = some (sweepOut ss hs [] 0) := sweep_at ss hs [] 0 hv h40 (by intro q hq; simp at hq) (Nat.zero_le _)
  have hov : dam_openValley.f ss hs = (if (sweepOut ss hs [] 0).1.length ≤ 12 then some (insTo ltI (sweepOut ss hs [] 0).1.length (sweepOut ss hs [] 0).1, unlessV (sweepOut ss hs [] 0).2 12) else none) := by
    unfold dam_openValley.f dam_CheckValley.f
    simp only [Option.bind_some]
    rw [if_pos he, hsw]
    rfl
  rcases sweepOut_spec ss hs [] 0 hx with ⟨hP, hno⟩ | ⟨P, hP, ⟨T, hT, hTl, hTc⟩, hle, _⟩
  · rw [hP] at hov
    have hov2 : dam_openValley.f ss hs = some ([], 12) := hov
    have hco : dam_CoverOf.f (k + 1) ss hs = some ([], 12) := by
      unfold dam_CoverOf.f
      rw [hov2]
      simp only [Option.bind_some]
      rw [if_neg (by decide)]
    rw [hco]
    simp only [Option.bind_some]
    rw [show dam_PackingOf.f ss hs = dam_openValley.f ss hs from rfl, hov2]
    simp only [Option.bind_some]
    rw [hck _ (by omega)]
    simp only [Option.bind_some]
    rw [if_pos (by trivial)]
    simp only [guidevanelaw09_DamCovers.j1, bne_self_eq_false]
    rw [if_neg (by decide), if_pos he]
    have hcn : guidevaneref09_Cover.f k ss hs = some ([], false) := cover_none ss hs hv h40 h9 (fun T hT hc => hno T hT (by simpa using hc)) (ss.length + 1) 0 k (by omega) (by omega)
    rw [hcn]
    simp only [Option.bind_some]
    rw [if_neg (by decide), if_pos (by trivial), if_pos (by trivial)]
    simp [wrap64]
  · rw [hP] at hov
    have hall : okIdx ss 0 ((List.range ss.length).map fun n : Nat => (n : Int)) := by
      intro q hq
      obtain ⟨n, hn, rfl⟩ := List.mem_map.1 hq
      have := List.mem_range.1 hn
      omega
    have hPl : P.length ≤ ss.length := by
      have := hle _ hall (cov_congr (fun q hq => by
        have hq2 : q ∈ T := by simpa using hq
        have := hT q hq2
        refine List.mem_append_right _ (List.mem_map.2 ⟨q.toNat, List.mem_range.2 (by omega), by omega⟩)) hTc)
      simpa using this
    have hov2 : dam_openValley.f ss hs = some (insTo ltI P.length P, 0) := by rw [hov, if_pos (by show P.length ≤ 12; omega)]; rfl
    obtain ⟨l, hl1, hl2, hl3⟩ := cover_some ss hs hv h40 h9 hx P.length hPl (fun T hT hc => hle T hT (by simpa using hc)) ⟨T, hT, hTl, by simpa using hTc⟩ (k + 1) (by omega)
    have hco : dam_CoverOf.f (k + 1) ss hs = some (l, 0) := by
      unfold dam_CoverOf.f
      rw [hov2]
      simp only [Option.bind_some]
      rw [if_pos (by trivial), insTo_len, hl1]
      rfl
    rw [hco]
    simp only [Option.bind_some]
    rw [show dam_PackingOf.f ss hs = dam_openValley.f ss hs from rfl, hov2]
    simp only [Option.bind_some]
    rw [hck _ (by omega)]
    simp only [Option.bind_some]
    rw [if_pos (by trivial)]
    simp only [guidevanelaw09_DamCovers.j1, bne_self_eq_false]
    rw [if_neg (by decide), if_pos he]
    have hcn : guidevaneref09_Cover.f k ss hs = some (l, true) := hl3 P.length 0 k (by omega) (by omega)
    rw [hcn]
    simp only [Option.bind_some]
    rw [if_pos (by trivial), if_pos (by trivial), ints_self l (by omega) k (by omega)]
    simp only [Option.bind_some]
    rw [if_pos (by trivial), if_pos (by trivial), insTo_len, hl2]
    simp
theorem DamCovers_pure (ss : List Sir) (hs : List Int) : guidevanelaw09_DamCovers.f 1000 ss hs = some true := covers_k ss hs 1000 (by omega)
end Go.Proofs.Yteopooljohdoiaa.Px
