/- DamLowers: for every input the call returns true and each argument reads afterwards as it read before; no condition. -/
import Derived.Test.YteopooljohdoiaaGreatRows
import Derived.Test.YteopooljohdoiaaGreatDDamLowers2
import Derived.Test.YteopooljohdoiaaGreatK3
import Derived.WalkKit
import Derived.ProofKit
import Derived.OpenShut
import Derived.ShutString
import Derived.ChangeOld
import Derived.Below
import Derived.SizedLaws
set_option linter.unusedVariables false
set_option linter.unusedSimpArgs false
namespace Go.Proofs.YteopooljohdoiaaGreat.damLowers
open Go.ChangeShapes Go.WideShapes Go.ChangeAt Go.RowKit Go.Proofs.YteopooljohdoiaaGreat.Px Go.Proofs.YteopooljohdoiaaGreatW.PrintWords
open Go.ChangeMaps (open_string shut_string)
theorem own : ownKnob Tryz.prog.godebug = none := by kernel_rfl
theorem laidOut : laidOutB Tryz.prog = true := by kernel_rfl
set_option maxRecDepth 100000 in
theorem lifted (os : Os) (started : os.Started) (H : Type) (enc : TypeId × Value → H) :
    ReturnsInHanded {} Tryz.checked os 3 .any (Rows.damLowersSpec.pre6 enc Tryz.prog Tryz.f3 Rows.damLowersRow.domain false) (Rows.damLowersSpec.post enc Tryz.prog Tryz.f3 false true false false) := by
  refine returnsInHanded_of_change_sized (C := Tryz.checked) own started (by kernel_rfl) Tryz.func3
    (ChangeSpec.witness6 (enc := enc) (C := Tryz.checked) false ⟨#[], #[.agg #[.slice none 0 0, .slice none 0 0, .int .i64 0, .slice none 0 0], .agg #[.int .i64 0, .int .i64 0, .int .i64 0], .agg #[.string ByteArray.empty, .int .i64 0]], []⟩ 8 (by kernel_rfl) (by kernel_rfl) (by kernel_rfl) (by kernel_rfl)) ?_
  intro W base args ds gs before hval0 hW hcnd hsz0 _
  have hval : ∀ (j : Nat) t v, Tryz.f3.params[j]? = some t → args[j]? = some v → Value.okWide Tryz.prog W .any base t v := hval0
  have hW' := hW
  obtain ⟨p, q, hA0, hV, rfl, hfz, hnd⟩ := hW
  have hA : DataW.TrodAll enc Tryz.prog W 0 (fun _ => true) true Tryz.f3.params.toList args.toList ds p := hA0
  rw [Tryz.params3] at hA hval
  obtain ⟨v0, vs0, d0, ds0, p0, q0, hargs, rfl, rfl, h0, r0⟩ := trodAll_cons hA
  obtain ⟨v1, vs1, d1, ds1, p1, q1, rfl, rfl, rfl, h1, r1⟩ := trodAll_cons r0
  obtain ⟨v2, vs2, d2, ds2, p2, q2, rfl, rfl, rfl, h2, r2⟩ := trodAll_cons r1
  obtain ⟨rfl, rfl, rfl⟩ := trodAll_nil r2
  obtain rfl : args = #[v0, v1, v2] := by cases args; simp_all
  obtain ⟨rfl, rfl⟩ := trodVars_none hV
  have k0 := h0
  have lt0 : ∀ x ∈ p0, x.block < W.heap.size := by obtain ⟨m, hm⟩ := k0; exact DataW.trod_lt m _ _ _ hm
  obtain ⟨cs0, rfl, hsz0⟩ := okWide_struct Tryz.underlying25 (hval 0 25 v0 rfl rfl)
  obtain ⟨fuel0, hf0⟩ := h0
  obtain ⟨y0, hK0, o0⟩ := (Opens.iso (Opens.struct Tryz.underlying25 (by kernel_rfl) (by intro i f h; rcases i with _ | _ | _ | _ | i <;> simp at h <;> subst h <;> kernel_rfl) (OpensL.cons (Opens.slice Tryz.underlying22 (by kernel_rfl) (Opens.int (k := .i64) Tryz.underlying3)) (OpensL.cons (Opens.slice Tryz.underlying22 (by kernel_rfl) (Opens.int (k := .i64) Tryz.underlying3)) (OpensL.cons (Opens.int (k := .i64) Tryz.underlying3) (OpensL.one (Opens.slice Tryz.underlying23 (by kernel_rfl) (Opens.iso (Opens.struct Tryz.underlying62 (by kernel_rfl) (by intro i f h; rcases i with _ | _ | i <;> simp at h <;> subst h <;> kernel_rfl) (OpensL.cons (Opens.str Tryz.underlying9) (OpensL.one (Opens.int (k := .i64) Tryz.underlying3)))) (fun x : S62 => (x.f0, x.f1)) (fun y => (⟨y.1, y.2⟩ : S62)) (fun _ => rfl)))))))) (fun x : S25 => (x.f0, x.f1, x.f2, x.f3)) (fun y => (⟨y.1, y.2.1, y.2.2.1, y.2.2.2⟩ : S25)) (fun _ => rfl)) enc W _ _ _ hf0
  have hK0 : k25.K W y0 cs0.toList := hK0
  obtain ⟨A0_0, c0_0, A0_1, c0_1, A0_3, c0_3, e0, l0_0, g0_0, l0_1, g0_1, l0_3, g0_3⟩ := k25_open hK0
  obtain rfl : cs0 = #[.slice A0_0 y0.f0.length c0_0, .slice A0_1 y0.f1.length c0_1, .int .i64 y0.f2, .slice A0_3 y0.f3.length c0_3] := Array.toList_inj.1 e0
  have k1 := h1
  have lt1 : ∀ x ∈ p1, x.block < W.heap.size := by obtain ⟨m, hm⟩ := k1; exact DataW.trod_lt m _ _ _ hm
  obtain ⟨cs1, rfl, hsz1⟩ := okWide_struct Tryz.underlying27 (hval 1 27 v1 rfl rfl)
  obtain ⟨fuel1, hf1⟩ := h1
  obtain ⟨y1, hK1, o1⟩ := (Opens.iso (Opens.struct Tryz.underlying27 (by kernel_rfl) (by intro i f h; rcases i with _ | _ | _ | i <;> simp at h <;> subst h <;> kernel_rfl) (OpensL.cons (Opens.int (k := .i64) Tryz.underlying3) (OpensL.cons (Opens.int (k := .i64) Tryz.underlying3) (OpensL.one (Opens.int (k := .i64) Tryz.underlying3))))) (fun x : S27 => (x.f0, x.f1, x.f2)) (fun y => (⟨y.1, y.2.1, y.2.2⟩ : S27)) (fun _ => rfl)) enc W _ _ _ hf1
  have hK1 : k27.K W y1 cs1.toList := hK1
  obtain e1 := k27_open hK1
  obtain rfl : cs1 = #[.int .i64 y1.f0, .int .i64 y1.f1, .int .i64 y1.f2] := Array.toList_inj.1 e1
  have k2 := h2
  have lt2 : ∀ x ∈ p2, x.block < W.heap.size := by obtain ⟨m, hm⟩ := k2; exact DataW.trod_lt m _ _ _ hm
  obtain ⟨cs2, rfl, hsz2⟩ := okWide_struct Tryz.underlying29 (hval 2 29 v2 rfl rfl)
  obtain ⟨fuel2, hf2⟩ := h2
  obtain ⟨y2, hK2, o2⟩ := (Opens.iso (Opens.struct Tryz.underlying29 (by kernel_rfl) (by intro i f h; rcases i with _ | _ | i <;> simp at h <;> subst h <;> kernel_rfl) (OpensL.cons (Opens.str Tryz.underlying9) (OpensL.one (Opens.int (k := .i64) Tryz.underlying3)))) (fun x : S29 => (x.f0, x.f1)) (fun y => (⟨y.1, y.2⟩ : S29)) (fun _ => rfl)) enc W _ _ _ hf2
  have hK2 : k29.K W y2 cs2.toList := hK2
  obtain e2 := k29_open hK2
  obtain rfl : cs2 = #[.string y2.f0, .int .i64 y2.f1] := Array.toList_inj.1 e2
  clear hA0 hval0 hsz0
  refine (damLowers_walk A0_0 c0_0 y0.f0 A0_1 c0_1 y0.f1 (y0.f2) A0_3 c0_3 y0.f3 (y1.f0) (y1.f1) (y1.f2) (y2.f0) (y2.f1) W g0_0 l0_0 g0_1 l0_1 g0_3 l0_3).mono fun e W' ⟨he, bel⟩ => ?_
  subst he
  exact ⟨_, rfl, _, _, _, [], _, [], hW', trodAll_mk1 (shut_bool Tryz.underlying4 _), (trodAll_cons_mk (Below.trod laidOut (by kernel_rfl) (of_decide_eq_true (by kernel_rfl)) k0 bel lt0) (trodAll_cons_mk (Below.trod laidOut (by kernel_rfl) (of_decide_eq_true (by kernel_rfl)) k1 bel lt1) (trodAll_cons_mk (Below.trod laidOut (by kernel_rfl) (of_decide_eq_true (by kernel_rfl)) k2 bel lt2) trodAll_mk0))), rfl, bel.frame _, fun h => by cases h⟩
theorem over : Rows.damLowersRow.holds Tryz.pinned (OpenSpec.ofChange Rows.damLowersSpec) :=
  OpenClaim.holds_of_wide 3 Tryz.f3 rfl rfl rfl rfl rfl rfl rfl ⟨rfl, rfl, rfl, rfl, rfl⟩ rfl rfl rfl rfl rfl (by kernel_rfl) Tryz.func3 (by kernel_rfl)
    (of_decide_eq_true (by kernel_rfl)) (by unfold Func.isWrapper; first | (rw [if_pos (by decide +kernel)]; kernel_rfl) | (rw [if_neg (by decide +kernel)]; exact ⟨rfl, rfl⟩))
    (fun os started H enc _ => lifted os started H enc)
theorem proved : Rows.DamLowersSaid := over
#print axioms proved
end Go.Proofs.YteopooljohdoiaaGreat.damLowers
namespace Go.Proofs.YteopooljohdoiaaGreat
theorem damLowers_holds : Rows.DamLowersSaid := damLowers.proved
end Go.Proofs.YteopooljohdoiaaGreat
