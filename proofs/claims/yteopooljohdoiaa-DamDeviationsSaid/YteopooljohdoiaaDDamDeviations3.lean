/- DamDeviations: for every input the call returns true and each argument reads afterwards as it read before; no condition. -/
import Derived.Test.YteopooljohdoiaaRows
import Derived.Test.YteopooljohdoiaaDDamDeviations2
import Derived.Test.YteopooljohdoiaaK4
import Derived.WalkKit
import Derived.ProofKit
import Derived.OpenShut
import Derived.ShutString
import Derived.ChangeOld
import Derived.Below
import Derived.SizedLaws
set_option linter.unusedVariables false
set_option linter.unusedSimpArgs false
namespace Go.Proofs.Yteopooljohdoiaa.damDeviations
open Go.ChangeShapes Go.WideShapes Go.ChangeAt Go.RowKit Go.Proofs.Yteopooljohdoiaa.Px Go.Proofs.YteopooljohdoiaaW.PrintWords
open Go.ChangeMaps (open_string shut_string)
theorem own : ownKnob Try.prog.godebug = none := by kernel_rfl
theorem laidOut : laidOutB Try.prog = true := by kernel_rfl
set_option maxRecDepth 100000 in
theorem lifted (os : Os) (started : os.Started) (H : Type) (enc : TypeId × Value → H) :
    ReturnsInHanded {} Try.checked os 8 .any (Rows.damDeviationsSpec.pre6 enc Try.prog Try.f8 Rows.damDeviationsRow.domain false) (Rows.damDeviationsSpec.post enc Try.prog Try.f8 false true false false) := by
  refine returnsInHanded_of_change_sized (C := Try.checked) own started (by kernel_rfl) Try.func8
    (ChangeSpec.witness6 (enc := enc) (C := Try.checked) false ⟨#[], #[.agg #[.slice none 0 0, .slice none 0 0, .int .i64 0, .slice none 0 0], .slice none 0 0, .agg #[.int .i64 0, .int .i64 0]], []⟩ 8 (by kernel_rfl) (by kernel_rfl) (by kernel_rfl) (by kernel_rfl)) ?_
  intro W base args ds gs before hval0 hW hcnd hsz0 _
  have hval : ∀ (j : Nat) t v, Try.f8.params[j]? = some t → args[j]? = some v → Value.okWide Try.prog W .any base t v := hval0
  have hW' := hW
  obtain ⟨p, q, hA0, hV, rfl, hfz, hnd⟩ := hW
  have hA : DataW.TrodAll enc Try.prog W 0 (fun _ => true) true Try.f8.params.toList args.toList ds p := hA0
  rw [Try.params8] at hA hval
  obtain ⟨v0, vs0, d0, ds0, p0, q0, hargs, rfl, rfl, h0, r0⟩ := trodAll_cons hA
  obtain ⟨v1, vs1, d1, ds1, p1, q1, rfl, rfl, rfl, h1, r1⟩ := trodAll_cons r0
  obtain ⟨v2, vs2, d2, ds2, p2, q2, rfl, rfl, rfl, h2, r2⟩ := trodAll_cons r1
  obtain ⟨rfl, rfl, rfl⟩ := trodAll_nil r2
  obtain rfl : args = #[v0, v1, v2] := by cases args; simp_all
  obtain ⟨rfl, rfl⟩ := trodVars_none hV
  have k0 := h0
  have lt0 : ∀ x ∈ p0, x.block < W.heap.size := by obtain ⟨m, hm⟩ := k0; exact DataW.trod_lt m _ _ _ hm
  obtain ⟨cs0, rfl, hsz0⟩ := okWide_struct Try.underlying85 (hval 0 85 v0 rfl rfl)
  obtain ⟨fuel0, hf0⟩ := h0
  obtain ⟨y0, hK0, o0⟩ := (Opens.iso (Opens.struct Try.underlying85 (by kernel_rfl) (by intro i f h; rcases i with _ | _ | _ | _ | i <;> simp at h <;> subst h <;> kernel_rfl) (OpensL.cons (Opens.slice Try.underlying22 (by kernel_rfl) (Opens.int (k := .i64) Try.underlying3)) (OpensL.cons (Opens.slice Try.underlying22 (by kernel_rfl) (Opens.int (k := .i64) Try.underlying3)) (OpensL.cons (Opens.int (k := .i64) Try.underlying3) (OpensL.one (Opens.slice Try.underlying83 (by kernel_rfl) (Opens.iso (Opens.struct Try.underlying135 (by kernel_rfl) (by intro i f h; rcases i with _ | _ | i <;> simp at h <;> subst h <;> kernel_rfl) (OpensL.cons (Opens.str Try.underlying9) (OpensL.one (Opens.int (k := .i64) Try.underlying3)))) (fun x : S135 => (x.f0, x.f1)) (fun y => (⟨y.1, y.2⟩ : S135)) (fun _ => rfl)))))))) (fun x : S85 => (x.f0, x.f1, x.f2, x.f3)) (fun y => (⟨y.1, y.2.1, y.2.2.1, y.2.2.2⟩ : S85)) (fun _ => rfl)) enc W _ _ _ hf0
  have hK0 : k85.K W y0 cs0.toList := hK0
  obtain ⟨A0_0, c0_0, A0_1, c0_1, A0_3, c0_3, e0, l0_0, g0_0, l0_1, g0_1, l0_3, g0_3⟩ := k85_open hK0
  obtain rfl : cs0 = #[.slice A0_0 y0.f0.length c0_0, .slice A0_1 y0.f1.length c0_1, .int .i64 y0.f2, .slice A0_3 y0.f3.length c0_3] := Array.toList_inj.1 e0
  have k1 := h1
  have lt1 : ∀ x ∈ p1, x.block < W.heap.size := by obtain ⟨m, hm⟩ := k1; exact DataW.trod_lt m _ _ _ hm
  obtain ⟨fuel1, hf1⟩ := h1
  obtain ⟨A1, n1, c1, rfl⟩ := okWide_slice Try.underlying22 (hval 1 22 v1 rfl rfl)
  obtain ⟨y1, hK1, o1⟩ := (Opens.slice Try.underlying22 (by kernel_rfl) (Opens.int (k := .i64) Try.underlying3)) enc W _ _ _ hf1
  obtain ⟨a1, m1, e1, l1, g1⟩ := hK1
  simp only [Value.cells, List.cons.injEq, Value.slice.injEq, and_true] at e1
  obtain ⟨rfl, rfl, rfl⟩ := e1
  have k2 := h2
  have lt2 : ∀ x ∈ p2, x.block < W.heap.size := by obtain ⟨m, hm⟩ := k2; exact DataW.trod_lt m _ _ _ hm
  obtain ⟨cs2, rfl, hsz2⟩ := okWide_struct Try.underlying78 (hval 2 78 v2 rfl rfl)
  obtain ⟨fuel2, hf2⟩ := h2
  obtain ⟨y2, hK2, o2⟩ := (Opens.iso (Opens.struct Try.underlying78 (by kernel_rfl) (by intro i f h; rcases i with _ | _ | i <;> simp at h <;> subst h <;> kernel_rfl) (OpensL.cons (Opens.int (k := .i64) Try.underlying3) (OpensL.one (Opens.int (k := .i64) Try.underlying3)))) (fun x : S78 => (x.f0, x.f1)) (fun y => (⟨y.1, y.2⟩ : S78)) (fun _ => rfl)) enc W _ _ _ hf2
  have hK2 : k78.K W y2 cs2.toList := hK2
  obtain e2 := k78_open hK2
  obtain rfl : cs2 = #[.int .i64 y2.f0, .int .i64 y2.f1] := Array.toList_inj.1 e2
  clear hA0 hval0 hsz0
  refine (damDeviations_walk A0_0 c0_0 y0.f0 A0_1 c0_1 y0.f1 (y0.f2) A0_3 c0_3 y0.f3 A1 c1 y1 (y2.f0) (y2.f1) W g0_0 l0_0 g0_1 l0_1 g0_3 l0_3 g1 l1).mono fun e W' ⟨he, bel⟩ => ?_
  subst he
  exact ⟨_, rfl, _, _, _, [], _, [], hW', trodAll_mk1 (shut_bool Try.underlying4 _), (trodAll_cons_mk (Below.trod laidOut (by kernel_rfl) (of_decide_eq_true (by kernel_rfl)) k0 bel lt0) (trodAll_cons_mk (Below.trod laidOut (by kernel_rfl) (of_decide_eq_true (by kernel_rfl)) k1 bel lt1) (trodAll_cons_mk (Below.trod laidOut (by kernel_rfl) (of_decide_eq_true (by kernel_rfl)) k2 bel lt2) trodAll_mk0))), rfl, bel.frame _, fun h => by cases h⟩
theorem over : Rows.damDeviationsRow.holds Try.pinned (OpenSpec.ofChange Rows.damDeviationsSpec) :=
  OpenClaim.holds_of_wide 8 Try.f8 rfl rfl rfl rfl rfl rfl rfl ⟨rfl, rfl, rfl, rfl, rfl⟩ rfl rfl rfl rfl rfl (by kernel_rfl) Try.func8 (by kernel_rfl)
    (of_decide_eq_true (by kernel_rfl)) (by unfold Func.isWrapper; first | (rw [if_pos (by decide +kernel)]; kernel_rfl) | (rw [if_neg (by decide +kernel)]; exact ⟨rfl, rfl⟩))
    (fun os started H enc _ => lifted os started H enc)
theorem proved : Rows.DamDeviationsSaid := over
#print axioms proved
end Go.Proofs.Yteopooljohdoiaa.damDeviations
namespace Go.Proofs.Yteopooljohdoiaa
theorem damDeviations_holds : Rows.DamDeviationsSaid := damDeviations.proved
end Go.Proofs.Yteopooljohdoiaa
