/- DamTerms: for every input the call returns true and each argument reads afterwards as it read before; no condition. -/
import Derived.Test.YteopooljohdoiaaRows
import Derived.Test.YteopooljohdoiaaDDamTerms1
import Derived.Test.YteopooljohdoiaaK4
import Derived.WalkKit
import Derived.ProofKit
import Derived.OpenShut
import Derived.ShutString
import Derived.ChangeOld
import Derived.Below
import Derived.SizedLaws
/- DamTerms: for every input the call returns true and each argument reads afterwards as it read before; no condition. -/
namespace Go.Proofs.Yteopooljohdoiaa.damTerms
open Go.ChangeShapes Go.WideShapes Go.ChangeAt Go.RowKit Go.Proofs.Yteopooljohdoiaa.Px Go.Proofs.YteopooljohdoiaaW.PrintWords
open Go.ChangeMaps (open_string shut_string)
set_option linter.unusedVariables false
theorem own : ownKnob Try.prog.godebug = none := by kernel_rfl
theorem laidOut : laidOutB Try.prog = true := by kernel_rfl
set_option maxRecDepth 100000 in
theorem lifted (os : Os) (started : os.Started) (H : Type) (enc : TypeId × Value → H) :
    ReturnsInHanded {} Try.checked os 6 .any (Rows.damTermsSpec.pre6 enc Try.prog Try.f6 Rows.damTermsRow.domain false) (Rows.damTermsSpec.post enc Try.prog Try.f6 false true false false) := by
  refine returnsInHanded_of_change_sized (C := Try.checked) own started (by kernel_rfl) Try.func6
    (ChangeSpec.witness6 (enc := enc) (C := Try.checked) false ⟨#[], #[.agg #[.int .i64 0, .int .i64 0, .int .i64 0]], []⟩ 8 (by kernel_rfl) (by kernel_rfl) (by kernel_rfl) (by kernel_rfl)) ?_
  intro W base args ds gs before hval0 hW hcnd hsz0 _
  have hval : ∀ (j : Nat) t v, Try.f6.params[j]? = some t → args[j]? = some v → Value.okWide Try.prog W .any base t v := hval0
  have hW' := hW
  obtain ⟨p, q, hA0, hV, rfl, hfz, hnd⟩ := hW
  have hA : DataW.TrodAll enc Try.prog W 0 (fun _ => true) true Try.f6.params.toList args.toList ds p := hA0
  rw [Try.params6] at hA hval
  obtain ⟨v0, vs0, d0, ds0, p0, q0, hargs, rfl, rfl, h0, r0⟩ := trodAll_cons hA
  obtain ⟨rfl, rfl, rfl⟩ := trodAll_nil r0
  obtain rfl : args = #[v0] := by cases args; simp_all
  obtain ⟨rfl, rfl⟩ := trodVars_none hV
  have k0 := h0
  have lt0 : ∀ x ∈ p0, x.block < W.heap.size := by obtain ⟨m, hm⟩ := k0; exact DataW.trod_lt m _ _ _ hm
  obtain ⟨cs0, rfl, hsz0⟩ := okWide_struct Try.underlying53 (hval 0 53 v0 rfl rfl)
  obtain ⟨fuel0, hf0⟩ := h0
  obtain ⟨y0, hK0, o0⟩ := (Opens.iso (Opens.struct Try.underlying53 (by kernel_rfl) (by intro i f h; rcases i with _ | _ | _ | i <;> simp at h <;> subst h <;> kernel_rfl) (OpensL.cons (Opens.int (k := .i64) Try.underlying3) (OpensL.cons (Opens.int (k := .i64) Try.underlying3) (OpensL.one (Opens.int (k := .i64) Try.underlying3))))) (fun x : S53 => (x.f0, x.f1, x.f2)) (fun y => (⟨y.1, y.2.1, y.2.2⟩ : S53)) (fun _ => rfl)) enc W _ _ _ hf0
  have hK0 : k53.K W y0 cs0.toList := hK0
  obtain e0 := k53_open hK0
  obtain rfl : cs0 = #[.int .i64 y0.f0, .int .i64 y0.f1, .int .i64 y0.f2] := Array.toList_inj.1 e0
  clear hA0 hval0 hsz0
  have hp : guidevanelaw09_DamTerms.f (y0.f0) (y0.f1) (y0.f2) = some true := DamTerms_pure _ _ _
  refine (guidevanelaw09_DamTerms.calls y0.f0 y0.f1 y0.f2 true W  hp).mono fun e W' ⟨he, bel⟩ => ?_
  subst he
  exact ⟨_, rfl, _, _, _, [], _, [], hW', trodAll_mk1 (shut_bool Try.underlying4 _), (trodAll_cons_mk (Below.trod laidOut (by kernel_rfl) (of_decide_eq_true (by kernel_rfl)) k0 bel lt0) trodAll_mk0), rfl, bel.frame _, fun h => by cases h⟩
theorem over : Rows.damTermsRow.holds Try.pinned (OpenSpec.ofChange Rows.damTermsSpec) :=
  OpenClaim.holds_of_wide 6 Try.f6 rfl rfl rfl rfl rfl rfl rfl ⟨rfl, rfl, rfl, rfl, rfl⟩ rfl rfl rfl rfl rfl (by kernel_rfl) Try.func6 (by kernel_rfl)
    (of_decide_eq_true (by kernel_rfl)) (by unfold Func.isWrapper; first | (rw [if_pos (by decide +kernel)]; kernel_rfl) | (rw [if_neg (by decide +kernel)]; exact ⟨rfl, rfl⟩))
    (fun os started H enc _ => lifted os started H enc)
theorem proved : Rows.DamTermsSaid := over
#print axioms proved
end Go.Proofs.Yteopooljohdoiaa.damTerms
namespace Go.Proofs.Yteopooljohdoiaa
/-- The row, under a short name, for the claim. -/
theorem damTerms_holds : Rows.DamTermsSaid := damTerms.proved
end Go.Proofs.Yteopooljohdoiaa
