/- DamCovers: for every input the call returns true and each argument reads afterwards as it read before; no condition. -/
import Derived.Test.YteopooljohdoiaaRows
import Derived.Test.YteopooljohdoiaaDDamCovers2
import Derived.Test.YteopooljohdoiaaK3
import Derived.WalkKit
import Derived.ProofKit
import Derived.OpenShut
import Derived.ShutString
import Derived.ChangeOld
import Derived.Below
import Derived.SizedLaws
set_option linter.unusedVariables false
set_option linter.unusedSimpArgs false
namespace Go.Proofs.Yteopooljohdoiaa.damCovers
open Go.ChangeShapes Go.WideShapes Go.ChangeAt Go.RowKit Go.Proofs.Yteopooljohdoiaa.Px Go.Proofs.YteopooljohdoiaaW.PrintWords
open Go.ChangeMaps (open_string shut_string)
theorem own : ownKnob Try.prog.godebug = none := by kernel_rfl
theorem laidOut : laidOutB Try.prog = true := by kernel_rfl
set_option maxRecDepth 100000 in
theorem lifted (os : Os) (started : os.Started) (H : Type) (enc : TypeId × Value → H) :
    ReturnsInHanded {} Try.checked os 4 .any (Rows.damCoversSpec.pre6 enc Try.prog Try.f4 Rows.damCoversRow.domain false) (Rows.damCoversSpec.post enc Try.prog Try.f4 false true false false) := by
  refine returnsInHanded_of_change_sized (C := Try.checked) own started (by kernel_rfl) Try.func4
    (ChangeSpec.witness6 (enc := enc) (C := Try.checked) false ⟨#[], #[.agg #[.slice none 0 0, .slice none 0 0]], []⟩ 8 (by kernel_rfl) (by kernel_rfl) (by kernel_rfl) (by kernel_rfl)) ?_
  intro W base args ds gs before hval0 hW hcnd hsz0 _
  have hval : ∀ (j : Nat) t v, Try.f4.params[j]? = some t → args[j]? = some v → Value.okWide Try.prog W .any base t v := hval0
  have hW' := hW
  obtain ⟨p, q, hA0, hV, rfl, hfz, hnd⟩ := hW
  have hA : DataW.TrodAll enc Try.prog W 0 (fun _ => true) true Try.f4.params.toList args.toList ds p := hA0
  rw [Try.params4] at hA hval
  obtain ⟨v0, vs0, d0, ds0, p0, q0, hargs, rfl, rfl, h0, r0⟩ := trodAll_cons hA
  obtain ⟨rfl, rfl, rfl⟩ := trodAll_nil r0
  obtain rfl : args = #[v0] := by cases args; simp_all
  obtain ⟨rfl, rfl⟩ := trodVars_none hV
  have k0 := h0
  have lt0 : ∀ x ∈ p0, x.block < W.heap.size := by obtain ⟨m, hm⟩ := k0; exact DataW.trod_lt m _ _ _ hm
  obtain ⟨cs0, rfl, hsz0⟩ := okWide_struct Try.underlying39 (hval 0 39 v0 rfl rfl)
  obtain ⟨fuel0, hf0⟩ := h0
  obtain ⟨y0, hK0, o0⟩ := (Opens.iso (Opens.struct Try.underlying39 (by kernel_rfl) (by intro i f h; rcases i with _ | _ | i <;> simp at h <;> subst h <;> kernel_rfl) (OpensL.cons (Opens.slice Try.underlying37 (by kernel_rfl) (Opens.iso (Opens.struct Try.underlying112 (by kernel_rfl) (by intro i f h; rcases i with _ | _ | i <;> simp at h <;> subst h <;> kernel_rfl) (OpensL.cons (Opens.int (k := .i64) Try.underlying3) (OpensL.one (Opens.int (k := .i64) Try.underlying3)))) (fun x : S112 => (x.f0, x.f1)) (fun y => (⟨y.1, y.2⟩ : S112)) (fun _ => rfl))) (OpensL.one (Opens.slice Try.underlying22 (by kernel_rfl) (Opens.int (k := .i64) Try.underlying3))))) (fun x : S39 => (x.f0, x.f1)) (fun y => (⟨y.1, y.2⟩ : S39)) (fun _ => rfl)) enc W _ _ _ hf0
  have hK0 : k39.K W y0 cs0.toList := hK0
  obtain ⟨A0_0, c0_0, A0_1, c0_1, e0, l0_0, g0_0, l0_1, g0_1⟩ := k39_open hK0
  obtain rfl : cs0 = #[.slice A0_0 y0.f0.length c0_0, .slice A0_1 y0.f1.length c0_1] := Array.toList_inj.1 e0
  clear hA0 hval0 hsz0
  have hp : guidevanelaw09_DamCovers.f 1000 (y0.f0) (y0.f1) = some true := DamCovers_pure _ _
  refine (guidevanelaw09_DamCovers.calls 1000 A0_0 c0_0 y0.f0 A0_1 c0_1 y0.f1 true W g0_0 l0_0 g0_1 l0_1 hp).mono fun e W' ⟨he, bel⟩ => ?_
  subst he
  exact ⟨_, rfl, _, _, _, [], _, [], hW', trodAll_mk1 (shut_bool Try.underlying4 _), (trodAll_cons_mk (Below.trod laidOut (by kernel_rfl) (of_decide_eq_true (by kernel_rfl)) k0 bel lt0) trodAll_mk0), rfl, bel.frame _, fun h => by cases h⟩
theorem over : Rows.damCoversRow.holds Try.pinned (OpenSpec.ofChange Rows.damCoversSpec) :=
  OpenClaim.holds_of_wide 4 Try.f4 rfl rfl rfl rfl rfl rfl rfl ⟨rfl, rfl, rfl, rfl, rfl⟩ rfl rfl rfl rfl rfl (by kernel_rfl) Try.func4 (by kernel_rfl)
    (of_decide_eq_true (by kernel_rfl)) (by unfold Func.isWrapper; first | (rw [if_pos (by decide +kernel)]; kernel_rfl) | (rw [if_neg (by decide +kernel)]; exact ⟨rfl, rfl⟩))
    (fun os started H enc _ => lifted os started H enc)
theorem proved : Rows.DamCoversSaid := over
#print axioms proved
end Go.Proofs.Yteopooljohdoiaa.damCovers
namespace Go.Proofs.Yteopooljohdoiaa
theorem damCovers_holds : Rows.DamCoversSaid := damCovers.proved
end Go.Proofs.Yteopooljohdoiaa
