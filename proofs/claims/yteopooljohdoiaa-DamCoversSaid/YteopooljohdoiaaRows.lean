/-
  No cell of these rows narrows 'for every input' (looked for: loops, veiled, ifaces, maps, wideKeys, modest, calm, conditions, laid).
  DERIVED. THE GIVEN ROWS OF THIS SEAT. 7 by the template 'for every input the law returns true; each argument reads behind the call as it read before'; 0 by the template 'total and deterministic' (their statements: YteopooljohdoiaaTotals.lean).
  GIVEN WITH THE SEED: the statements are not yours to turn. If you find one false, say at which input.
  Laid BY PROGRAM, IN A SANDBOX (cutbox-rows.mjs): the forced cells as the released guide's own fill.sh prints them over the translation f127fe3439452bb7… (all of the seat's roots in one cut). By AI agents, Wed Nov 11 2026. No macro, syntax, notation, axiom, sorry.
-/
import Derived.Test.YteopooljohdoiaaChecked
import GoSem.Claim
import GoSem.ClaimJoined
import GoSem.ClaimMapViews
import Derived.JoinedTies
import Derived.KernelRfl
namespace Go.Proofs.Yteopooljohdoiaa
/- THE CELL 'sum', in the pinned program and in every row, IS THE sha256 OF THE DUMP (.gsa) THAT YteopooljohdoiaaProg.lean LOADS. Nothing in Lean hashes anything: it is a label: what it is worth is what the hold of that sum in a sandbox is worth. -/
noncomputable def Try.pinned : Pinned := { name := "yteopooljohdoiaa", sum := "f127fe3439452bb7d34ad60cb64691b890b86f6e1bf50d3dceaff58a792ce3cb", checked := Try.checked }
namespace Rows
def none {H : Type} : Left H := { results := [], args := [] }

/-- 'guidevanelaw09.DamBasins': WHATEVER THE INPUT: true; the input reads as it did. -/
def damBasinsSpec : ChangeSpec := { name := "damBasins", fn := fun _ => fun
  | [d1, d2] => { results := [.lit (.bool true)], args := [d1, d2] }
  | _ => none }
def damBasinsRow : OpenClaim := { program := "yteopooljohdoiaa", sum := "f127fe3439452bb7d34ad60cb64691b890b86f6e1bf50d3dceaff58a792ce3cb", func := "guidevane/guidevanelaw09.DamBasins", spec := "damBasins", unfollowed := true, recurses := true, apart := false }
def DamBasinsSaid : Prop := damBasinsRow.holds Try.pinned (OpenSpec.ofChange damBasinsSpec)

/-- ITS FALSE NEIGHBOUR: 'it returns false'. Refute it at one input. -/
def damBasinsWrong : ChangeSpec := { name := "damBasins", fn := fun _ => fun
  | [d1, d2] => { results := [.lit (.bool false)], args := [d1, d2] }
  | _ => none }
def DamBasinsWrongFalsely : Prop := damBasinsRow.holds Try.pinned (OpenSpec.ofChange damBasinsWrong)

/-- 'guidevanelaw09.DamCovers': WHATEVER THE INPUT: true; the input reads as it did. -/
def damCoversSpec : ChangeSpec := { name := "damCovers", fn := fun _ => fun
  | [d] => { results := [.lit (.bool true)], args := [d] }
  | _ => none }
def damCoversRow : OpenClaim := { program := "yteopooljohdoiaa", sum := "f127fe3439452bb7d34ad60cb64691b890b86f6e1bf50d3dceaff58a792ce3cb", func := "guidevane/guidevanelaw09.DamCovers", spec := "damCovers", unfollowed := true, recurses := true, apart := false }
def DamCoversSaid : Prop := damCoversRow.holds Try.pinned (OpenSpec.ofChange damCoversSpec)

/-- ITS FALSE NEIGHBOUR: 'it returns false'. Refute it at one input. -/
def damCoversWrong : ChangeSpec := { name := "damCovers", fn := fun _ => fun
  | [d] => { results := [.lit (.bool false)], args := [d] }
  | _ => none }
def DamCoversWrongFalsely : Prop := damCoversRow.holds Try.pinned (OpenSpec.ofChange damCoversWrong)

/-- 'guidevanelaw09.DamPackings': WHATEVER THE INPUT: true; the input reads as it did. -/
def damPackingsSpec : ChangeSpec := { name := "damPackings", fn := fun _ => fun
  | [d] => { results := [.lit (.bool true)], args := [d] }
  | _ => none }
def damPackingsRow : OpenClaim := { program := "yteopooljohdoiaa", sum := "f127fe3439452bb7d34ad60cb64691b890b86f6e1bf50d3dceaff58a792ce3cb", func := "guidevane/guidevanelaw09.DamPackings", spec := "damPackings", unfollowed := true, recurses := true, apart := false }
def DamPackingsSaid : Prop := damPackingsRow.holds Try.pinned (OpenSpec.ofChange damPackingsSpec)

/-- ITS FALSE NEIGHBOUR: 'it returns false'. Refute it at one input. -/
def damPackingsWrong : ChangeSpec := { name := "damPackings", fn := fun _ => fun
  | [d] => { results := [.lit (.bool false)], args := [d] }
  | _ => none }
def DamPackingsWrongFalsely : Prop := damPackingsRow.holds Try.pinned (OpenSpec.ofChange damPackingsWrong)

/-- 'guidevanelaw09.DamTerms': WHATEVER THE INPUT: true; the input reads as it did. -/
def damTermsSpec : ChangeSpec := { name := "damTerms", fn := fun _ => fun
  | [d] => { results := [.lit (.bool true)], args := [d] }
  | _ => none }
def damTermsRow : OpenClaim := { program := "yteopooljohdoiaa", sum := "f127fe3439452bb7d34ad60cb64691b890b86f6e1bf50d3dceaff58a792ce3cb", func := "guidevane/guidevanelaw09.DamTerms", spec := "damTerms", unfollowed := true, recurses := true, apart := false }
def DamTermsSaid : Prop := damTermsRow.holds Try.pinned (OpenSpec.ofChange damTermsSpec)

/-- ITS FALSE NEIGHBOUR: 'it returns false'. Refute it at one input. -/
def damTermsWrong : ChangeSpec := { name := "damTerms", fn := fun _ => fun
  | [d] => { results := [.lit (.bool false)], args := [d] }
  | _ => none }
def DamTermsWrongFalsely : Prop := damTermsRow.holds Try.pinned (OpenSpec.ofChange damTermsWrong)

/-- 'guidevanetop.TopDamInvariant': WHATEVER THE INPUT: true; the input reads as it did. -/
def topDamInvariantSpec : ChangeSpec := { name := "topDamInvariant", fn := fun _ => fun
  | [d1, d2, d3] => { results := [.lit (.bool true)], args := [d1, d2, d3] }
  | _ => none }
def topDamInvariantRow : OpenClaim := { program := "yteopooljohdoiaa", sum := "f127fe3439452bb7d34ad60cb64691b890b86f6e1bf50d3dceaff58a792ce3cb", func := "guidevane/guidevanetop.TopDamInvariant", spec := "topDamInvariant", unfollowed := true, recurses := true, apart := false }
def TopDamInvariantSaid : Prop := topDamInvariantRow.holds Try.pinned (OpenSpec.ofChange topDamInvariantSpec)

/-- ITS FALSE NEIGHBOUR: 'it returns false'. Refute it at one input. -/
def topDamInvariantWrong : ChangeSpec := { name := "topDamInvariant", fn := fun _ => fun
  | [d1, d2, d3] => { results := [.lit (.bool false)], args := [d1, d2, d3] }
  | _ => none }
def TopDamInvariantWrongFalsely : Prop := topDamInvariantRow.holds Try.pinned (OpenSpec.ofChange topDamInvariantWrong)

/-- 'guidevanelaw09.DamDeviations': WHATEVER THE INPUT: true; the input reads as it did. -/
def damDeviationsSpec : ChangeSpec := { name := "damDeviations", fn := fun _ => fun
  | [d1, d2, d3] => { results := [.lit (.bool true)], args := [d1, d2, d3] }
  | _ => none }
def damDeviationsRow : OpenClaim := { program := "yteopooljohdoiaa", sum := "f127fe3439452bb7d34ad60cb64691b890b86f6e1bf50d3dceaff58a792ce3cb", func := "guidevane/guidevanelaw09.DamDeviations", spec := "damDeviations", unfollowed := true, recurses := true, apart := false }
def DamDeviationsSaid : Prop := damDeviationsRow.holds Try.pinned (OpenSpec.ofChange damDeviationsSpec)

/-- ITS FALSE NEIGHBOUR: 'it returns false'. Refute it at one input. -/
def damDeviationsWrong : ChangeSpec := { name := "damDeviations", fn := fun _ => fun
  | [d1, d2, d3] => { results := [.lit (.bool false)], args := [d1, d2, d3] }
  | _ => none }
def DamDeviationsWrongFalsely : Prop := damDeviationsRow.holds Try.pinned (OpenSpec.ofChange damDeviationsWrong)

/-- 'guidevanelaw09.DamWatches': WHATEVER THE INPUT: true; the input reads as it did. -/
def damWatchesSpec : ChangeSpec := { name := "damWatches", fn := fun _ => fun
  | [d1, d2, d3] => { results := [.lit (.bool true)], args := [d1, d2, d3] }
  | _ => none }
def damWatchesRow : OpenClaim := { program := "yteopooljohdoiaa", sum := "f127fe3439452bb7d34ad60cb64691b890b86f6e1bf50d3dceaff58a792ce3cb", func := "guidevane/guidevanelaw09.DamWatches", spec := "damWatches", unfollowed := true, recurses := true, apart := false }
def DamWatchesSaid : Prop := damWatchesRow.holds Try.pinned (OpenSpec.ofChange damWatchesSpec)

/-- ITS FALSE NEIGHBOUR: 'it returns false'. Refute it at one input. -/
def damWatchesWrong : ChangeSpec := { name := "damWatches", fn := fun _ => fun
  | [d1, d2, d3] => { results := [.lit (.bool false)], args := [d1, d2, d3] }
  | _ => none }
def DamWatchesWrongFalsely : Prop := damWatchesRow.holds Try.pinned (OpenSpec.ofChange damWatchesWrong)

/- THE SECOND FORM. 'bulk': how many values and letters a reading holds, each counted each time it is reached (what is shared counts as often as it is met; a slice's spare places count too). A statement '..UptoSaid' is the law's where the arguments, and the package variables that the reading takes, are together of bulk at most 1048576: NARROWER than '..Said'. Prove '..Said' where nothing that the law and all that it calls make is longer than what came in: it says more and counts as full. Else prove '..UptoSaid'. A law counts once. -/
mutual
def uptoBulk {H : Type} : DataW H → Nat
  | .lit (.string bytes) => bytes.length + 1
  | .lit _ => 1
  | .nil => 1
  | .ptr d => uptoBulk d + 1
  | .slice elems spare => uptoBulkAll elems + uptoBulkAll spare + 1
  | .agg parts => uptoBulkAll parts + 1
  | .iface _ d => uptoBulk d + 1
  | .map entries => uptoBulkEntries entries + 1
  | .held _ => 1
def uptoBulkAll {H : Type} : List (DataW H) → Nat
  | [] => 0
  | d :: r => uptoBulk d + uptoBulkAll r
def uptoBulkEntries {H : Type} : List (Lit × DataW H) → Nat
  | [] => 0
  | x :: r => uptoBulkEntry x + uptoBulkEntries r
def uptoBulkEntry {H : Type} : Lit × DataW H → Nat
  | (.string bytes, d) => bytes.length + uptoBulk d + 1
  | (_, d) => uptoBulk d + 1
 end
def uptoSmall : (H : Type) → List (DataW H) → Bool := fun _ ds => decide (uptoBulkAll ds ≤ 1048576)
def OpenSpec.upto (s : _root_.Go.ChangeSpec) : _root_.Go.OpenSpec := { _root_.Go.OpenSpec.ofChange s with cond := some uptoSmall }

/-- 'guidevanelaw09.DamBasins', WHERE WHAT IT READS IS OF BULK AT MOST 1048576: true; the input reads as it did. -/
def damBasinsUptoRow : OpenClaim := { program := "yteopooljohdoiaa", sum := "f127fe3439452bb7d34ad60cb64691b890b86f6e1bf50d3dceaff58a792ce3cb", func := "guidevane/guidevanelaw09.DamBasins", spec := "damBasins", unfollowed := true, recurses := true, apart := false, narrowed := true }
def DamBasinsUptoSaid : Prop := damBasinsUptoRow.holds Try.pinned (OpenSpec.upto damBasinsSpec)

/-- 'guidevanelaw09.DamCovers', WHERE WHAT IT READS IS OF BULK AT MOST 1048576: true; the input reads as it did. -/
def damCoversUptoRow : OpenClaim := { program := "yteopooljohdoiaa", sum := "f127fe3439452bb7d34ad60cb64691b890b86f6e1bf50d3dceaff58a792ce3cb", func := "guidevane/guidevanelaw09.DamCovers", spec := "damCovers", unfollowed := true, recurses := true, apart := false, narrowed := true }
def DamCoversUptoSaid : Prop := damCoversUptoRow.holds Try.pinned (OpenSpec.upto damCoversSpec)

/-- 'guidevanelaw09.DamPackings', WHERE WHAT IT READS IS OF BULK AT MOST 1048576: true; the input reads as it did. -/
def damPackingsUptoRow : OpenClaim := { program := "yteopooljohdoiaa", sum := "f127fe3439452bb7d34ad60cb64691b890b86f6e1bf50d3dceaff58a792ce3cb", func := "guidevane/guidevanelaw09.DamPackings", spec := "damPackings", unfollowed := true, recurses := true, apart := false, narrowed := true }
def DamPackingsUptoSaid : Prop := damPackingsUptoRow.holds Try.pinned (OpenSpec.upto damPackingsSpec)

/-- 'guidevanelaw09.DamTerms', WHERE WHAT IT READS IS OF BULK AT MOST 1048576: true; the input reads as it did. -/
def damTermsUptoRow : OpenClaim := { program := "yteopooljohdoiaa", sum := "f127fe3439452bb7d34ad60cb64691b890b86f6e1bf50d3dceaff58a792ce3cb", func := "guidevane/guidevanelaw09.DamTerms", spec := "damTerms", unfollowed := true, recurses := true, apart := false, narrowed := true }
def DamTermsUptoSaid : Prop := damTermsUptoRow.holds Try.pinned (OpenSpec.upto damTermsSpec)

/-- 'guidevanetop.TopDamInvariant', WHERE WHAT IT READS IS OF BULK AT MOST 1048576: true; the input reads as it did. -/
def topDamInvariantUptoRow : OpenClaim := { program := "yteopooljohdoiaa", sum := "f127fe3439452bb7d34ad60cb64691b890b86f6e1bf50d3dceaff58a792ce3cb", func := "guidevane/guidevanetop.TopDamInvariant", spec := "topDamInvariant", unfollowed := true, recurses := true, apart := false, narrowed := true }
def TopDamInvariantUptoSaid : Prop := topDamInvariantUptoRow.holds Try.pinned (OpenSpec.upto topDamInvariantSpec)

/-- 'guidevanelaw09.DamDeviations', WHERE WHAT IT READS IS OF BULK AT MOST 1048576: true; the input reads as it did. -/
def damDeviationsUptoRow : OpenClaim := { program := "yteopooljohdoiaa", sum := "f127fe3439452bb7d34ad60cb64691b890b86f6e1bf50d3dceaff58a792ce3cb", func := "guidevane/guidevanelaw09.DamDeviations", spec := "damDeviations", unfollowed := true, recurses := true, apart := false, narrowed := true }
def DamDeviationsUptoSaid : Prop := damDeviationsUptoRow.holds Try.pinned (OpenSpec.upto damDeviationsSpec)

/-- 'guidevanelaw09.DamWatches', WHERE WHAT IT READS IS OF BULK AT MOST 1048576: true; the input reads as it did. -/
def damWatchesUptoRow : OpenClaim := { program := "yteopooljohdoiaa", sum := "f127fe3439452bb7d34ad60cb64691b890b86f6e1bf50d3dceaff58a792ce3cb", func := "guidevane/guidevanelaw09.DamWatches", spec := "damWatches", unfollowed := true, recurses := true, apart := false, narrowed := true }
def DamWatchesUptoSaid : Prop := damWatchesUptoRow.holds Try.pinned (OpenSpec.upto damWatchesSpec)

end Rows
end Go.Proofs.Yteopooljohdoiaa
