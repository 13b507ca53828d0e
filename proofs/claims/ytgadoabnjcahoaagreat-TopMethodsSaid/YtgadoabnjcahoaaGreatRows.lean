/-
  No cell of these rows narrows 'for every input' (looked for: loops, veiled, ifaces, maps, wideKeys, modest, calm, conditions, laid).
  DERIVED. THE GIVEN ROWS OF THIS SEAT. 12 by the template 'for every input the law returns true; each argument reads behind the call as it read before'; 0 by the template 'total and deterministic' (their statements: YtgadoabnjcahoaaGreatTotals.lean).
  GIVEN WITH THE SEED: the statements are not yours to turn. If you find one false, say at which input.
  Laid BY PROGRAM, IN A SANDBOX (cutbox-rows.mjs): the forced cells as the released guide's own fill.sh prints them over the translation 40fa10c32961011d… (all of the seat's roots in one cut). By AI agents, Wed Nov 11 2026. No macro, syntax, notation, axiom, sorry.
-/
import Derived.Test.YtgadoabnjcahoaaGreatChecked
import GoSem.Claim
import GoSem.ClaimJoined
import GoSem.ClaimMapViews
import Derived.JoinedTies
import Derived.KernelRfl
namespace Go.Proofs.YtgadoabnjcahoaaGreat
/- THE CELL 'sum', in the pinned program and in every row, IS THE sha256 OF THE DUMP (.gsa) THAT YtgadoabnjcahoaaGreatProg.lean LOADS. Nothing in Lean hashes anything: it is a label: what it is worth is what the hold of that sum in a sandbox is worth. -/
noncomputable def Tryz.pinned : Pinned := { name := "ytgadoabnjcahoaagreat", sum := "40fa10c32961011d9c2a3348b468117697f2d4cf5d388d210dfba9e8b09155ae", checked := Tryz.checked }
namespace Rows
def none {H : Type} : Left H := { results := [], args := [] }

/-- 'fundadminlaw31.HighwaterChecks': WHATEVER THE INPUT: true; the input reads as it did. -/
def highwaterChecksSpec : ChangeSpec := { name := "highwaterChecks", fn := fun _ => fun
  | [d1, d2] => { results := [.lit (.bool true)], args := [d1, d2] }
  | _ => none }
def highwaterChecksRow : OpenClaim := { program := "ytgadoabnjcahoaagreat", sum := "40fa10c32961011d9c2a3348b468117697f2d4cf5d388d210dfba9e8b09155ae", func := "fundadmin/fundadminlaw31.HighwaterChecks", spec := "highwaterChecks", unfollowed := true, recurses := true, named := ["math/bits.overflowError"], apart := false }
def HighwaterChecksSaid : Prop := highwaterChecksRow.holds Tryz.pinned (OpenSpec.ofChange highwaterChecksSpec)

/-- ITS FALSE NEIGHBOUR: 'it returns false'. Refute it at one input. -/
def highwaterChecksWrong : ChangeSpec := { name := "highwaterChecks", fn := fun _ => fun
  | [d1, d2] => { results := [.lit (.bool false)], args := [d1, d2] }
  | _ => none }
def HighwaterChecksWrongFalsely : Prop := highwaterChecksRow.holds Tryz.pinned (OpenSpec.ofChange highwaterChecksWrong)

/-- 'fundadminlaw31.HighwaterFees': WHATEVER THE INPUT: true; the input reads as it did. -/
def highwaterFeesSpec : ChangeSpec := { name := "highwaterFees", fn := fun _ => fun
  | [d1, d2, d3, d4] => { results := [.lit (.bool true)], args := [d1, d2, d3, d4] }
  | _ => none }
def highwaterFeesRow : OpenClaim := { program := "ytgadoabnjcahoaagreat", sum := "40fa10c32961011d9c2a3348b468117697f2d4cf5d388d210dfba9e8b09155ae", func := "fundadmin/fundadminlaw31.HighwaterFees", spec := "highwaterFees", unfollowed := true, recurses := true, named := ["math/bits.overflowError"], apart := false }
def HighwaterFeesSaid : Prop := highwaterFeesRow.holds Tryz.pinned (OpenSpec.ofChange highwaterFeesSpec)

/-- ITS FALSE NEIGHBOUR: 'it returns false'. Refute it at one input. -/
def highwaterFeesWrong : ChangeSpec := { name := "highwaterFees", fn := fun _ => fun
  | [d1, d2, d3, d4] => { results := [.lit (.bool false)], args := [d1, d2, d3, d4] }
  | _ => none }
def HighwaterFeesWrongFalsely : Prop := highwaterFeesRow.holds Tryz.pinned (OpenSpec.ofChange highwaterFeesWrong)

/-- 'fundadminlaw31.HighwaterOfMadeMarks': WHATEVER THE INPUT: true; the input reads as it did. -/
def highwaterOfMadeMarksSpec : ChangeSpec := { name := "highwaterOfMadeMarks", fn := fun _ => fun
  | [d1, d2] => { results := [.lit (.bool true)], args := [d1, d2] }
  | _ => none }
def highwaterOfMadeMarksRow : OpenClaim := { program := "ytgadoabnjcahoaagreat", sum := "40fa10c32961011d9c2a3348b468117697f2d4cf5d388d210dfba9e8b09155ae", func := "fundadmin/fundadminlaw31.HighwaterOfMadeMarks", spec := "highwaterOfMadeMarks", unfollowed := true, recurses := true, named := ["math/bits.overflowError"], apart := false }
def HighwaterOfMadeMarksSaid : Prop := highwaterOfMadeMarksRow.holds Tryz.pinned (OpenSpec.ofChange highwaterOfMadeMarksSpec)

/-- ITS FALSE NEIGHBOUR: 'it returns false'. Refute it at one input. -/
def highwaterOfMadeMarksWrong : ChangeSpec := { name := "highwaterOfMadeMarks", fn := fun _ => fun
  | [d1, d2] => { results := [.lit (.bool false)], args := [d1, d2] }
  | _ => none }
def HighwaterOfMadeMarksWrongFalsely : Prop := highwaterOfMadeMarksRow.holds Tryz.pinned (OpenSpec.ofChange highwaterOfMadeMarksWrong)

/-- 'fundadminlaw31.HighwaterSpares': WHATEVER THE INPUT: true; the input reads as it did. -/
def highwaterSparesSpec : ChangeSpec := { name := "highwaterSpares", fn := fun _ => fun
  | [d1, d2, d3, d4] => { results := [.lit (.bool true)], args := [d1, d2, d3, d4] }
  | _ => none }
def highwaterSparesRow : OpenClaim := { program := "ytgadoabnjcahoaagreat", sum := "40fa10c32961011d9c2a3348b468117697f2d4cf5d388d210dfba9e8b09155ae", func := "fundadmin/fundadminlaw31.HighwaterSpares", spec := "highwaterSpares", unfollowed := true, recurses := true, named := ["math/bits.overflowError"], apart := false }
def HighwaterSparesSaid : Prop := highwaterSparesRow.holds Tryz.pinned (OpenSpec.ofChange highwaterSparesSpec)

/-- ITS FALSE NEIGHBOUR: 'it returns false'. Refute it at one input. -/
def highwaterSparesWrong : ChangeSpec := { name := "highwaterSpares", fn := fun _ => fun
  | [d1, d2, d3, d4] => { results := [.lit (.bool false)], args := [d1, d2, d3, d4] }
  | _ => none }
def HighwaterSparesWrongFalsely : Prop := highwaterSparesRow.holds Tryz.pinned (OpenSpec.ofChange highwaterSparesWrong)

/-- 'fundadminlaw31.HighwaterIsPaidOnce': WHATEVER THE INPUT: true; the input reads as it did. -/
def highwaterIsPaidOnceSpec : ChangeSpec := { name := "highwaterIsPaidOnce", fn := fun _ => fun
  | [d1, d2, d3] => { results := [.lit (.bool true)], args := [d1, d2, d3] }
  | _ => none }
def highwaterIsPaidOnceRow : OpenClaim := { program := "ytgadoabnjcahoaagreat", sum := "40fa10c32961011d9c2a3348b468117697f2d4cf5d388d210dfba9e8b09155ae", func := "fundadmin/fundadminlaw31.HighwaterIsPaidOnce", spec := "highwaterIsPaidOnce", unfollowed := true, recurses := true, named := ["math/bits.overflowError"], apart := false }
def HighwaterIsPaidOnceSaid : Prop := highwaterIsPaidOnceRow.holds Tryz.pinned (OpenSpec.ofChange highwaterIsPaidOnceSpec)

/-- ITS FALSE NEIGHBOUR: 'it returns false'. Refute it at one input. -/
def highwaterIsPaidOnceWrong : ChangeSpec := { name := "highwaterIsPaidOnce", fn := fun _ => fun
  | [d1, d2, d3] => { results := [.lit (.bool false)], args := [d1, d2, d3] }
  | _ => none }
def HighwaterIsPaidOnceWrongFalsely : Prop := highwaterIsPaidOnceRow.holds Tryz.pinned (OpenSpec.ofChange highwaterIsPaidOnceWrong)

/-- 'fundadminlaw31.HighwaterScales': WHATEVER THE INPUT: true; the input reads as it did. -/
def highwaterScalesSpec : ChangeSpec := { name := "highwaterScales", fn := fun _ => fun
  | [d1, d2, d3] => { results := [.lit (.bool true)], args := [d1, d2, d3] }
  | _ => none }
def highwaterScalesRow : OpenClaim := { program := "ytgadoabnjcahoaagreat", sum := "40fa10c32961011d9c2a3348b468117697f2d4cf5d388d210dfba9e8b09155ae", func := "fundadmin/fundadminlaw31.HighwaterScales", spec := "highwaterScales", unfollowed := true, recurses := true, named := ["math/bits.overflowError"], apart := false }
def HighwaterScalesSaid : Prop := highwaterScalesRow.holds Tryz.pinned (OpenSpec.ofChange highwaterScalesSpec)

/-- ITS FALSE NEIGHBOUR: 'it returns false'. Refute it at one input. -/
def highwaterScalesWrong : ChangeSpec := { name := "highwaterScales", fn := fun _ => fun
  | [d1, d2, d3] => { results := [.lit (.bool false)], args := [d1, d2, d3] }
  | _ => none }
def HighwaterScalesWrongFalsely : Prop := highwaterScalesRow.holds Tryz.pinned (OpenSpec.ofChange highwaterScalesWrong)

/-- 'fundadminlaw32.EqualisationAdjusts': WHATEVER THE INPUT: true; the input reads as it did. -/
def equalisationAdjustsSpec : ChangeSpec := { name := "equalisationAdjusts", fn := fun _ => fun
  | [d1, d2, d3, d4, d5] => { results := [.lit (.bool true)], args := [d1, d2, d3, d4, d5] }
  | _ => none }
def equalisationAdjustsRow : OpenClaim := { program := "ytgadoabnjcahoaagreat", sum := "40fa10c32961011d9c2a3348b468117697f2d4cf5d388d210dfba9e8b09155ae", func := "fundadmin/fundadminlaw32.EqualisationAdjusts", spec := "equalisationAdjusts", unfollowed := true, recurses := true, named := ["math/bits.overflowError"], apart := false }
def EqualisationAdjustsSaid : Prop := equalisationAdjustsRow.holds Tryz.pinned (OpenSpec.ofChange equalisationAdjustsSpec)

/-- ITS FALSE NEIGHBOUR: 'it returns false'. Refute it at one input. -/
def equalisationAdjustsWrong : ChangeSpec := { name := "equalisationAdjusts", fn := fun _ => fun
  | [d1, d2, d3, d4, d5] => { results := [.lit (.bool false)], args := [d1, d2, d3, d4, d5] }
  | _ => none }
def EqualisationAdjustsWrongFalsely : Prop := equalisationAdjustsRow.holds Tryz.pinned (OpenSpec.ofChange equalisationAdjustsWrong)

/-- 'fundadminlaw32.EqualisationOfMadeLots': WHATEVER THE INPUT: true; the input reads as it did. -/
def equalisationOfMadeLotsSpec : ChangeSpec := { name := "equalisationOfMadeLots", fn := fun _ => fun
  | [d] => { results := [.lit (.bool true)], args := [d] }
  | _ => none }
def equalisationOfMadeLotsRow : OpenClaim := { program := "ytgadoabnjcahoaagreat", sum := "40fa10c32961011d9c2a3348b468117697f2d4cf5d388d210dfba9e8b09155ae", func := "fundadmin/fundadminlaw32.EqualisationOfMadeLots", spec := "equalisationOfMadeLots", unfollowed := true, recurses := true, named := ["math/bits.overflowError"], apart := false }
def EqualisationOfMadeLotsSaid : Prop := equalisationOfMadeLotsRow.holds Tryz.pinned (OpenSpec.ofChange equalisationOfMadeLotsSpec)

/-- ITS FALSE NEIGHBOUR: 'it returns false'. Refute it at one input. -/
def equalisationOfMadeLotsWrong : ChangeSpec := { name := "equalisationOfMadeLots", fn := fun _ => fun
  | [d] => { results := [.lit (.bool false)], args := [d] }
  | _ => none }
def EqualisationOfMadeLotsWrongFalsely : Prop := equalisationOfMadeLotsRow.holds Tryz.pinned (OpenSpec.ofChange equalisationOfMadeLotsWrong)

/-- 'fundadmintop.TopMethods': WHATEVER THE INPUT: true; the input reads as it did. -/
def topMethodsSpec : ChangeSpec := { name := "topMethods", fn := fun _ => fun
  | [d] => { results := [.lit (.bool true)], args := [d] }
  | _ => none }
def topMethodsRow : OpenClaim := { program := "ytgadoabnjcahoaagreat", sum := "40fa10c32961011d9c2a3348b468117697f2d4cf5d388d210dfba9e8b09155ae", func := "fundadmin/fundadmintop.TopMethods", spec := "topMethods", unfollowed := true, recurses := true, named := ["math/bits.overflowError"], apart := false }
def TopMethodsSaid : Prop := topMethodsRow.holds Tryz.pinned (OpenSpec.ofChange topMethodsSpec)

/-- ITS FALSE NEIGHBOUR: 'it returns false'. Refute it at one input. -/
def topMethodsWrong : ChangeSpec := { name := "topMethods", fn := fun _ => fun
  | [d] => { results := [.lit (.bool false)], args := [d] }
  | _ => none }
def TopMethodsWrongFalsely : Prop := topMethodsRow.holds Tryz.pinned (OpenSpec.ofChange topMethodsWrong)

/-- 'fundadminlaw32.EqualisationEqualsOwnFunds': WHATEVER THE INPUT: true; the input reads as it did. -/
def equalisationEqualsOwnFundsSpec : ChangeSpec := { name := "equalisationEqualsOwnFunds", fn := fun _ => fun
  | [d] => { results := [.lit (.bool true)], args := [d] }
  | _ => none }
def equalisationEqualsOwnFundsRow : OpenClaim := { program := "ytgadoabnjcahoaagreat", sum := "40fa10c32961011d9c2a3348b468117697f2d4cf5d388d210dfba9e8b09155ae", func := "fundadmin/fundadminlaw32.EqualisationEqualsOwnFunds", spec := "equalisationEqualsOwnFunds", unfollowed := true, recurses := true, named := ["math/bits.overflowError"], apart := false }
def EqualisationEqualsOwnFundsSaid : Prop := equalisationEqualsOwnFundsRow.holds Tryz.pinned (OpenSpec.ofChange equalisationEqualsOwnFundsSpec)

/-- ITS FALSE NEIGHBOUR: 'it returns false'. Refute it at one input. -/
def equalisationEqualsOwnFundsWrong : ChangeSpec := { name := "equalisationEqualsOwnFunds", fn := fun _ => fun
  | [d] => { results := [.lit (.bool false)], args := [d] }
  | _ => none }
def EqualisationEqualsOwnFundsWrongFalsely : Prop := equalisationEqualsOwnFundsRow.holds Tryz.pinned (OpenSpec.ofChange equalisationEqualsOwnFundsWrong)

/-- 'fundadminlaw32.EqualisationForgetsPaidFees': WHATEVER THE INPUT: true; the input reads as it did. -/
def equalisationForgetsPaidFeesSpec : ChangeSpec := { name := "equalisationForgetsPaidFees", fn := fun _ => fun
  | [d] => { results := [.lit (.bool true)], args := [d] }
  | _ => none }
def equalisationForgetsPaidFeesRow : OpenClaim := { program := "ytgadoabnjcahoaagreat", sum := "40fa10c32961011d9c2a3348b468117697f2d4cf5d388d210dfba9e8b09155ae", func := "fundadmin/fundadminlaw32.EqualisationForgetsPaidFees", spec := "equalisationForgetsPaidFees", unfollowed := true, recurses := true, named := ["math/bits.overflowError"], apart := false }
def EqualisationForgetsPaidFeesSaid : Prop := equalisationForgetsPaidFeesRow.holds Tryz.pinned (OpenSpec.ofChange equalisationForgetsPaidFeesSpec)

/-- ITS FALSE NEIGHBOUR: 'it returns false'. Refute it at one input. -/
def equalisationForgetsPaidFeesWrong : ChangeSpec := { name := "equalisationForgetsPaidFees", fn := fun _ => fun
  | [d] => { results := [.lit (.bool false)], args := [d] }
  | _ => none }
def EqualisationForgetsPaidFeesWrongFalsely : Prop := equalisationForgetsPaidFeesRow.holds Tryz.pinned (OpenSpec.ofChange equalisationForgetsPaidFeesWrong)

/-- 'fundadminlaw32.EqualisationFollowsOwnFunds': WHATEVER THE INPUT: true; the input reads as it did. -/
def equalisationFollowsOwnFundsSpec : ChangeSpec := { name := "equalisationFollowsOwnFunds", fn := fun _ => fun
  | [d1, d2] => { results := [.lit (.bool true)], args := [d1, d2] }
  | _ => none }
def equalisationFollowsOwnFundsRow : OpenClaim := { program := "ytgadoabnjcahoaagreat", sum := "40fa10c32961011d9c2a3348b468117697f2d4cf5d388d210dfba9e8b09155ae", func := "fundadmin/fundadminlaw32.EqualisationFollowsOwnFunds", spec := "equalisationFollowsOwnFunds", unfollowed := true, recurses := true, named := ["math/bits.overflowError"], apart := false }
def EqualisationFollowsOwnFundsSaid : Prop := equalisationFollowsOwnFundsRow.holds Tryz.pinned (OpenSpec.ofChange equalisationFollowsOwnFundsSpec)

/-- ITS FALSE NEIGHBOUR: 'it returns false'. Refute it at one input. -/
def equalisationFollowsOwnFundsWrong : ChangeSpec := { name := "equalisationFollowsOwnFunds", fn := fun _ => fun
  | [d1, d2] => { results := [.lit (.bool false)], args := [d1, d2] }
  | _ => none }
def EqualisationFollowsOwnFundsWrongFalsely : Prop := equalisationFollowsOwnFundsRow.holds Tryz.pinned (OpenSpec.ofChange equalisationFollowsOwnFundsWrong)

/- THE SECOND FORM. 'bulk': how many values and letters a reading holds, each counted each time it is reached (what is shared counts as often as it is met; a slice's spare places count too). A statement '..UptoSaid' is the law's where the arguments, and the package variables that the reading takes, are together of bulk at most 1048576: NARROWER than '..Said'. Prove '..Said' where nothing that the law and all that it calls make is longer than what came in: it says more and counts as full. Else prove '..UptoSaid'. A law counts once. -/
mutual
def uptoBulk {H : Type} : DataW H → Nat
  | .lit (.string bytes) => bytes.length + 1
  | .lit _ => 1
  | .nil => 1
  | .ptr d => uptoBulk d + 1
  | .slice elems spare => uptoBulkAll elems + uptoBulkAll spare + 1
  | .agg parts => uptoBulkAll parts + 1
  | .iface _ d => uptoBulk d + 1
  | .map entries => uptoBulkEntries entries + 1
  | .held _ => 1
def uptoBulkAll {H : Type} : List (DataW H) → Nat
  | [] => 0
  | d :: r => uptoBulk d + uptoBulkAll r
def uptoBulkEntries {H : Type} : List (Lit × DataW H) → Nat
  | [] => 0
  | x :: r => uptoBulkEntry x + uptoBulkEntries r
def uptoBulkEntry {H : Type} : Lit × DataW H → Nat
  | (.string bytes, d) => bytes.length + uptoBulk d + 1
  | (_, d) => uptoBulk d + 1
 end
def uptoSmall : (H : Type) → List (DataW H) → Bool := fun _ ds => decide (uptoBulkAll ds ≤ 1048576)
def OpenSpec.upto (s : _root_.Go.ChangeSpec) : _root_.Go.OpenSpec := { _root_.Go.OpenSpec.ofChange s with cond := some uptoSmall }

/-- 'fundadminlaw31.HighwaterChecks', WHERE WHAT IT READS IS OF BULK AT MOST 1048576: true; the input reads as it did. -/
def highwaterChecksUptoRow : OpenClaim := { program := "ytgadoabnjcahoaagreat", sum := "40fa10c32961011d9c2a3348b468117697f2d4cf5d388d210dfba9e8b09155ae", func := "fundadmin/fundadminlaw31.HighwaterChecks", spec := "highwaterChecks", unfollowed := true, recurses := true, named := ["math/bits.overflowError"], apart := false, narrowed := true }
def HighwaterChecksUptoSaid : Prop := highwaterChecksUptoRow.holds Tryz.pinned (OpenSpec.upto highwaterChecksSpec)

/-- 'fundadminlaw31.HighwaterFees', WHERE WHAT IT READS IS OF BULK AT MOST 1048576: true; the input reads as it did. -/
def highwaterFeesUptoRow : OpenClaim := { program := "ytgadoabnjcahoaagreat", sum := "40fa10c32961011d9c2a3348b468117697f2d4cf5d388d210dfba9e8b09155ae", func := "fundadmin/fundadminlaw31.HighwaterFees", spec := "highwaterFees", unfollowed := true, recurses := true, named := ["math/bits.overflowError"], apart := false, narrowed := true }
def HighwaterFeesUptoSaid : Prop := highwaterFeesUptoRow.holds Tryz.pinned (OpenSpec.upto highwaterFeesSpec)

/-- 'fundadminlaw31.HighwaterOfMadeMarks', WHERE WHAT IT READS IS OF BULK AT MOST 1048576: true; the input reads as it did. -/
def highwaterOfMadeMarksUptoRow : OpenClaim := { program := "ytgadoabnjcahoaagreat", sum := "40fa10c32961011d9c2a3348b468117697f2d4cf5d388d210dfba9e8b09155ae", func := "fundadmin/fundadminlaw31.HighwaterOfMadeMarks", spec := "highwaterOfMadeMarks", unfollowed := true, recurses := true, named := ["math/bits.overflowError"], apart := false, narrowed := true }
def HighwaterOfMadeMarksUptoSaid : Prop := highwaterOfMadeMarksUptoRow.holds Tryz.pinned (OpenSpec.upto highwaterOfMadeMarksSpec)

/-- 'fundadminlaw31.HighwaterSpares', WHERE WHAT IT READS IS OF BULK AT MOST 1048576: true; the input reads as it did. -/
def highwaterSparesUptoRow : OpenClaim := { program := "ytgadoabnjcahoaagreat", sum := "40fa10c32961011d9c2a3348b468117697f2d4cf5d388d210dfba9e8b09155ae", func := "fundadmin/fundadminlaw31.HighwaterSpares", spec := "highwaterSpares", unfollowed := true, recurses := true, named := ["math/bits.overflowError"], apart := false, narrowed := true }
def HighwaterSparesUptoSaid : Prop := highwaterSparesUptoRow.holds Tryz.pinned (OpenSpec.upto highwaterSparesSpec)

/-- 'fundadminlaw31.HighwaterIsPaidOnce', WHERE WHAT IT READS IS OF BULK AT MOST 1048576: true; the input reads as it did. -/
def highwaterIsPaidOnceUptoRow : OpenClaim := { program := "ytgadoabnjcahoaagreat", sum := "40fa10c32961011d9c2a3348b468117697f2d4cf5d388d210dfba9e8b09155ae", func := "fundadmin/fundadminlaw31.HighwaterIsPaidOnce", spec := "highwaterIsPaidOnce", unfollowed := true, recurses := true, named := ["math/bits.overflowError"], apart := false, narrowed := true }
def HighwaterIsPaidOnceUptoSaid : Prop := highwaterIsPaidOnceUptoRow.holds Tryz.pinned (OpenSpec.upto highwaterIsPaidOnceSpec)

/-- 'fundadminlaw31.HighwaterScales', WHERE WHAT IT READS IS OF BULK AT MOST 1048576: true; the input reads as it did. -/
def highwaterScalesUptoRow : OpenClaim := { program := "ytgadoabnjcahoaagreat", sum := "40fa10c32961011d9c2a3348b468117697f2d4cf5d388d210dfba9e8b09155ae", func := "fundadmin/fundadminlaw31.HighwaterScales", spec := "highwaterScales", unfollowed := true, recurses := true, named := ["math/bits.overflowError"], apart := false, narrowed := true }
def HighwaterScalesUptoSaid : Prop := highwaterScalesUptoRow.holds Tryz.pinned (OpenSpec.upto highwaterScalesSpec)

/-- 'fundadminlaw32.EqualisationAdjusts', WHERE WHAT IT READS IS OF BULK AT MOST 1048576: true; the input reads as it did. -/
def equalisationAdjustsUptoRow : OpenClaim := { program := "ytgadoabnjcahoaagreat", sum := "40fa10c32961011d9c2a3348b468117697f2d4cf5d388d210dfba9e8b09155ae", func := "fundadmin/fundadminlaw32.EqualisationAdjusts", spec := "equalisationAdjusts", unfollowed := true, recurses := true, named := ["math/bits.overflowError"], apart := false, narrowed := true }
def EqualisationAdjustsUptoSaid : Prop := equalisationAdjustsUptoRow.holds Tryz.pinned (OpenSpec.upto equalisationAdjustsSpec)

/-- 'fundadminlaw32.EqualisationOfMadeLots', WHERE WHAT IT READS IS OF BULK AT MOST 1048576: true; the input reads as it did. -/
def equalisationOfMadeLotsUptoRow : OpenClaim := { program := "ytgadoabnjcahoaagreat", sum := "40fa10c32961011d9c2a3348b468117697f2d4cf5d388d210dfba9e8b09155ae", func := "fundadmin/fundadminlaw32.EqualisationOfMadeLots", spec := "equalisationOfMadeLots", unfollowed := true, recurses := true, named := ["math/bits.overflowError"], apart := false, narrowed := true }
def EqualisationOfMadeLotsUptoSaid : Prop := equalisationOfMadeLotsUptoRow.holds Tryz.pinned (OpenSpec.upto equalisationOfMadeLotsSpec)

/-- 'fundadmintop.TopMethods', WHERE WHAT IT READS IS OF BULK AT MOST 1048576: true; the input reads as it did. -/
def topMethodsUptoRow : OpenClaim := { program := "ytgadoabnjcahoaagreat", sum := "40fa10c32961011d9c2a3348b468117697f2d4cf5d388d210dfba9e8b09155ae", func := "fundadmin/fundadmintop.TopMethods", spec := "topMethods", unfollowed := true, recurses := true, named := ["math/bits.overflowError"], apart := false, narrowed := true }
def TopMethodsUptoSaid : Prop := topMethodsUptoRow.holds Tryz.pinned (OpenSpec.upto topMethodsSpec)

/-- 'fundadminlaw32.EqualisationEqualsOwnFunds', WHERE WHAT IT READS IS OF BULK AT MOST 1048576: true; the input reads as it did. -/
def equalisationEqualsOwnFundsUptoRow : OpenClaim := { program := "ytgadoabnjcahoaagreat", sum := "40fa10c32961011d9c2a3348b468117697f2d4cf5d388d210dfba9e8b09155ae", func := "fundadmin/fundadminlaw32.EqualisationEqualsOwnFunds", spec := "equalisationEqualsOwnFunds", unfollowed := true, recurses := true, named := ["math/bits.overflowError"], apart := false, narrowed := true }
def EqualisationEqualsOwnFundsUptoSaid : Prop := equalisationEqualsOwnFundsUptoRow.holds Tryz.pinned (OpenSpec.upto equalisationEqualsOwnFundsSpec)

/-- 'fundadminlaw32.EqualisationForgetsPaidFees', WHERE WHAT IT READS IS OF BULK AT MOST 1048576: true; the input reads as it did. -/
def equalisationForgetsPaidFeesUptoRow : OpenClaim := { program := "ytgadoabnjcahoaagreat", sum := "40fa10c32961011d9c2a3348b468117697f2d4cf5d388d210dfba9e8b09155ae", func := "fundadmin/fundadminlaw32.EqualisationForgetsPaidFees", spec := "equalisationForgetsPaidFees", unfollowed := true, recurses := true, named := ["math/bits.overflowError"], apart := false, narrowed := true }
def EqualisationForgetsPaidFeesUptoSaid : Prop := equalisationForgetsPaidFeesUptoRow.holds Tryz.pinned (OpenSpec.upto equalisationForgetsPaidFeesSpec)

/-- 'fundadminlaw32.EqualisationFollowsOwnFunds', WHERE WHAT IT READS IS OF BULK AT MOST 1048576: true; the input reads as it did. -/
def equalisationFollowsOwnFundsUptoRow : OpenClaim := { program := "ytgadoabnjcahoaagreat", sum := "40fa10c32961011d9c2a3348b468117697f2d4cf5d388d210dfba9e8b09155ae", func := "fundadmin/fundadminlaw32.EqualisationFollowsOwnFunds", spec := "equalisationFollowsOwnFunds", unfollowed := true, recurses := true, named := ["math/bits.overflowError"], apart := false, narrowed := true }
def EqualisationFollowsOwnFundsUptoSaid : Prop := equalisationFollowsOwnFundsUptoRow.holds Tryz.pinned (OpenSpec.upto equalisationFollowsOwnFundsSpec)

end Rows
end Go.Proofs.YtgadoabnjcahoaaGreat
