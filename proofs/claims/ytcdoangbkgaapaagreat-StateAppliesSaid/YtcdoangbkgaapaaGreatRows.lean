/-
  No cell of these rows narrows 'for every input' (looked for: loops, veiled, ifaces, maps, wideKeys, modest, calm, conditions, laid).
  DERIVED. THE GIVEN ROWS OF THIS SEAT. 6 by the template 'for every input the law returns true; each argument reads behind the call as it read before'; 0 by the template 'total and deterministic' (their statements: YtcdoangbkgaapaaGreatTotals.lean).
  GIVEN WITH THE SEED: the statements are not yours to turn. If you find one false, say at which input.
  Laid BY PROGRAM, IN A SANDBOX (cutbox-rows.mjs): the forced cells as the released guide's own fill.sh prints them over the translation 50ae90b207715dd4… (all of the seat's roots in one cut). By AI agents, Wed Nov 11 2026. No macro, syntax, notation, axiom, sorry.
-/
import Derived.Test.YtcdoangbkgaapaaGreatChecked
import GoSem.Claim
import GoSem.ClaimJoined
import GoSem.ClaimMapViews
import Derived.JoinedTies
import Derived.KernelRfl
namespace Go.Proofs.YtcdoangbkgaapaaGreat
/- THE CELL 'sum', in the pinned program and in every row, IS THE sha256 OF THE DUMP (.gsa) THAT YtcdoangbkgaapaaGreatProg.lean LOADS. Nothing in Lean hashes anything: it is a label: what it is worth is what the hold of that sum in a sandbox is worth. -/
noncomputable def Tryz.pinned : Pinned := { name := "ytcdoangbkgaapaagreat", sum := "50ae90b207715dd41ab5502cde916445fd045e71b91c5b9a4834c6a009071a8a", checked := Tryz.checked }
namespace Rows
def none {H : Type} : Left H := { results := [], args := [] }

/-- 'cellplanelaw12.StateSteps': WHATEVER THE INPUT: true; the input reads as it did. -/
def stateStepsSpec : ChangeSpec := { name := "stateSteps", fn := fun _ => fun
  | [d1, d2, d3] => { results := [.lit (.bool true)], args := [d1, d2, d3] }
  | _ => none }
def stateStepsRow : OpenClaim := { program := "ytcdoangbkgaapaagreat", sum := "50ae90b207715dd41ab5502cde916445fd045e71b91c5b9a4834c6a009071a8a", func := "cellplane/cellplanelaw12.StateSteps", spec := "stateSteps", unfollowed := true, recurses := true, apart := false }
def StateStepsSaid : Prop := stateStepsRow.holds Tryz.pinned (OpenSpec.ofChange stateStepsSpec)

/-- ITS FALSE NEIGHBOUR: 'it returns false'. Refute it at one input. -/
def stateStepsWrong : ChangeSpec := { name := "stateSteps", fn := fun _ => fun
  | [d1, d2, d3] => { results := [.lit (.bool false)], args := [d1, d2, d3] }
  | _ => none }
def StateStepsWrongFalsely : Prop := stateStepsRow.holds Tryz.pinned (OpenSpec.ofChange stateStepsWrong)

/-- 'cellplanelaw12.StateOwn': WHATEVER THE INPUT: true; the input reads as it did. -/
def stateOwnSpec : ChangeSpec := { name := "stateOwn", fn := fun _ => fun
  | [d1, d2] => { results := [.lit (.bool true)], args := [d1, d2] }
  | _ => none }
def stateOwnRow : OpenClaim := { program := "ytcdoangbkgaapaagreat", sum := "50ae90b207715dd41ab5502cde916445fd045e71b91c5b9a4834c6a009071a8a", func := "cellplane/cellplanelaw12.StateOwn", spec := "stateOwn", unfollowed := true, recurses := true, apart := false }
def StateOwnSaid : Prop := stateOwnRow.holds Tryz.pinned (OpenSpec.ofChange stateOwnSpec)

/-- ITS FALSE NEIGHBOUR: 'it returns false'. Refute it at one input. -/
def stateOwnWrong : ChangeSpec := { name := "stateOwn", fn := fun _ => fun
  | [d1, d2] => { results := [.lit (.bool false)], args := [d1, d2] }
  | _ => none }
def StateOwnWrongFalsely : Prop := stateOwnRow.holds Tryz.pinned (OpenSpec.ofChange stateOwnWrong)

/-- 'cellplanelaw12.StateApplies': WHATEVER THE INPUT: true; the input reads as it did. -/
def stateAppliesSpec : ChangeSpec := { name := "stateApplies", fn := fun _ => fun
  | [d1, d2, d3, d4, d5] => { results := [.lit (.bool true)], args := [d1, d2, d3, d4, d5] }
  | _ => none }
def stateAppliesRow : OpenClaim := { program := "ytcdoangbkgaapaagreat", sum := "50ae90b207715dd41ab5502cde916445fd045e71b91c5b9a4834c6a009071a8a", func := "cellplane/cellplanelaw12.StateApplies", spec := "stateApplies", unfollowed := true, recurses := true, apart := false }
def StateAppliesSaid : Prop := stateAppliesRow.holds Tryz.pinned (OpenSpec.ofChange stateAppliesSpec)

/-- ITS FALSE NEIGHBOUR: 'it returns false'. Refute it at one input. -/
def stateAppliesWrong : ChangeSpec := { name := "stateApplies", fn := fun _ => fun
  | [d1, d2, d3, d4, d5] => { results := [.lit (.bool false)], args := [d1, d2, d3, d4, d5] }
  | _ => none }
def StateAppliesWrongFalsely : Prop := stateAppliesRow.holds Tryz.pinned (OpenSpec.ofChange stateAppliesWrong)

/-- 'cellplanelaw12.StateRefuses': WHATEVER THE INPUT: true; the input reads as it did. -/
def stateRefusesSpec : ChangeSpec := { name := "stateRefuses", fn := fun _ => fun
  | [d1, d2, d3, d4] => { results := [.lit (.bool true)], args := [d1, d2, d3, d4] }
  | _ => none }
def stateRefusesRow : OpenClaim := { program := "ytcdoangbkgaapaagreat", sum := "50ae90b207715dd41ab5502cde916445fd045e71b91c5b9a4834c6a009071a8a", func := "cellplane/cellplanelaw12.StateRefuses", spec := "stateRefuses", unfollowed := true, recurses := true, apart := false }
def StateRefusesSaid : Prop := stateRefusesRow.holds Tryz.pinned (OpenSpec.ofChange stateRefusesSpec)

/-- ITS FALSE NEIGHBOUR: 'it returns false'. Refute it at one input. -/
def stateRefusesWrong : ChangeSpec := { name := "stateRefuses", fn := fun _ => fun
  | [d1, d2, d3, d4] => { results := [.lit (.bool false)], args := [d1, d2, d3, d4] }
  | _ => none }
def StateRefusesWrongFalsely : Prop := stateRefusesRow.holds Tryz.pinned (OpenSpec.ofChange stateRefusesWrong)

/-- 'cellplanelaw12.StateFolds': WHATEVER THE INPUT: true; the input reads as it did. -/
def stateFoldsSpec : ChangeSpec := { name := "stateFolds", fn := fun _ => fun
  | [d1, d2, d3] => { results := [.lit (.bool true)], args := [d1, d2, d3] }
  | _ => none }
def stateFoldsRow : OpenClaim := { program := "ytcdoangbkgaapaagreat", sum := "50ae90b207715dd41ab5502cde916445fd045e71b91c5b9a4834c6a009071a8a", func := "cellplane/cellplanelaw12.StateFolds", spec := "stateFolds", unfollowed := true, recurses := true, apart := false }
def StateFoldsSaid : Prop := stateFoldsRow.holds Tryz.pinned (OpenSpec.ofChange stateFoldsSpec)

/-- ITS FALSE NEIGHBOUR: 'it returns false'. Refute it at one input. -/
def stateFoldsWrong : ChangeSpec := { name := "stateFolds", fn := fun _ => fun
  | [d1, d2, d3] => { results := [.lit (.bool false)], args := [d1, d2, d3] }
  | _ => none }
def StateFoldsWrongFalsely : Prop := stateFoldsRow.holds Tryz.pinned (OpenSpec.ofChange stateFoldsWrong)

/-- 'cellplanelaw12.StateSame': WHATEVER THE INPUT: true; the input reads as it did. -/
def stateSameSpec : ChangeSpec := { name := "stateSame", fn := fun _ => fun
  | [d1, d2, d3] => { results := [.lit (.bool true)], args := [d1, d2, d3] }
  | _ => none }
def stateSameRow : OpenClaim := { program := "ytcdoangbkgaapaagreat", sum := "50ae90b207715dd41ab5502cde916445fd045e71b91c5b9a4834c6a009071a8a", func := "cellplane/cellplanelaw12.StateSame", spec := "stateSame", unfollowed := true, recurses := true, apart := false }
def StateSameSaid : Prop := stateSameRow.holds Tryz.pinned (OpenSpec.ofChange stateSameSpec)

/-- ITS FALSE NEIGHBOUR: 'it returns false'. Refute it at one input. -/
def stateSameWrong : ChangeSpec := { name := "stateSame", fn := fun _ => fun
  | [d1, d2, d3] => { results := [.lit (.bool false)], args := [d1, d2, d3] }
  | _ => none }
def StateSameWrongFalsely : Prop := stateSameRow.holds Tryz.pinned (OpenSpec.ofChange stateSameWrong)

/- THE SECOND FORM. 'bulk': how many values and letters a reading holds, each counted each time it is reached (what is shared counts as often as it is met; a slice's spare places count too). A statement '..UptoSaid' is the law's where the arguments, and the package variables that the reading takes, are together of bulk at most 1048576: NARROWER than '..Said'. Prove '..Said' where nothing that the law and all that it calls make is longer than what came in: it says more and counts as full. Else prove '..UptoSaid'. A law counts once. -/
mutual
def uptoBulk {H : Type} : DataW H → Nat
  | .lit (.string bytes) => bytes.length + 1
  | .lit _ => 1
  | .nil => 1
  | .ptr d => uptoBulk d + 1
  | .slice elems spare => uptoBulkAll elems + uptoBulkAll spare + 1
  | .agg parts => uptoBulkAll parts + 1
  | .iface _ d => uptoBulk d + 1
  | .map entries => uptoBulkEntries entries + 1
  | .held _ => 1
def uptoBulkAll {H : Type} : List (DataW H) → Nat
  | [] => 0
  | d :: r => uptoBulk d + uptoBulkAll r
def uptoBulkEntries {H : Type} : List (Lit × DataW H) → Nat
  | [] => 0
  | x :: r => uptoBulkEntry x + uptoBulkEntries r
def uptoBulkEntry {H : Type} : Lit × DataW H → Nat
  | (.string bytes, d) => bytes.length + uptoBulk d + 1
  | (_, d) => uptoBulk d + 1
 end
def uptoSmall : (H : Type) → List (DataW H) → Bool := fun _ ds => decide (uptoBulkAll ds ≤ 1048576)
def OpenSpec.upto (s : _root_.Go.ChangeSpec) : _root_.Go.OpenSpec := { _root_.Go.OpenSpec.ofChange s with cond := some uptoSmall }

/-- 'cellplanelaw12.StateSteps', WHERE WHAT IT READS IS OF BULK AT MOST 1048576: true; the input reads as it did. -/
def stateStepsUptoRow : OpenClaim := { program := "ytcdoangbkgaapaagreat", sum := "50ae90b207715dd41ab5502cde916445fd045e71b91c5b9a4834c6a009071a8a", func := "cellplane/cellplanelaw12.StateSteps", spec := "stateSteps", unfollowed := true, recurses := true, apart := false, narrowed := true }
def StateStepsUptoSaid : Prop := stateStepsUptoRow.holds Tryz.pinned (OpenSpec.upto stateStepsSpec)

/-- 'cellplanelaw12.StateOwn', WHERE WHAT IT READS IS OF BULK AT MOST 1048576: true; the input reads as it did. -/
def stateOwnUptoRow : OpenClaim := { program := "ytcdoangbkgaapaagreat", sum := "50ae90b207715dd41ab5502cde916445fd045e71b91c5b9a4834c6a009071a8a", func := "cellplane/cellplanelaw12.StateOwn", spec := "stateOwn", unfollowed := true, recurses := true, apart := false, narrowed := true }
def StateOwnUptoSaid : Prop := stateOwnUptoRow.holds Tryz.pinned (OpenSpec.upto stateOwnSpec)

/-- 'cellplanelaw12.StateApplies', WHERE WHAT IT READS IS OF BULK AT MOST 1048576: true; the input reads as it did. -/
def stateAppliesUptoRow : OpenClaim := { program := "ytcdoangbkgaapaagreat", sum := "50ae90b207715dd41ab5502cde916445fd045e71b91c5b9a4834c6a009071a8a", func := "cellplane/cellplanelaw12.StateApplies", spec := "stateApplies", unfollowed := true, recurses := true, apart := false, narrowed := true }
def StateAppliesUptoSaid : Prop := stateAppliesUptoRow.holds Tryz.pinned (OpenSpec.upto stateAppliesSpec)

/-- 'cellplanelaw12.StateRefuses', WHERE WHAT IT READS IS OF BULK AT MOST 1048576: true; the input reads as it did. -/
def stateRefusesUptoRow : OpenClaim := { program := "ytcdoangbkgaapaagreat", sum := "50ae90b207715dd41ab5502cde916445fd045e71b91c5b9a4834c6a009071a8a", func := "cellplane/cellplanelaw12.StateRefuses", spec := "stateRefuses", unfollowed := true, recurses := true, apart := false, narrowed := true }
def StateRefusesUptoSaid : Prop := stateRefusesUptoRow.holds Tryz.pinned (OpenSpec.upto stateRefusesSpec)

/-- 'cellplanelaw12.StateFolds', WHERE WHAT IT READS IS OF BULK AT MOST 1048576: true; the input reads as it did. -/
def stateFoldsUptoRow : OpenClaim := { program := "ytcdoangbkgaapaagreat", sum := "50ae90b207715dd41ab5502cde916445fd045e71b91c5b9a4834c6a009071a8a", func := "cellplane/cellplanelaw12.StateFolds", spec := "stateFolds", unfollowed := true, recurses := true, apart := false, narrowed := true }
def StateFoldsUptoSaid : Prop := stateFoldsUptoRow.holds Tryz.pinned (OpenSpec.upto stateFoldsSpec)

/-- 'cellplanelaw12.StateSame', WHERE WHAT IT READS IS OF BULK AT MOST 1048576: true; the input reads as it did. -/
def stateSameUptoRow : OpenClaim := { program := "ytcdoangbkgaapaagreat", sum := "50ae90b207715dd41ab5502cde916445fd045e71b91c5b9a4834c6a009071a8a", func := "cellplane/cellplanelaw12.StateSame", spec := "stateSame", unfollowed := true, recurses := true, apart := false, narrowed := true }
def StateSameUptoSaid : Prop := stateSameUptoRow.holds Tryz.pinned (OpenSpec.upto stateSameSpec)

end Rows
end Go.Proofs.YtcdoangbkgaapaaGreat
