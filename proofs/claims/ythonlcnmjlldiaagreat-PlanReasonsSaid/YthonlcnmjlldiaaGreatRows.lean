/-
  No cell of these rows narrows 'for every input' (looked for: loops, veiled, ifaces, maps, wideKeys, modest, calm, conditions, laid).
  DERIVED. THE GIVEN ROWS OF THIS SEAT. 6 by the template 'for every input the law returns true; each argument reads behind the call as it read before'; 0 by the template 'total and deterministic' (their statements: YthonlcnmjlldiaaGreatTotals.lean).
  GIVEN WITH THE SEED: the statements are not yours to turn. If you find one false, say at which input.
  Laid BY PROGRAM, IN A SANDBOX (cutbox-rows.mjs): the forced cells as the released guide's own fill.sh prints them over the translation 017bea9e8fa84e8a… (all of the seat's roots in one cut). By AI agents, Wed Nov 11 2026. No macro, syntax, notation, axiom, sorry.
-/
import Derived.Test.YthonlcnmjlldiaaGreatChecked
import GoSem.Claim
import GoSem.ClaimJoined
import GoSem.ClaimMapViews
import Derived.JoinedTies
import Derived.KernelRfl
namespace Go.Proofs.YthonlcnmjlldiaaGreat
/- THE CELL 'sum', in the pinned program and in every row, IS THE sha256 OF THE DUMP (.gsa) THAT YthonlcnmjlldiaaGreatProg.lean LOADS. Nothing in Lean hashes anything: it is a label: what it is worth is what the hold of that sum in a sandbox is worth. -/
noncomputable def Tryz.pinned : Pinned := { name := "ythonlcnmjlldiaagreat", sum := "017bea9e8fa84e8a970f7299849c778c6ea0261dd6aca7113ac60796a2049ed1", checked := Tryz.checked }
namespace Rows
def none {H : Type} : Left H := { results := [], args := [] }

/-- 'potbanklaw06.PlanReasons': WHATEVER THE INPUT: true; the input reads as it did. -/
def planReasonsSpec : ChangeSpec := { name := "planReasons", fn := fun _ => fun
  | [d1, d2, d3] => { results := [.lit (.bool true)], args := [d1, d2, d3] }
  | _ => none }
def planReasonsRow : OpenClaim := { program := "ythonlcnmjlldiaagreat", sum := "017bea9e8fa84e8a970f7299849c778c6ea0261dd6aca7113ac60796a2049ed1", func := "potbank/potbanklaw06.PlanReasons", spec := "planReasons", unfollowed := true, recurses := true, apart := false }
def PlanReasonsSaid : Prop := planReasonsRow.holds Tryz.pinned (OpenSpec.ofChange planReasonsSpec)

/-- ITS FALSE NEIGHBOUR: 'it returns false'. Refute it at one input. -/
def planReasonsWrong : ChangeSpec := { name := "planReasons", fn := fun _ => fun
  | [d1, d2, d3] => { results := [.lit (.bool false)], args := [d1, d2, d3] }
  | _ => none }
def PlanReasonsWrongFalsely : Prop := planReasonsRow.holds Tryz.pinned (OpenSpec.ofChange planReasonsWrong)

/-- 'potbanklaw06.PlanCrowds': WHATEVER THE INPUT: true; the input reads as it did. -/
def planCrowdsSpec : ChangeSpec := { name := "planCrowds", fn := fun _ => fun
  | [d1, d2] => { results := [.lit (.bool true)], args := [d1, d2] }
  | _ => none }
def planCrowdsRow : OpenClaim := { program := "ythonlcnmjlldiaagreat", sum := "017bea9e8fa84e8a970f7299849c778c6ea0261dd6aca7113ac60796a2049ed1", func := "potbank/potbanklaw06.PlanCrowds", spec := "planCrowds", unfollowed := true, recurses := true, apart := false }
def PlanCrowdsSaid : Prop := planCrowdsRow.holds Tryz.pinned (OpenSpec.ofChange planCrowdsSpec)

/-- ITS FALSE NEIGHBOUR: 'it returns false'. Refute it at one input. -/
def planCrowdsWrong : ChangeSpec := { name := "planCrowds", fn := fun _ => fun
  | [d1, d2] => { results := [.lit (.bool false)], args := [d1, d2] }
  | _ => none }
def PlanCrowdsWrongFalsely : Prop := planCrowdsRow.holds Tryz.pinned (OpenSpec.ofChange planCrowdsWrong)

/-- 'potbanklaw06.PlanChecked': WHATEVER THE INPUT: true; the input reads as it did. -/
def planCheckedSpec : ChangeSpec := { name := "planChecked", fn := fun _ => fun
  | [d1, d2, d3] => { results := [.lit (.bool true)], args := [d1, d2, d3] }
  | _ => none }
def planCheckedRow : OpenClaim := { program := "ythonlcnmjlldiaagreat", sum := "017bea9e8fa84e8a970f7299849c778c6ea0261dd6aca7113ac60796a2049ed1", func := "potbank/potbanklaw06.PlanChecked", spec := "planChecked", unfollowed := true, recurses := true, apart := false }
def PlanCheckedSaid : Prop := planCheckedRow.holds Tryz.pinned (OpenSpec.ofChange planCheckedSpec)

/-- ITS FALSE NEIGHBOUR: 'it returns false'. Refute it at one input. -/
def planCheckedWrong : ChangeSpec := { name := "planChecked", fn := fun _ => fun
  | [d1, d2, d3] => { results := [.lit (.bool false)], args := [d1, d2, d3] }
  | _ => none }
def PlanCheckedWrongFalsely : Prop := planCheckedRow.holds Tryz.pinned (OpenSpec.ofChange planCheckedWrong)

/-- 'potbanklaw06.PlanSets': WHATEVER THE INPUT: true; the input reads as it did. -/
def planSetsSpec : ChangeSpec := { name := "planSets", fn := fun _ => fun
  | [d1, d2, d3] => { results := [.lit (.bool true)], args := [d1, d2, d3] }
  | _ => none }
def planSetsRow : OpenClaim := { program := "ythonlcnmjlldiaagreat", sum := "017bea9e8fa84e8a970f7299849c778c6ea0261dd6aca7113ac60796a2049ed1", func := "potbank/potbanklaw06.PlanSets", spec := "planSets", unfollowed := true, recurses := true, apart := false }
def PlanSetsSaid : Prop := planSetsRow.holds Tryz.pinned (OpenSpec.ofChange planSetsSpec)

/-- ITS FALSE NEIGHBOUR: 'it returns false'. Refute it at one input. -/
def planSetsWrong : ChangeSpec := { name := "planSets", fn := fun _ => fun
  | [d1, d2, d3] => { results := [.lit (.bool false)], args := [d1, d2, d3] }
  | _ => none }
def PlanSetsWrongFalsely : Prop := planSetsRow.holds Tryz.pinned (OpenSpec.ofChange planSetsWrong)

/-- 'potbanklaw06.PlanStows': WHATEVER THE INPUT: true; the input reads as it did. -/
def planStowsSpec : ChangeSpec := { name := "planStows", fn := fun _ => fun
  | [d1, d2, d3] => { results := [.lit (.bool true)], args := [d1, d2, d3] }
  | _ => none }
def planStowsRow : OpenClaim := { program := "ythonlcnmjlldiaagreat", sum := "017bea9e8fa84e8a970f7299849c778c6ea0261dd6aca7113ac60796a2049ed1", func := "potbank/potbanklaw06.PlanStows", spec := "planStows", unfollowed := true, recurses := true, apart := false }
def PlanStowsSaid : Prop := planStowsRow.holds Tryz.pinned (OpenSpec.ofChange planStowsSpec)

/-- ITS FALSE NEIGHBOUR: 'it returns false'. Refute it at one input. -/
def planStowsWrong : ChangeSpec := { name := "planStows", fn := fun _ => fun
  | [d1, d2, d3] => { results := [.lit (.bool false)], args := [d1, d2, d3] }
  | _ => none }
def PlanStowsWrongFalsely : Prop := planStowsRow.holds Tryz.pinned (OpenSpec.ofChange planStowsWrong)

/-- 'potbanklaw06.PlanHall': WHATEVER THE INPUT: true; the input reads as it did. -/
def planHallSpec : ChangeSpec := { name := "planHall", fn := fun _ => fun
  | [d1, d2, d3] => { results := [.lit (.bool true)], args := [d1, d2, d3] }
  | _ => none }
def planHallRow : OpenClaim := { program := "ythonlcnmjlldiaagreat", sum := "017bea9e8fa84e8a970f7299849c778c6ea0261dd6aca7113ac60796a2049ed1", func := "potbank/potbanklaw06.PlanHall", spec := "planHall", unfollowed := true, recurses := true, apart := false }
def PlanHallSaid : Prop := planHallRow.holds Tryz.pinned (OpenSpec.ofChange planHallSpec)

/-- ITS FALSE NEIGHBOUR: 'it returns false'. Refute it at one input. -/
def planHallWrong : ChangeSpec := { name := "planHall", fn := fun _ => fun
  | [d1, d2, d3] => { results := [.lit (.bool false)], args := [d1, d2, d3] }
  | _ => none }
def PlanHallWrongFalsely : Prop := planHallRow.holds Tryz.pinned (OpenSpec.ofChange planHallWrong)

/- THE SECOND FORM. 'bulk': how many values and letters a reading holds, each counted each time it is reached (what is shared counts as often as it is met; a slice's spare places count too). A statement '..UptoSaid' is the law's where the arguments, and the package variables that the reading takes, are together of bulk at most 1048576: NARROWER than '..Said'. Prove '..Said' where nothing that the law and all that it calls make is longer than what came in: it says more and counts as full. Else prove '..UptoSaid'. A law counts once. -/
mutual
def uptoBulk {H : Type} : DataW H → Nat
  | .lit (.string bytes) => bytes.length + 1
  | .lit _ => 1
  | .nil => 1
  | .ptr d => uptoBulk d + 1
  | .slice elems spare => uptoBulkAll elems + uptoBulkAll spare + 1
  | .agg parts => uptoBulkAll parts + 1
  | .iface _ d => uptoBulk d + 1
  | .map entries => uptoBulkEntries entries + 1
  | .held _ => 1
def uptoBulkAll {H : Type} : List (DataW H) → Nat
  | [] => 0
  | d :: r => uptoBulk d + uptoBulkAll r
def uptoBulkEntries {H : Type} : List (Lit × DataW H) → Nat
  | [] => 0
  | x :: r => uptoBulkEntry x + uptoBulkEntries r
def uptoBulkEntry {H : Type} : Lit × DataW H → Nat
  | (.string bytes, d) => bytes.length + uptoBulk d + 1
  | (_, d) => uptoBulk d + 1
 end
def uptoSmall : (H : Type) → List (DataW H) → Bool := fun _ ds => decide (uptoBulkAll ds ≤ 1048576)
def OpenSpec.upto (s : _root_.Go.ChangeSpec) : _root_.Go.OpenSpec := { _root_.Go.OpenSpec.ofChange s with cond := some uptoSmall }

/-- 'potbanklaw06.PlanReasons', WHERE WHAT IT READS IS OF BULK AT MOST 1048576: true; the input reads as it did. -/
def planReasonsUptoRow : OpenClaim := { program := "ythonlcnmjlldiaagreat", sum := "017bea9e8fa84e8a970f7299849c778c6ea0261dd6aca7113ac60796a2049ed1", func := "potbank/potbanklaw06.PlanReasons", spec := "planReasons", unfollowed := true, recurses := true, apart := false, narrowed := true }
def PlanReasonsUptoSaid : Prop := planReasonsUptoRow.holds Tryz.pinned (OpenSpec.upto planReasonsSpec)

/-- 'potbanklaw06.PlanCrowds', WHERE WHAT IT READS IS OF BULK AT MOST 1048576: true; the input reads as it did. -/
def planCrowdsUptoRow : OpenClaim := { program := "ythonlcnmjlldiaagreat", sum := "017bea9e8fa84e8a970f7299849c778c6ea0261dd6aca7113ac60796a2049ed1", func := "potbank/potbanklaw06.PlanCrowds", spec := "planCrowds", unfollowed := true, recurses := true, apart := false, narrowed := true }
def PlanCrowdsUptoSaid : Prop := planCrowdsUptoRow.holds Tryz.pinned (OpenSpec.upto planCrowdsSpec)

/-- 'potbanklaw06.PlanChecked', WHERE WHAT IT READS IS OF BULK AT MOST 1048576: true; the input reads as it did. -/
def planCheckedUptoRow : OpenClaim := { program := "ythonlcnmjlldiaagreat", sum := "017bea9e8fa84e8a970f7299849c778c6ea0261dd6aca7113ac60796a2049ed1", func := "potbank/potbanklaw06.PlanChecked", spec := "planChecked", unfollowed := true, recurses := true, apart := false, narrowed := true }
def PlanCheckedUptoSaid : Prop := planCheckedUptoRow.holds Tryz.pinned (OpenSpec.upto planCheckedSpec)

/-- 'potbanklaw06.PlanSets', WHERE WHAT IT READS IS OF BULK AT MOST 1048576: true; the input reads as it did. -/
def planSetsUptoRow : OpenClaim := { program := "ythonlcnmjlldiaagreat", sum := "017bea9e8fa84e8a970f7299849c778c6ea0261dd6aca7113ac60796a2049ed1", func := "potbank/potbanklaw06.PlanSets", spec := "planSets", unfollowed := true, recurses := true, apart := false, narrowed := true }
def PlanSetsUptoSaid : Prop := planSetsUptoRow.holds Tryz.pinned (OpenSpec.upto planSetsSpec)

/-- 'potbanklaw06.PlanStows', WHERE WHAT IT READS IS OF BULK AT MOST 1048576: true; the input reads as it did. -/
def planStowsUptoRow : OpenClaim := { program := "ythonlcnmjlldiaagreat", sum := "017bea9e8fa84e8a970f7299849c778c6ea0261dd6aca7113ac60796a2049ed1", func := "potbank/potbanklaw06.PlanStows", spec := "planStows", unfollowed := true, recurses := true, apart := false, narrowed := true }
def PlanStowsUptoSaid : Prop := planStowsUptoRow.holds Tryz.pinned (OpenSpec.upto planStowsSpec)

/-- 'potbanklaw06.PlanHall', WHERE WHAT IT READS IS OF BULK AT MOST 1048576: true; the input reads as it did. -/
def planHallUptoRow : OpenClaim := { program := "ythonlcnmjlldiaagreat", sum := "017bea9e8fa84e8a970f7299849c778c6ea0261dd6aca7113ac60796a2049ed1", func := "potbank/potbanklaw06.PlanHall", spec := "planHall", unfollowed := true, recurses := true, apart := false, narrowed := true }
def PlanHallUptoSaid : Prop := planHallUptoRow.holds Tryz.pinned (OpenSpec.upto planHallSpec)

end Rows
end Go.Proofs.YthonlcnmjlldiaaGreat
