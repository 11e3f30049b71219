/-
  No cell of these rows narrows 'for every input' (looked for: loops, veiled, ifaces, maps, wideKeys, modest, calm, conditions, laid).
  DERIVED. THE GIVEN ROWS OF THIS SEAT. 12 by the template 'for every input the law returns true; each argument reads behind the call as it read before'; 0 by the template 'total and deterministic' (their statements: YtopbohbkhljjgaaGreatTotals.lean).
  GIVEN WITH THE SEED: the statements are not yours to turn. If you find one false, say at which input.
  Laid BY PROGRAM, IN A SANDBOX (cutbox-rows.mjs): the forced cells as the released guide's own fill.sh prints them over the translation d7417c2da96b8f56… (all of the seat's roots in one cut). By AI agents, Wed Nov 11 2026. No macro, syntax, notation, axiom, sorry.
-/
import Derived.Test.YtopbohbkhljjgaaGreatChecked
import GoSem.Claim
import GoSem.ClaimJoined
import GoSem.ClaimMapViews
import Derived.JoinedTies
import Derived.KernelRfl
namespace Go.Proofs.YtopbohbkhljjgaaGreat
/- THE CELL 'sum', in the pinned program and in every row, IS THE sha256 OF THE DUMP (.gsa) THAT YtopbohbkhljjgaaGreatProg.lean LOADS. Nothing in Lean hashes anything: it is a label: what it is worth is what the hold of that sum in a sandbox is worth. -/
noncomputable def Tryz.pinned : Pinned := { name := "ytopbohbkhljjgaagreat", sum := "d7417c2da96b8f56b3b72bffbbcda1de7b6b54c7955012a1c875857a6a00344a", checked := Tryz.checked }
namespace Rows
def none {H : Type} : Left H := { results := [], args := [] }

/-- 'egresslaw24.AuditMatches': WHATEVER THE INPUT: true; the input reads as it did. -/
def auditMatchesSpec : ChangeSpec := { name := "auditMatches", fn := fun _ => fun
  | [d1, d2] => { results := [.lit (.bool true)], args := [d1, d2] }
  | _ => none }
def auditMatchesRow : OpenClaim := { program := "ytopbohbkhljjgaagreat", sum := "d7417c2da96b8f56b3b72bffbbcda1de7b6b54c7955012a1c875857a6a00344a", func := "egress/egresslaw24.AuditMatches", spec := "auditMatches", unfollowed := true, recurses := true, plainKeys := false, apart := false }
def AuditMatchesSaid : Prop := auditMatchesRow.holds Tryz.pinned (OpenSpec.ofChange auditMatchesSpec)

/-- ITS FALSE NEIGHBOUR: 'it returns false'. Refute it at one input. -/
def auditMatchesWrong : ChangeSpec := { name := "auditMatches", fn := fun _ => fun
  | [d1, d2] => { results := [.lit (.bool false)], args := [d1, d2] }
  | _ => none }
def AuditMatchesWrongFalsely : Prop := auditMatchesRow.holds Tryz.pinned (OpenSpec.ofChange auditMatchesWrong)

/-- 'egresslaw24.AuditNames': WHATEVER THE INPUT: true; the input reads as it did. -/
def auditNamesSpec : ChangeSpec := { name := "auditNames", fn := fun _ => fun
  | [d] => { results := [.lit (.bool true)], args := [d] }
  | _ => none }
def auditNamesRow : OpenClaim := { program := "ytopbohbkhljjgaagreat", sum := "d7417c2da96b8f56b3b72bffbbcda1de7b6b54c7955012a1c875857a6a00344a", func := "egress/egresslaw24.AuditNames", spec := "auditNames", unfollowed := true, recurses := true, plainKeys := false, apart := false }
def AuditNamesSaid : Prop := auditNamesRow.holds Tryz.pinned (OpenSpec.ofChange auditNamesSpec)

/-- ITS FALSE NEIGHBOUR: 'it returns false'. Refute it at one input. -/
def auditNamesWrong : ChangeSpec := { name := "auditNames", fn := fun _ => fun
  | [d] => { results := [.lit (.bool false)], args := [d] }
  | _ => none }
def AuditNamesWrongFalsely : Prop := auditNamesRow.holds Tryz.pinned (OpenSpec.ofChange auditNamesWrong)

/-- 'egresslaw24.AuditOrder': WHATEVER THE INPUT: true; the input reads as it did. -/
def auditOrderSpec : ChangeSpec := { name := "auditOrder", fn := fun _ => fun
  | [d1, d2] => { results := [.lit (.bool true)], args := [d1, d2] }
  | _ => none }
def auditOrderRow : OpenClaim := { program := "ytopbohbkhljjgaagreat", sum := "d7417c2da96b8f56b3b72bffbbcda1de7b6b54c7955012a1c875857a6a00344a", func := "egress/egresslaw24.AuditOrder", spec := "auditOrder", unfollowed := true, recurses := true, plainKeys := false, apart := false }
def AuditOrderSaid : Prop := auditOrderRow.holds Tryz.pinned (OpenSpec.ofChange auditOrderSpec)

/-- ITS FALSE NEIGHBOUR: 'it returns false'. Refute it at one input. -/
def auditOrderWrong : ChangeSpec := { name := "auditOrder", fn := fun _ => fun
  | [d1, d2] => { results := [.lit (.bool false)], args := [d1, d2] }
  | _ => none }
def AuditOrderWrongFalsely : Prop := auditOrderRow.holds Tryz.pinned (OpenSpec.ofChange auditOrderWrong)

/-- 'egresslaw24.AuditKeeps': WHATEVER THE INPUT: true; the input reads as it did. -/
def auditKeepsSpec : ChangeSpec := { name := "auditKeeps", fn := fun _ => fun
  | [d1, d2] => { results := [.lit (.bool true)], args := [d1, d2] }
  | _ => none }
def auditKeepsRow : OpenClaim := { program := "ytopbohbkhljjgaagreat", sum := "d7417c2da96b8f56b3b72bffbbcda1de7b6b54c7955012a1c875857a6a00344a", func := "egress/egresslaw24.AuditKeeps", spec := "auditKeeps", unfollowed := true, recurses := true, plainKeys := false, apart := false }
def AuditKeepsSaid : Prop := auditKeepsRow.holds Tryz.pinned (OpenSpec.ofChange auditKeepsSpec)

/-- ITS FALSE NEIGHBOUR: 'it returns false'. Refute it at one input. -/
def auditKeepsWrong : ChangeSpec := { name := "auditKeeps", fn := fun _ => fun
  | [d1, d2] => { results := [.lit (.bool false)], args := [d1, d2] }
  | _ => none }
def AuditKeepsWrongFalsely : Prop := auditKeepsRow.holds Tryz.pinned (OpenSpec.ofChange auditKeepsWrong)

/-- 'egresslaw22.EngineBudgets': WHATEVER THE INPUT: true; the input reads as it did. -/
def engineBudgetsSpec : ChangeSpec := { name := "engineBudgets", fn := fun _ => fun
  | [d1, d2] => { results := [.lit (.bool true)], args := [d1, d2] }
  | _ => none }
def engineBudgetsRow : OpenClaim := { program := "ytopbohbkhljjgaagreat", sum := "d7417c2da96b8f56b3b72bffbbcda1de7b6b54c7955012a1c875857a6a00344a", func := "egress/egresslaw22.EngineBudgets", spec := "engineBudgets", unfollowed := true, recurses := true, named := ["math/bits.divideError", "math/bits.overflowError"], plainKeys := false, apart := false }
def EngineBudgetsSaid : Prop := engineBudgetsRow.holds Tryz.pinned (OpenSpec.ofChange engineBudgetsSpec)

/-- ITS FALSE NEIGHBOUR: 'it returns false'. Refute it at one input. -/
def engineBudgetsWrong : ChangeSpec := { name := "engineBudgets", fn := fun _ => fun
  | [d1, d2] => { results := [.lit (.bool false)], args := [d1, d2] }
  | _ => none }
def EngineBudgetsWrongFalsely : Prop := engineBudgetsRow.holds Tryz.pinned (OpenSpec.ofChange engineBudgetsWrong)

/-- 'egresslaw22.EngineRejects': WHATEVER THE INPUT: true; the input reads as it did. -/
def engineRejectsSpec : ChangeSpec := { name := "engineRejects", fn := fun _ => fun
  | [d1, d2] => { results := [.lit (.bool true)], args := [d1, d2] }
  | _ => none }
def engineRejectsRow : OpenClaim := { program := "ytopbohbkhljjgaagreat", sum := "d7417c2da96b8f56b3b72bffbbcda1de7b6b54c7955012a1c875857a6a00344a", func := "egress/egresslaw22.EngineRejects", spec := "engineRejects", unfollowed := true, recurses := true, named := ["math/bits.divideError", "math/bits.overflowError"], plainKeys := false, apart := false }
def EngineRejectsSaid : Prop := engineRejectsRow.holds Tryz.pinned (OpenSpec.ofChange engineRejectsSpec)

/-- ITS FALSE NEIGHBOUR: 'it returns false'. Refute it at one input. -/
def engineRejectsWrong : ChangeSpec := { name := "engineRejects", fn := fun _ => fun
  | [d1, d2] => { results := [.lit (.bool false)], args := [d1, d2] }
  | _ => none }
def EngineRejectsWrongFalsely : Prop := engineRejectsRow.holds Tryz.pinned (OpenSpec.ofChange engineRejectsWrong)

/-- 'egresslaw22.EngineParts': WHATEVER THE INPUT: true; the input reads as it did. -/
def enginePartsSpec : ChangeSpec := { name := "engineParts", fn := fun _ => fun
  | [d1, d2, d3] => { results := [.lit (.bool true)], args := [d1, d2, d3] }
  | _ => none }
def enginePartsRow : OpenClaim := { program := "ytopbohbkhljjgaagreat", sum := "d7417c2da96b8f56b3b72bffbbcda1de7b6b54c7955012a1c875857a6a00344a", func := "egress/egresslaw22.EngineParts", spec := "engineParts", unfollowed := true, recurses := true, named := ["math/bits.divideError", "math/bits.overflowError"], plainKeys := false, apart := false }
def EnginePartsSaid : Prop := enginePartsRow.holds Tryz.pinned (OpenSpec.ofChange enginePartsSpec)

/-- ITS FALSE NEIGHBOUR: 'it returns false'. Refute it at one input. -/
def enginePartsWrong : ChangeSpec := { name := "engineParts", fn := fun _ => fun
  | [d1, d2, d3] => { results := [.lit (.bool false)], args := [d1, d2, d3] }
  | _ => none }
def EnginePartsWrongFalsely : Prop := enginePartsRow.holds Tryz.pinned (OpenSpec.ofChange enginePartsWrong)

/-- 'egresslaw22.EngineConserves': WHATEVER THE INPUT: true; the input reads as it did. -/
def engineConservesSpec : ChangeSpec := { name := "engineConserves", fn := fun _ => fun
  | [d1, d2] => { results := [.lit (.bool true)], args := [d1, d2] }
  | _ => none }
def engineConservesRow : OpenClaim := { program := "ytopbohbkhljjgaagreat", sum := "d7417c2da96b8f56b3b72bffbbcda1de7b6b54c7955012a1c875857a6a00344a", func := "egress/egresslaw22.EngineConserves", spec := "engineConserves", unfollowed := true, recurses := true, named := ["math/bits.divideError", "math/bits.overflowError"], plainKeys := false, apart := false }
def EngineConservesSaid : Prop := engineConservesRow.holds Tryz.pinned (OpenSpec.ofChange engineConservesSpec)

/-- ITS FALSE NEIGHBOUR: 'it returns false'. Refute it at one input. -/
def engineConservesWrong : ChangeSpec := { name := "engineConserves", fn := fun _ => fun
  | [d1, d2] => { results := [.lit (.bool false)], args := [d1, d2] }
  | _ => none }
def EngineConservesWrongFalsely : Prop := engineConservesRow.holds Tryz.pinned (OpenSpec.ofChange engineConservesWrong)

/-- 'egresslaw22.EngineMatches': WHATEVER THE INPUT: true; the input reads as it did. -/
def engineMatchesSpec : ChangeSpec := { name := "engineMatches", fn := fun _ => fun
  | [d1, d2] => { results := [.lit (.bool true)], args := [d1, d2] }
  | _ => none }
def engineMatchesRow : OpenClaim := { program := "ytopbohbkhljjgaagreat", sum := "d7417c2da96b8f56b3b72bffbbcda1de7b6b54c7955012a1c875857a6a00344a", func := "egress/egresslaw22.EngineMatches", spec := "engineMatches", unfollowed := true, recurses := true, named := ["math/bits.divideError", "math/bits.overflowError"], plainKeys := false, apart := false }
def EngineMatchesSaid : Prop := engineMatchesRow.holds Tryz.pinned (OpenSpec.ofChange engineMatchesSpec)

/-- ITS FALSE NEIGHBOUR: 'it returns false'. Refute it at one input. -/
def engineMatchesWrong : ChangeSpec := { name := "engineMatches", fn := fun _ => fun
  | [d1, d2] => { results := [.lit (.bool false)], args := [d1, d2] }
  | _ => none }
def EngineMatchesWrongFalsely : Prop := engineMatchesRow.holds Tryz.pinned (OpenSpec.ofChange engineMatchesWrong)

/-- 'egresslaw22.EngineKeeps': WHATEVER THE INPUT: true; the input reads as it did. -/
def engineKeepsSpec : ChangeSpec := { name := "engineKeeps", fn := fun _ => fun
  | [d1, d2, d3] => { results := [.lit (.bool true)], args := [d1, d2, d3] }
  | _ => none }
def engineKeepsRow : OpenClaim := { program := "ytopbohbkhljjgaagreat", sum := "d7417c2da96b8f56b3b72bffbbcda1de7b6b54c7955012a1c875857a6a00344a", func := "egress/egresslaw22.EngineKeeps", spec := "engineKeeps", unfollowed := true, recurses := true, named := ["math/bits.divideError", "math/bits.overflowError"], plainKeys := false, apart := false }
def EngineKeepsSaid : Prop := engineKeepsRow.holds Tryz.pinned (OpenSpec.ofChange engineKeepsSpec)

/-- ITS FALSE NEIGHBOUR: 'it returns false'. Refute it at one input. -/
def engineKeepsWrong : ChangeSpec := { name := "engineKeeps", fn := fun _ => fun
  | [d1, d2, d3] => { results := [.lit (.bool false)], args := [d1, d2, d3] }
  | _ => none }
def EngineKeepsWrongFalsely : Prop := engineKeepsRow.holds Tryz.pinned (OpenSpec.ofChange engineKeepsWrong)

/-- 'egresslaw24.AuditHolds': WHATEVER THE INPUT: true; the input reads as it did. -/
def auditHoldsSpec : ChangeSpec := { name := "auditHolds", fn := fun _ => fun
  | [d1, d2] => { results := [.lit (.bool true)], args := [d1, d2] }
  | _ => none }
def auditHoldsRow : OpenClaim := { program := "ytopbohbkhljjgaagreat", sum := "d7417c2da96b8f56b3b72bffbbcda1de7b6b54c7955012a1c875857a6a00344a", func := "egress/egresslaw24.AuditHolds", spec := "auditHolds", unfollowed := true, recurses := true, named := ["math/bits.divideError", "math/bits.overflowError"], plainKeys := false, apart := false }
def AuditHoldsSaid : Prop := auditHoldsRow.holds Tryz.pinned (OpenSpec.ofChange auditHoldsSpec)

/-- ITS FALSE NEIGHBOUR: 'it returns false'. Refute it at one input. -/
def auditHoldsWrong : ChangeSpec := { name := "auditHolds", fn := fun _ => fun
  | [d1, d2] => { results := [.lit (.bool false)], args := [d1, d2] }
  | _ => none }
def AuditHoldsWrongFalsely : Prop := auditHoldsRow.holds Tryz.pinned (OpenSpec.ofChange auditHoldsWrong)

/-- 'egresslaw24.AuditDetects': WHATEVER THE INPUT: true; the input reads as it did. -/
def auditDetectsSpec : ChangeSpec := { name := "auditDetects", fn := fun _ => fun
  | [d1, d2, d3] => { results := [.lit (.bool true)], args := [d1, d2, d3] }
  | _ => none }
def auditDetectsRow : OpenClaim := { program := "ytopbohbkhljjgaagreat", sum := "d7417c2da96b8f56b3b72bffbbcda1de7b6b54c7955012a1c875857a6a00344a", func := "egress/egresslaw24.AuditDetects", spec := "auditDetects", unfollowed := true, recurses := true, named := ["math/bits.divideError", "math/bits.overflowError"], plainKeys := false, apart := false }
def AuditDetectsSaid : Prop := auditDetectsRow.holds Tryz.pinned (OpenSpec.ofChange auditDetectsSpec)

/-- ITS FALSE NEIGHBOUR: 'it returns false'. Refute it at one input. -/
def auditDetectsWrong : ChangeSpec := { name := "auditDetects", fn := fun _ => fun
  | [d1, d2, d3] => { results := [.lit (.bool false)], args := [d1, d2, d3] }
  | _ => none }
def AuditDetectsWrongFalsely : Prop := auditDetectsRow.holds Tryz.pinned (OpenSpec.ofChange auditDetectsWrong)

/- THE SECOND FORM. 'bulk': how many values and letters a reading holds, each counted each time it is reached (what is shared counts as often as it is met; a slice's spare places count too). A statement '..UptoSaid' is the law's where the arguments, and the package variables that the reading takes, are together of bulk at most 1048576: NARROWER than '..Said'. Prove '..Said' where nothing that the law and all that it calls make is longer than what came in: it says more and counts as full. Else prove '..UptoSaid'. A law counts once. -/
mutual
def uptoBulk {H : Type} : DataW H → Nat
  | .lit (.string bytes) => bytes.length + 1
  | .lit _ => 1
  | .nil => 1
  | .ptr d => uptoBulk d + 1
  | .slice elems spare => uptoBulkAll elems + uptoBulkAll spare + 1
  | .agg parts => uptoBulkAll parts + 1
  | .iface _ d => uptoBulk d + 1
  | .map entries => uptoBulkEntries entries + 1
  | .held _ => 1
def uptoBulkAll {H : Type} : List (DataW H) → Nat
  | [] => 0
  | d :: r => uptoBulk d + uptoBulkAll r
def uptoBulkEntries {H : Type} : List (Lit × DataW H) → Nat
  | [] => 0
  | x :: r => uptoBulkEntry x + uptoBulkEntries r
def uptoBulkEntry {H : Type} : Lit × DataW H → Nat
  | (.string bytes, d) => bytes.length + uptoBulk d + 1
  | (_, d) => uptoBulk d + 1
 end
def uptoSmall : (H : Type) → List (DataW H) → Bool := fun _ ds => decide (uptoBulkAll ds ≤ 1048576)
def OpenSpec.upto (s : _root_.Go.ChangeSpec) : _root_.Go.OpenSpec := { _root_.Go.OpenSpec.ofChange s with cond := some uptoSmall }

/-- 'egresslaw24.AuditMatches', WHERE WHAT IT READS IS OF BULK AT MOST 1048576: true; the input reads as it did. -/
def auditMatchesUptoRow : OpenClaim := { program := "ytopbohbkhljjgaagreat", sum := "d7417c2da96b8f56b3b72bffbbcda1de7b6b54c7955012a1c875857a6a00344a", func := "egress/egresslaw24.AuditMatches", spec := "auditMatches", unfollowed := true, recurses := true, plainKeys := false, apart := false, narrowed := true }
def AuditMatchesUptoSaid : Prop := auditMatchesUptoRow.holds Tryz.pinned (OpenSpec.upto auditMatchesSpec)

/-- 'egresslaw24.AuditNames', WHERE WHAT IT READS IS OF BULK AT MOST 1048576: true; the input reads as it did. -/
def auditNamesUptoRow : OpenClaim := { program := "ytopbohbkhljjgaagreat", sum := "d7417c2da96b8f56b3b72bffbbcda1de7b6b54c7955012a1c875857a6a00344a", func := "egress/egresslaw24.AuditNames", spec := "auditNames", unfollowed := true, recurses := true, plainKeys := false, apart := false, narrowed := true }
def AuditNamesUptoSaid : Prop := auditNamesUptoRow.holds Tryz.pinned (OpenSpec.upto auditNamesSpec)

/-- 'egresslaw24.AuditOrder', WHERE WHAT IT READS IS OF BULK AT MOST 1048576: true; the input reads as it did. -/
def auditOrderUptoRow : OpenClaim := { program := "ytopbohbkhljjgaagreat", sum := "d7417c2da96b8f56b3b72bffbbcda1de7b6b54c7955012a1c875857a6a00344a", func := "egress/egresslaw24.AuditOrder", spec := "auditOrder", unfollowed := true, recurses := true, plainKeys := false, apart := false, narrowed := true }
def AuditOrderUptoSaid : Prop := auditOrderUptoRow.holds Tryz.pinned (OpenSpec.upto auditOrderSpec)

/-- 'egresslaw24.AuditKeeps', WHERE WHAT IT READS IS OF BULK AT MOST 1048576: true; the input reads as it did. -/
def auditKeepsUptoRow : OpenClaim := { program := "ytopbohbkhljjgaagreat", sum := "d7417c2da96b8f56b3b72bffbbcda1de7b6b54c7955012a1c875857a6a00344a", func := "egress/egresslaw24.AuditKeeps", spec := "auditKeeps", unfollowed := true, recurses := true, plainKeys := false, apart := false, narrowed := true }
def AuditKeepsUptoSaid : Prop := auditKeepsUptoRow.holds Tryz.pinned (OpenSpec.upto auditKeepsSpec)

/-- 'egresslaw22.EngineBudgets', WHERE WHAT IT READS IS OF BULK AT MOST 1048576: true; the input reads as it did. -/
def engineBudgetsUptoRow : OpenClaim := { program := "ytopbohbkhljjgaagreat", sum := "d7417c2da96b8f56b3b72bffbbcda1de7b6b54c7955012a1c875857a6a00344a", func := "egress/egresslaw22.EngineBudgets", spec := "engineBudgets", unfollowed := true, recurses := true, named := ["math/bits.divideError", "math/bits.overflowError"], plainKeys := false, apart := false, narrowed := true }
def EngineBudgetsUptoSaid : Prop := engineBudgetsUptoRow.holds Tryz.pinned (OpenSpec.upto engineBudgetsSpec)

/-- 'egresslaw22.EngineRejects', WHERE WHAT IT READS IS OF BULK AT MOST 1048576: true; the input reads as it did. -/
def engineRejectsUptoRow : OpenClaim := { program := "ytopbohbkhljjgaagreat", sum := "d7417c2da96b8f56b3b72bffbbcda1de7b6b54c7955012a1c875857a6a00344a", func := "egress/egresslaw22.EngineRejects", spec := "engineRejects", unfollowed := true, recurses := true, named := ["math/bits.divideError", "math/bits.overflowError"], plainKeys := false, apart := false, narrowed := true }
def EngineRejectsUptoSaid : Prop := engineRejectsUptoRow.holds Tryz.pinned (OpenSpec.upto engineRejectsSpec)

/-- 'egresslaw22.EngineParts', WHERE WHAT IT READS IS OF BULK AT MOST 1048576: true; the input reads as it did. -/
def enginePartsUptoRow : OpenClaim := { program := "ytopbohbkhljjgaagreat", sum := "d7417c2da96b8f56b3b72bffbbcda1de7b6b54c7955012a1c875857a6a00344a", func := "egress/egresslaw22.EngineParts", spec := "engineParts", unfollowed := true, recurses := true, named := ["math/bits.divideError", "math/bits.overflowError"], plainKeys := false, apart := false, narrowed := true }
def EnginePartsUptoSaid : Prop := enginePartsUptoRow.holds Tryz.pinned (OpenSpec.upto enginePartsSpec)

/-- 'egresslaw22.EngineConserves', WHERE WHAT IT READS IS OF BULK AT MOST 1048576: true; the input reads as it did. -/
def engineConservesUptoRow : OpenClaim := { program := "ytopbohbkhljjgaagreat", sum := "d7417c2da96b8f56b3b72bffbbcda1de7b6b54c7955012a1c875857a6a00344a", func := "egress/egresslaw22.EngineConserves", spec := "engineConserves", unfollowed := true, recurses := true, named := ["math/bits.divideError", "math/bits.overflowError"], plainKeys := false, apart := false, narrowed := true }
def EngineConservesUptoSaid : Prop := engineConservesUptoRow.holds Tryz.pinned (OpenSpec.upto engineConservesSpec)

/-- 'egresslaw22.EngineMatches', WHERE WHAT IT READS IS OF BULK AT MOST 1048576: true; the input reads as it did. -/
def engineMatchesUptoRow : OpenClaim := { program := "ytopbohbkhljjgaagreat", sum := "d7417c2da96b8f56b3b72bffbbcda1de7b6b54c7955012a1c875857a6a00344a", func := "egress/egresslaw22.EngineMatches", spec := "engineMatches", unfollowed := true, recurses := true, named := ["math/bits.divideError", "math/bits.overflowError"], plainKeys := false, apart := false, narrowed := true }
def EngineMatchesUptoSaid : Prop := engineMatchesUptoRow.holds Tryz.pinned (OpenSpec.upto engineMatchesSpec)

/-- 'egresslaw22.EngineKeeps', WHERE WHAT IT READS IS OF BULK AT MOST 1048576: true; the input reads as it did. -/
def engineKeepsUptoRow : OpenClaim := { program := "ytopbohbkhljjgaagreat", sum := "d7417c2da96b8f56b3b72bffbbcda1de7b6b54c7955012a1c875857a6a00344a", func := "egress/egresslaw22.EngineKeeps", spec := "engineKeeps", unfollowed := true, recurses := true, named := ["math/bits.divideError", "math/bits.overflowError"], plainKeys := false, apart := false, narrowed := true }
def EngineKeepsUptoSaid : Prop := engineKeepsUptoRow.holds Tryz.pinned (OpenSpec.upto engineKeepsSpec)

/-- 'egresslaw24.AuditHolds', WHERE WHAT IT READS IS OF BULK AT MOST 1048576: true; the input reads as it did. -/
def auditHoldsUptoRow : OpenClaim := { program := "ytopbohbkhljjgaagreat", sum := "d7417c2da96b8f56b3b72bffbbcda1de7b6b54c7955012a1c875857a6a00344a", func := "egress/egresslaw24.AuditHolds", spec := "auditHolds", unfollowed := true, recurses := true, named := ["math/bits.divideError", "math/bits.overflowError"], plainKeys := false, apart := false, narrowed := true }
def AuditHoldsUptoSaid : Prop := auditHoldsUptoRow.holds Tryz.pinned (OpenSpec.upto auditHoldsSpec)

/-- 'egresslaw24.AuditDetects', WHERE WHAT IT READS IS OF BULK AT MOST 1048576: true; the input reads as it did. -/
def auditDetectsUptoRow : OpenClaim := { program := "ytopbohbkhljjgaagreat", sum := "d7417c2da96b8f56b3b72bffbbcda1de7b6b54c7955012a1c875857a6a00344a", func := "egress/egresslaw24.AuditDetects", spec := "auditDetects", unfollowed := true, recurses := true, named := ["math/bits.divideError", "math/bits.overflowError"], plainKeys := false, apart := false, narrowed := true }
def AuditDetectsUptoSaid : Prop := auditDetectsUptoRow.holds Tryz.pinned (OpenSpec.upto auditDetectsSpec)

end Rows
end Go.Proofs.YtopbohbkhljjgaaGreat
