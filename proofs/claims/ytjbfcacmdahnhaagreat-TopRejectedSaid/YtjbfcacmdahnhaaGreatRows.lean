/-
  No cell of these rows narrows 'for every input' (looked for: loops, veiled, ifaces, maps, wideKeys, modest, calm, conditions, laid).
  DERIVED. THE GIVEN ROWS OF THIS SEAT. 5 by the template 'for every input the law returns true; each argument reads behind the call as it read before'; 0 by the template 'total and deterministic' (their statements: YtjbfcacmdahnhaaGreatTotals.lean).
  GIVEN WITH THE SEED: the statements are not yours to turn. If you find one false, say at which input.
  Laid BY PROGRAM, IN A SANDBOX (cutbox-rows.mjs): the forced cells as the released guide's own fill.sh prints them over the translation e4948f59fc22e688… (all of the seat's roots in one cut). By AI agents, Wed Nov 11 2026. No macro, syntax, notation, axiom, sorry.
-/
import Derived.Test.YtjbfcacmdahnhaaGreatChecked
import GoSem.Claim
import GoSem.ClaimJoined
import GoSem.ClaimMapViews
import Derived.JoinedTies
import Derived.KernelRfl
namespace Go.Proofs.YtjbfcacmdahnhaaGreat
/- THE CELL 'sum', in the pinned program and in every row, IS THE sha256 OF THE DUMP (.gsa) THAT YtjbfcacmdahnhaaGreatProg.lean LOADS. Nothing in Lean hashes anything: it is a label: what it is worth is what the hold of that sum in a sandbox is worth. -/
noncomputable def Tryz.pinned : Pinned := { name := "ytjbfcacmdahnhaagreat", sum := "e4948f59fc22e688060d94ad8ce9b034e9bb21c5da990234e83dc682e3823bea", checked := Tryz.checked }
namespace Rows
def none {H : Type} : Left H := { results := [], args := [] }

/-- 'egresstop.TopDelays': WHATEVER THE INPUT: true; the input reads as it did. -/
def topDelaysSpec : ChangeSpec := { name := "topDelays", fn := fun _ => fun
  | [d1, d2] => { results := [.lit (.bool true)], args := [d1, d2] }
  | _ => none }
def topDelaysRow : OpenClaim := { program := "ytjbfcacmdahnhaagreat", sum := "e4948f59fc22e688060d94ad8ce9b034e9bb21c5da990234e83dc682e3823bea", func := "egress/egresstop.TopDelays", spec := "topDelays", unfollowed := true, recurses := true, named := ["math/bits.divideError", "math/bits.overflowError"], plainKeys := false, apart := false }
def TopDelaysSaid : Prop := topDelaysRow.holds Tryz.pinned (OpenSpec.ofChange topDelaysSpec)

/-- ITS FALSE NEIGHBOUR: 'it returns false'. Refute it at one input. -/
def topDelaysWrong : ChangeSpec := { name := "topDelays", fn := fun _ => fun
  | [d1, d2] => { results := [.lit (.bool false)], args := [d1, d2] }
  | _ => none }
def TopDelaysWrongFalsely : Prop := topDelaysRow.holds Tryz.pinned (OpenSpec.ofChange topDelaysWrong)

/-- 'egresstop.TopFifo': WHATEVER THE INPUT: true; the input reads as it did. -/
def topFifoSpec : ChangeSpec := { name := "topFifo", fn := fun _ => fun
  | [d1, d2] => { results := [.lit (.bool true)], args := [d1, d2] }
  | _ => none }
def topFifoRow : OpenClaim := { program := "ytjbfcacmdahnhaagreat", sum := "e4948f59fc22e688060d94ad8ce9b034e9bb21c5da990234e83dc682e3823bea", func := "egress/egresstop.TopFifo", spec := "topFifo", unfollowed := true, recurses := true, named := ["math/bits.divideError", "math/bits.overflowError"], plainKeys := false, apart := false }
def TopFifoSaid : Prop := topFifoRow.holds Tryz.pinned (OpenSpec.ofChange topFifoSpec)

/-- ITS FALSE NEIGHBOUR: 'it returns false'. Refute it at one input. -/
def topFifoWrong : ChangeSpec := { name := "topFifo", fn := fun _ => fun
  | [d1, d2] => { results := [.lit (.bool false)], args := [d1, d2] }
  | _ => none }
def TopFifoWrongFalsely : Prop := topFifoRow.holds Tryz.pinned (OpenSpec.ofChange topFifoWrong)

/-- 'egresstop.TopRejected': WHATEVER THE INPUT: true; the input reads as it did. -/
def topRejectedSpec : ChangeSpec := { name := "topRejected", fn := fun _ => fun
  | [d1, d2] => { results := [.lit (.bool true)], args := [d1, d2] }
  | _ => none }
def topRejectedRow : OpenClaim := { program := "ytjbfcacmdahnhaagreat", sum := "e4948f59fc22e688060d94ad8ce9b034e9bb21c5da990234e83dc682e3823bea", func := "egress/egresstop.TopRejected", spec := "topRejected", unfollowed := true, recurses := true, named := ["math/bits.divideError", "math/bits.overflowError"], plainKeys := false, apart := false }
def TopRejectedSaid : Prop := topRejectedRow.holds Tryz.pinned (OpenSpec.ofChange topRejectedSpec)

/-- ITS FALSE NEIGHBOUR: 'it returns false'. Refute it at one input. -/
def topRejectedWrong : ChangeSpec := { name := "topRejected", fn := fun _ => fun
  | [d1, d2] => { results := [.lit (.bool false)], args := [d1, d2] }
  | _ => none }
def TopRejectedWrongFalsely : Prop := topRejectedRow.holds Tryz.pinned (OpenSpec.ofChange topRejectedWrong)

/-- 'egresslaw22.EngineKeeps': WHATEVER THE INPUT: true; the input reads as it did. -/
def engineKeepsSpec : ChangeSpec := { name := "engineKeeps", fn := fun _ => fun
  | [d1, d2, d3] => { results := [.lit (.bool true)], args := [d1, d2, d3] }
  | _ => none }
def engineKeepsRow : OpenClaim := { program := "ytjbfcacmdahnhaagreat", sum := "e4948f59fc22e688060d94ad8ce9b034e9bb21c5da990234e83dc682e3823bea", func := "egress/egresslaw22.EngineKeeps", spec := "engineKeeps", unfollowed := true, recurses := true, named := ["math/bits.divideError", "math/bits.overflowError"], plainKeys := false, apart := false }
def EngineKeepsSaid : Prop := engineKeepsRow.holds Tryz.pinned (OpenSpec.ofChange engineKeepsSpec)

/-- ITS FALSE NEIGHBOUR: 'it returns false'. Refute it at one input. -/
def engineKeepsWrong : ChangeSpec := { name := "engineKeeps", fn := fun _ => fun
  | [d1, d2, d3] => { results := [.lit (.bool false)], args := [d1, d2, d3] }
  | _ => none }
def EngineKeepsWrongFalsely : Prop := engineKeepsRow.holds Tryz.pinned (OpenSpec.ofChange engineKeepsWrong)

/-- 'egresstop.TopDeadline': WHATEVER THE INPUT: true; the input reads as it did. -/
def topDeadlineSpec : ChangeSpec := { name := "topDeadline", fn := fun _ => fun
  | [d1, d2] => { results := [.lit (.bool true)], args := [d1, d2] }
  | _ => none }
def topDeadlineRow : OpenClaim := { program := "ytjbfcacmdahnhaagreat", sum := "e4948f59fc22e688060d94ad8ce9b034e9bb21c5da990234e83dc682e3823bea", func := "egress/egresstop.TopDeadline", spec := "topDeadline", unfollowed := true, recurses := true, named := ["math/bits.divideError", "math/bits.overflowError"], plainKeys := false, apart := false }
def TopDeadlineSaid : Prop := topDeadlineRow.holds Tryz.pinned (OpenSpec.ofChange topDeadlineSpec)

/-- ITS FALSE NEIGHBOUR: 'it returns false'. Refute it at one input. -/
def topDeadlineWrong : ChangeSpec := { name := "topDeadline", fn := fun _ => fun
  | [d1, d2] => { results := [.lit (.bool false)], args := [d1, d2] }
  | _ => none }
def TopDeadlineWrongFalsely : Prop := topDeadlineRow.holds Tryz.pinned (OpenSpec.ofChange topDeadlineWrong)

/- THE SECOND FORM. 'bulk': how many values and letters a reading holds, each counted each time it is reached (what is shared counts as often as it is met; a slice's spare places count too). A statement '..UptoSaid' is the law's where the arguments, and the package variables that the reading takes, are together of bulk at most 1048576: NARROWER than '..Said'. Prove '..Said' where nothing that the law and all that it calls make is longer than what came in: it says more and counts as full. Else prove '..UptoSaid'. A law counts once. -/
mutual
def uptoBulk {H : Type} : DataW H → Nat
  | .lit (.string bytes) => bytes.length + 1
  | .lit _ => 1
  | .nil => 1
  | .ptr d => uptoBulk d + 1
  | .slice elems spare => uptoBulkAll elems + uptoBulkAll spare + 1
  | .agg parts => uptoBulkAll parts + 1
  | .iface _ d => uptoBulk d + 1
  | .map entries => uptoBulkEntries entries + 1
  | .held _ => 1
def uptoBulkAll {H : Type} : List (DataW H) → Nat
  | [] => 0
  | d :: r => uptoBulk d + uptoBulkAll r
def uptoBulkEntries {H : Type} : List (Lit × DataW H) → Nat
  | [] => 0
  | x :: r => uptoBulkEntry x + uptoBulkEntries r
def uptoBulkEntry {H : Type} : Lit × DataW H → Nat
  | (.string bytes, d) => bytes.length + uptoBulk d + 1
  | (_, d) => uptoBulk d + 1
 end
def uptoSmall : (H : Type) → List (DataW H) → Bool := fun _ ds => decide (uptoBulkAll ds ≤ 1048576)
def OpenSpec.upto (s : _root_.Go.ChangeSpec) : _root_.Go.OpenSpec := { _root_.Go.OpenSpec.ofChange s with cond := some uptoSmall }

/-- 'egresstop.TopDelays', WHERE WHAT IT READS IS OF BULK AT MOST 1048576: true; the input reads as it did. -/
def topDelaysUptoRow : OpenClaim := { program := "ytjbfcacmdahnhaagreat", sum := "e4948f59fc22e688060d94ad8ce9b034e9bb21c5da990234e83dc682e3823bea", func := "egress/egresstop.TopDelays", spec := "topDelays", unfollowed := true, recurses := true, named := ["math/bits.divideError", "math/bits.overflowError"], plainKeys := false, apart := false, narrowed := true }
def TopDelaysUptoSaid : Prop := topDelaysUptoRow.holds Tryz.pinned (OpenSpec.upto topDelaysSpec)

/-- 'egresstop.TopFifo', WHERE WHAT IT READS IS OF BULK AT MOST 1048576: true; the input reads as it did. -/
def topFifoUptoRow : OpenClaim := { program := "ytjbfcacmdahnhaagreat", sum := "e4948f59fc22e688060d94ad8ce9b034e9bb21c5da990234e83dc682e3823bea", func := "egress/egresstop.TopFifo", spec := "topFifo", unfollowed := true, recurses := true, named := ["math/bits.divideError", "math/bits.overflowError"], plainKeys := false, apart := false, narrowed := true }
def TopFifoUptoSaid : Prop := topFifoUptoRow.holds Tryz.pinned (OpenSpec.upto topFifoSpec)

/-- 'egresstop.TopRejected', WHERE WHAT IT READS IS OF BULK AT MOST 1048576: true; the input reads as it did. -/
def topRejectedUptoRow : OpenClaim := { program := "ytjbfcacmdahnhaagreat", sum := "e4948f59fc22e688060d94ad8ce9b034e9bb21c5da990234e83dc682e3823bea", func := "egress/egresstop.TopRejected", spec := "topRejected", unfollowed := true, recurses := true, named := ["math/bits.divideError", "math/bits.overflowError"], plainKeys := false, apart := false, narrowed := true }
def TopRejectedUptoSaid : Prop := topRejectedUptoRow.holds Tryz.pinned (OpenSpec.upto topRejectedSpec)

/-- 'egresslaw22.EngineKeeps', WHERE WHAT IT READS IS OF BULK AT MOST 1048576: true; the input reads as it did. -/
def engineKeepsUptoRow : OpenClaim := { program := "ytjbfcacmdahnhaagreat", sum := "e4948f59fc22e688060d94ad8ce9b034e9bb21c5da990234e83dc682e3823bea", func := "egress/egresslaw22.EngineKeeps", spec := "engineKeeps", unfollowed := true, recurses := true, named := ["math/bits.divideError", "math/bits.overflowError"], plainKeys := false, apart := false, narrowed := true }
def EngineKeepsUptoSaid : Prop := engineKeepsUptoRow.holds Tryz.pinned (OpenSpec.upto engineKeepsSpec)

/-- 'egresstop.TopDeadline', WHERE WHAT IT READS IS OF BULK AT MOST 1048576: true; the input reads as it did. -/
def topDeadlineUptoRow : OpenClaim := { program := "ytjbfcacmdahnhaagreat", sum := "e4948f59fc22e688060d94ad8ce9b034e9bb21c5da990234e83dc682e3823bea", func := "egress/egresstop.TopDeadline", spec := "topDeadline", unfollowed := true, recurses := true, named := ["math/bits.divideError", "math/bits.overflowError"], plainKeys := false, apart := false, narrowed := true }
def TopDeadlineUptoSaid : Prop := topDeadlineUptoRow.holds Tryz.pinned (OpenSpec.upto topDeadlineSpec)

end Rows
end Go.Proofs.YtjbfcacmdahnhaaGreat
