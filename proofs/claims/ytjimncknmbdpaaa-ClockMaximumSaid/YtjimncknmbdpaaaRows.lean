/-
  No cell of these rows narrows 'for every input' (looked for: loops, veiled, ifaces, maps, wideKeys, modest, calm, conditions, laid).
  DERIVED. THE GIVEN ROWS OF THIS SEAT. 6 by the template 'for every input the law returns true; each argument reads behind the call as it read before'; 0 by the template 'total and deterministic' (their statements: YtjimncknmbdpaaaTotals.lean).
  GIVEN WITH THE SEED: the statements are not yours to turn. If you find one false, say at which input.
  Laid BY PROGRAM, IN A SANDBOX (cutbox-rows.mjs): the forced cells as the released guide's own fill.sh prints them over the translation a486cb94a7e26c76… (all of the seat's roots in one cut). By AI agents, Wed Nov 11 2026. No macro, syntax, notation, axiom, sorry.
-/
import Derived.Test.YtjimncknmbdpaaaChecked
import GoSem.Claim
import GoSem.ClaimJoined
import GoSem.ClaimMapViews
import Derived.JoinedTies
import Derived.KernelRfl
namespace Go.Proofs.Ytjimncknmbdpaaa
/- THE CELL 'sum', in the pinned program and in every row, IS THE sha256 OF THE DUMP (.gsa) THAT YtjimncknmbdpaaaProg.lean LOADS. Nothing in Lean hashes anything: it is a label: what it is worth is what the hold of that sum in a sandbox is worth. -/
noncomputable def Try.pinned : Pinned := { name := "ytjimncknmbdpaaa", sum := "a486cb94a7e26c765280904aba304f4d00b6fb434bd2c0ccafaa204fd53481d7", checked := Try.checked }
namespace Rows
def none {H : Type} : Left H := { results := [], args := [] }

/-- 'egresslaw02.ClockTicks': WHATEVER THE INPUT: true; the input reads as it did. -/
def clockTicksSpec : ChangeSpec := { name := "clockTicks", fn := fun _ => fun
  | [d1, d2] => { results := [.lit (.bool true)], args := [d1, d2] }
  | _ => none }
def clockTicksRow : OpenClaim := { program := "ytjimncknmbdpaaa", sum := "a486cb94a7e26c765280904aba304f4d00b6fb434bd2c0ccafaa204fd53481d7", func := "egress/egresslaw02.ClockTicks", spec := "clockTicks", apart := false }
def ClockTicksSaid : Prop := clockTicksRow.holds Try.pinned (OpenSpec.ofChange clockTicksSpec)

/-- ITS FALSE NEIGHBOUR: 'it returns false'. Refute it at one input. -/
def clockTicksWrong : ChangeSpec := { name := "clockTicks", fn := fun _ => fun
  | [d1, d2] => { results := [.lit (.bool false)], args := [d1, d2] }
  | _ => none }
def ClockTicksWrongFalsely : Prop := clockTicksRow.holds Try.pinned (OpenSpec.ofChange clockTicksWrong)

/-- 'egresslaw02.ClockEpochs': WHATEVER THE INPUT: true; the input reads as it did. -/
def clockEpochsSpec : ChangeSpec := { name := "clockEpochs", fn := fun _ => fun
  | [d1, d2, d3] => { results := [.lit (.bool true)], args := [d1, d2, d3] }
  | _ => none }
def clockEpochsRow : OpenClaim := { program := "ytjimncknmbdpaaa", sum := "a486cb94a7e26c765280904aba304f4d00b6fb434bd2c0ccafaa204fd53481d7", func := "egress/egresslaw02.ClockEpochs", spec := "clockEpochs", apart := false }
def ClockEpochsSaid : Prop := clockEpochsRow.holds Try.pinned (OpenSpec.ofChange clockEpochsSpec)

/-- ITS FALSE NEIGHBOUR: 'it returns false'. Refute it at one input. -/
def clockEpochsWrong : ChangeSpec := { name := "clockEpochs", fn := fun _ => fun
  | [d1, d2, d3] => { results := [.lit (.bool false)], args := [d1, d2, d3] }
  | _ => none }
def ClockEpochsWrongFalsely : Prop := clockEpochsRow.holds Try.pinned (OpenSpec.ofChange clockEpochsWrong)

/-- 'egresslaw02.ClockInverse': WHATEVER THE INPUT: true; the input reads as it did. -/
def clockInverseSpec : ChangeSpec := { name := "clockInverse", fn := fun _ => fun
  | [d1, d2] => { results := [.lit (.bool true)], args := [d1, d2] }
  | _ => none }
def clockInverseRow : OpenClaim := { program := "ytjimncknmbdpaaa", sum := "a486cb94a7e26c765280904aba304f4d00b6fb434bd2c0ccafaa204fd53481d7", func := "egress/egresslaw02.ClockInverse", spec := "clockInverse", apart := false }
def ClockInverseSaid : Prop := clockInverseRow.holds Try.pinned (OpenSpec.ofChange clockInverseSpec)

/-- ITS FALSE NEIGHBOUR: 'it returns false'. Refute it at one input. -/
def clockInverseWrong : ChangeSpec := { name := "clockInverse", fn := fun _ => fun
  | [d1, d2] => { results := [.lit (.bool false)], args := [d1, d2] }
  | _ => none }
def ClockInverseWrongFalsely : Prop := clockInverseRow.holds Try.pinned (OpenSpec.ofChange clockInverseWrong)

/-- 'egresslaw02.ClockNil': WHATEVER THE INPUT: true; the input reads as it did. -/
def clockNilSpec : ChangeSpec := { name := "clockNil", fn := fun _ => fun
  | [d] => { results := [.lit (.bool true)], args := [d] }
  | _ => none }
def clockNilRow : OpenClaim := { program := "ytjimncknmbdpaaa", sum := "a486cb94a7e26c765280904aba304f4d00b6fb434bd2c0ccafaa204fd53481d7", func := "egress/egresslaw02.ClockNil", spec := "clockNil", apart := false }
def ClockNilSaid : Prop := clockNilRow.holds Try.pinned (OpenSpec.ofChange clockNilSpec)

/-- ITS FALSE NEIGHBOUR: 'it returns false'. Refute it at one input. -/
def clockNilWrong : ChangeSpec := { name := "clockNil", fn := fun _ => fun
  | [d] => { results := [.lit (.bool false)], args := [d] }
  | _ => none }
def ClockNilWrongFalsely : Prop := clockNilRow.holds Try.pinned (OpenSpec.ofChange clockNilWrong)

/-- 'egresslaw02.ClockAdds': WHATEVER THE INPUT: true; the input reads as it did. -/
def clockAddsSpec : ChangeSpec := { name := "clockAdds", fn := fun _ => fun
  | [d1, d2] => { results := [.lit (.bool true)], args := [d1, d2] }
  | _ => none }
def clockAddsRow : OpenClaim := { program := "ytjimncknmbdpaaa", sum := "a486cb94a7e26c765280904aba304f4d00b6fb434bd2c0ccafaa204fd53481d7", func := "egress/egresslaw02.ClockAdds", spec := "clockAdds", apart := false }
def ClockAddsSaid : Prop := clockAddsRow.holds Try.pinned (OpenSpec.ofChange clockAddsSpec)

/-- ITS FALSE NEIGHBOUR: 'it returns false'. Refute it at one input. -/
def clockAddsWrong : ChangeSpec := { name := "clockAdds", fn := fun _ => fun
  | [d1, d2] => { results := [.lit (.bool false)], args := [d1, d2] }
  | _ => none }
def ClockAddsWrongFalsely : Prop := clockAddsRow.holds Try.pinned (OpenSpec.ofChange clockAddsWrong)

/-- 'egresslaw02.ClockMaximum': WHATEVER THE INPUT: true; the input reads as it did. -/
def clockMaximumSpec : ChangeSpec := { name := "clockMaximum", fn := fun _ => fun
  | [d] => { results := [.lit (.bool true)], args := [d] }
  | _ => none }
def clockMaximumRow : OpenClaim := { program := "ytjimncknmbdpaaa", sum := "a486cb94a7e26c765280904aba304f4d00b6fb434bd2c0ccafaa204fd53481d7", func := "egress/egresslaw02.ClockMaximum", spec := "clockMaximum", apart := false }
def ClockMaximumSaid : Prop := clockMaximumRow.holds Try.pinned (OpenSpec.ofChange clockMaximumSpec)

/-- ITS FALSE NEIGHBOUR: 'it returns false'. Refute it at one input. -/
def clockMaximumWrong : ChangeSpec := { name := "clockMaximum", fn := fun _ => fun
  | [d] => { results := [.lit (.bool false)], args := [d] }
  | _ => none }
def ClockMaximumWrongFalsely : Prop := clockMaximumRow.holds Try.pinned (OpenSpec.ofChange clockMaximumWrong)

/- THE SECOND FORM. 'bulk': how many values and letters a reading holds, each counted each time it is reached (what is shared counts as often as it is met; a slice's spare places count too). A statement '..UptoSaid' is the law's where the arguments, and the package variables that the reading takes, are together of bulk at most 1048576: NARROWER than '..Said'. Prove '..Said' where nothing that the law and all that it calls make is longer than what came in: it says more and counts as full. Else prove '..UptoSaid'. A law counts once. -/
mutual
def uptoBulk {H : Type} : DataW H → Nat
  | .lit (.string bytes) => bytes.length + 1
  | .lit _ => 1
  | .nil => 1
  | .ptr d => uptoBulk d + 1
  | .slice elems spare => uptoBulkAll elems + uptoBulkAll spare + 1
  | .agg parts => uptoBulkAll parts + 1
  | .iface _ d => uptoBulk d + 1
  | .map entries => uptoBulkEntries entries + 1
  | .held _ => 1
def uptoBulkAll {H : Type} : List (DataW H) → Nat
  | [] => 0
  | d :: r => uptoBulk d + uptoBulkAll r
def uptoBulkEntries {H : Type} : List (Lit × DataW H) → Nat
  | [] => 0
  | x :: r => uptoBulkEntry x + uptoBulkEntries r
def uptoBulkEntry {H : Type} : Lit × DataW H → Nat
  | (.string bytes, d) => bytes.length + uptoBulk d + 1
  | (_, d) => uptoBulk d + 1
 end
def uptoSmall : (H : Type) → List (DataW H) → Bool := fun _ ds => decide (uptoBulkAll ds ≤ 1048576)
def OpenSpec.upto (s : _root_.Go.ChangeSpec) : _root_.Go.OpenSpec := { _root_.Go.OpenSpec.ofChange s with cond := some uptoSmall }

/-- 'egresslaw02.ClockTicks', WHERE WHAT IT READS IS OF BULK AT MOST 1048576: true; the input reads as it did. -/
def clockTicksUptoRow : OpenClaim := { program := "ytjimncknmbdpaaa", sum := "a486cb94a7e26c765280904aba304f4d00b6fb434bd2c0ccafaa204fd53481d7", func := "egress/egresslaw02.ClockTicks", spec := "clockTicks", apart := false, narrowed := true }
def ClockTicksUptoSaid : Prop := clockTicksUptoRow.holds Try.pinned (OpenSpec.upto clockTicksSpec)

/-- 'egresslaw02.ClockEpochs', WHERE WHAT IT READS IS OF BULK AT MOST 1048576: true; the input reads as it did. -/
def clockEpochsUptoRow : OpenClaim := { program := "ytjimncknmbdpaaa", sum := "a486cb94a7e26c765280904aba304f4d00b6fb434bd2c0ccafaa204fd53481d7", func := "egress/egresslaw02.ClockEpochs", spec := "clockEpochs", apart := false, narrowed := true }
def ClockEpochsUptoSaid : Prop := clockEpochsUptoRow.holds Try.pinned (OpenSpec.upto clockEpochsSpec)

/-- 'egresslaw02.ClockInverse', WHERE WHAT IT READS IS OF BULK AT MOST 1048576: true; the input reads as it did. -/
def clockInverseUptoRow : OpenClaim := { program := "ytjimncknmbdpaaa", sum := "a486cb94a7e26c765280904aba304f4d00b6fb434bd2c0ccafaa204fd53481d7", func := "egress/egresslaw02.ClockInverse", spec := "clockInverse", apart := false, narrowed := true }
def ClockInverseUptoSaid : Prop := clockInverseUptoRow.holds Try.pinned (OpenSpec.upto clockInverseSpec)

/-- 'egresslaw02.ClockNil', WHERE WHAT IT READS IS OF BULK AT MOST 1048576: true; the input reads as it did. -/
def clockNilUptoRow : OpenClaim := { program := "ytjimncknmbdpaaa", sum := "a486cb94a7e26c765280904aba304f4d00b6fb434bd2c0ccafaa204fd53481d7", func := "egress/egresslaw02.ClockNil", spec := "clockNil", apart := false, narrowed := true }
def ClockNilUptoSaid : Prop := clockNilUptoRow.holds Try.pinned (OpenSpec.upto clockNilSpec)

/-- 'egresslaw02.ClockAdds', WHERE WHAT IT READS IS OF BULK AT MOST 1048576: true; the input reads as it did. -/
def clockAddsUptoRow : OpenClaim := { program := "ytjimncknmbdpaaa", sum := "a486cb94a7e26c765280904aba304f4d00b6fb434bd2c0ccafaa204fd53481d7", func := "egress/egresslaw02.ClockAdds", spec := "clockAdds", apart := false, narrowed := true }
def ClockAddsUptoSaid : Prop := clockAddsUptoRow.holds Try.pinned (OpenSpec.upto clockAddsSpec)

/-- 'egresslaw02.ClockMaximum', WHERE WHAT IT READS IS OF BULK AT MOST 1048576: true; the input reads as it did. -/
def clockMaximumUptoRow : OpenClaim := { program := "ytjimncknmbdpaaa", sum := "a486cb94a7e26c765280904aba304f4d00b6fb434bd2c0ccafaa204fd53481d7", func := "egress/egresslaw02.ClockMaximum", spec := "clockMaximum", apart := false, narrowed := true }
def ClockMaximumUptoSaid : Prop := clockMaximumUptoRow.holds Try.pinned (OpenSpec.upto clockMaximumSpec)

end Rows
end Go.Proofs.Ytjimncknmbdpaaa
