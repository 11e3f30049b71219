/-
  No cell of these rows narrows 'for every input' (looked for: loops, veiled, ifaces, maps, wideKeys, modest, calm, conditions, laid).
  DERIVED. THE GIVEN ROWS OF THIS SEAT. 6 by the template 'for every input the law returns true; each argument reads behind the call as it read before'; 0 by the template 'total and deterministic' (their statements: YtfohgbcjhmmpeaaTotals.lean).
  GIVEN WITH THE SEED: the statements are not yours to turn. If you find one false, say at which input.
  Laid BY PROGRAM, IN A SANDBOX (cutbox-rows.mjs): the forced cells as the released guide's own fill.sh prints them over the translation e7ff6aa3ce607fb1… (all of the seat's roots in one cut). By AI agents, Wed Nov 11 2026. No macro, syntax, notation, axiom, sorry.
-/
import Derived.Test.YtfohgbcjhmmpeaaChecked
import GoSem.Claim
import GoSem.ClaimJoined
import GoSem.ClaimMapViews
import Derived.JoinedTies
import Derived.KernelRfl
namespace Go.Proofs.Ytfohgbcjhmmpeaa
/- THE CELL 'sum', in the pinned program and in every row, IS THE sha256 OF THE DUMP (.gsa) THAT YtfohgbcjhmmpeaaProg.lean LOADS. Nothing in Lean hashes anything: it is a label: what it is worth is what the hold of that sum in a sandbox is worth. -/
noncomputable def Try.pinned : Pinned := { name := "ytfohgbcjhmmpeaa", sum := "e7ff6aa3ce607fb1c739b2124908fde778a8edd2eb0de48643960d5a178964d5", checked := Try.checked }
namespace Rows
def none {H : Type} : Left H := { results := [], args := [] }

/-- 'egresslaw15.PenaltyAmounts': WHATEVER THE INPUT: true; the input reads as it did. -/
def penaltyAmountsSpec : ChangeSpec := { name := "penaltyAmounts", fn := fun _ => fun
  | [d1, d2, d3] => { results := [.lit (.bool true)], args := [d1, d2, d3] }
  | _ => none }
def penaltyAmountsRow : OpenClaim := { program := "ytfohgbcjhmmpeaa", sum := "e7ff6aa3ce607fb1c739b2124908fde778a8edd2eb0de48643960d5a178964d5", func := "egress/egresslaw15.PenaltyAmounts", spec := "penaltyAmounts", unfollowed := true, recurses := true, named := ["math/bits.divideError", "math/bits.overflowError"], plainKeys := false, apart := false }
def PenaltyAmountsSaid : Prop := penaltyAmountsRow.holds Try.pinned (OpenSpec.ofChange penaltyAmountsSpec)

/-- ITS FALSE NEIGHBOUR: 'it returns false'. Refute it at one input. -/
def penaltyAmountsWrong : ChangeSpec := { name := "penaltyAmounts", fn := fun _ => fun
  | [d1, d2, d3] => { results := [.lit (.bool false)], args := [d1, d2, d3] }
  | _ => none }
def PenaltyAmountsWrongFalsely : Prop := penaltyAmountsRow.holds Try.pinned (OpenSpec.ofChange penaltyAmountsWrong)

/-- 'egresslaw15.PenaltySlashes': WHATEVER THE INPUT: true; the input reads as it did. -/
def penaltySlashesSpec : ChangeSpec := { name := "penaltySlashes", fn := fun _ => fun
  | [d1, d2, d3] => { results := [.lit (.bool true)], args := [d1, d2, d3] }
  | _ => none }
def penaltySlashesRow : OpenClaim := { program := "ytfohgbcjhmmpeaa", sum := "e7ff6aa3ce607fb1c739b2124908fde778a8edd2eb0de48643960d5a178964d5", func := "egress/egresslaw15.PenaltySlashes", spec := "penaltySlashes", unfollowed := true, recurses := true, named := ["math/bits.divideError", "math/bits.overflowError"], plainKeys := false, apart := false }
def PenaltySlashesSaid : Prop := penaltySlashesRow.holds Try.pinned (OpenSpec.ofChange penaltySlashesSpec)

/-- ITS FALSE NEIGHBOUR: 'it returns false'. Refute it at one input. -/
def penaltySlashesWrong : ChangeSpec := { name := "penaltySlashes", fn := fun _ => fun
  | [d1, d2, d3] => { results := [.lit (.bool false)], args := [d1, d2, d3] }
  | _ => none }
def PenaltySlashesWrongFalsely : Prop := penaltySlashesRow.holds Try.pinned (OpenSpec.ofChange penaltySlashesWrong)

/-- 'egresslaw15.PenaltyPays': WHATEVER THE INPUT: true; the input reads as it did. -/
def penaltyPaysSpec : ChangeSpec := { name := "penaltyPays", fn := fun _ => fun
  | [d1, d2] => { results := [.lit (.bool true)], args := [d1, d2] }
  | _ => none }
def penaltyPaysRow : OpenClaim := { program := "ytfohgbcjhmmpeaa", sum := "e7ff6aa3ce607fb1c739b2124908fde778a8edd2eb0de48643960d5a178964d5", func := "egress/egresslaw15.PenaltyPays", spec := "penaltyPays", unfollowed := true, recurses := true, named := ["math/bits.divideError", "math/bits.overflowError"], plainKeys := false, apart := false }
def PenaltyPaysSaid : Prop := penaltyPaysRow.holds Try.pinned (OpenSpec.ofChange penaltyPaysSpec)

/-- ITS FALSE NEIGHBOUR: 'it returns false'. Refute it at one input. -/
def penaltyPaysWrong : ChangeSpec := { name := "penaltyPays", fn := fun _ => fun
  | [d1, d2] => { results := [.lit (.bool false)], args := [d1, d2] }
  | _ => none }
def PenaltyPaysWrongFalsely : Prop := penaltyPaysRow.holds Try.pinned (OpenSpec.ofChange penaltyPaysWrong)

/-- 'egresslaw15.PenaltyExits': WHATEVER THE INPUT: true; the input reads as it did. -/
def penaltyExitsSpec : ChangeSpec := { name := "penaltyExits", fn := fun _ => fun
  | [d1, d2, d3] => { results := [.lit (.bool true)], args := [d1, d2, d3] }
  | _ => none }
def penaltyExitsRow : OpenClaim := { program := "ytfohgbcjhmmpeaa", sum := "e7ff6aa3ce607fb1c739b2124908fde778a8edd2eb0de48643960d5a178964d5", func := "egress/egresslaw15.PenaltyExits", spec := "penaltyExits", unfollowed := true, recurses := true, named := ["math/bits.divideError", "math/bits.overflowError"], plainKeys := false, apart := false }
def PenaltyExitsSaid : Prop := penaltyExitsRow.holds Try.pinned (OpenSpec.ofChange penaltyExitsSpec)

/-- ITS FALSE NEIGHBOUR: 'it returns false'. Refute it at one input. -/
def penaltyExitsWrong : ChangeSpec := { name := "penaltyExits", fn := fun _ => fun
  | [d1, d2, d3] => { results := [.lit (.bool false)], args := [d1, d2, d3] }
  | _ => none }
def PenaltyExitsWrongFalsely : Prop := penaltyExitsRow.holds Try.pinned (OpenSpec.ofChange penaltyExitsWrong)

/-- 'egresslaw15.PenaltyTwice': WHATEVER THE INPUT: true; the input reads as it did. -/
def penaltyTwiceSpec : ChangeSpec := { name := "penaltyTwice", fn := fun _ => fun
  | [d1, d2, d3] => { results := [.lit (.bool true)], args := [d1, d2, d3] }
  | _ => none }
def penaltyTwiceRow : OpenClaim := { program := "ytfohgbcjhmmpeaa", sum := "e7ff6aa3ce607fb1c739b2124908fde778a8edd2eb0de48643960d5a178964d5", func := "egress/egresslaw15.PenaltyTwice", spec := "penaltyTwice", unfollowed := true, recurses := true, named := ["math/bits.divideError", "math/bits.overflowError"], plainKeys := false, apart := false }
def PenaltyTwiceSaid : Prop := penaltyTwiceRow.holds Try.pinned (OpenSpec.ofChange penaltyTwiceSpec)

/-- ITS FALSE NEIGHBOUR: 'it returns false'. Refute it at one input. -/
def penaltyTwiceWrong : ChangeSpec := { name := "penaltyTwice", fn := fun _ => fun
  | [d1, d2, d3] => { results := [.lit (.bool false)], args := [d1, d2, d3] }
  | _ => none }
def PenaltyTwiceWrongFalsely : Prop := penaltyTwiceRow.holds Try.pinned (OpenSpec.ofChange penaltyTwiceWrong)

/-- 'egresslaw15.PenaltyDelays': WHATEVER THE INPUT: true; the input reads as it did. -/
def penaltyDelaysSpec : ChangeSpec := { name := "penaltyDelays", fn := fun _ => fun
  | [d1, d2, d3] => { results := [.lit (.bool true)], args := [d1, d2, d3] }
  | _ => none }
def penaltyDelaysRow : OpenClaim := { program := "ytfohgbcjhmmpeaa", sum := "e7ff6aa3ce607fb1c739b2124908fde778a8edd2eb0de48643960d5a178964d5", func := "egress/egresslaw15.PenaltyDelays", spec := "penaltyDelays", unfollowed := true, recurses := true, named := ["math/bits.divideError", "math/bits.overflowError"], plainKeys := false, apart := false }
def PenaltyDelaysSaid : Prop := penaltyDelaysRow.holds Try.pinned (OpenSpec.ofChange penaltyDelaysSpec)

/-- ITS FALSE NEIGHBOUR: 'it returns false'. Refute it at one input. -/
def penaltyDelaysWrong : ChangeSpec := { name := "penaltyDelays", fn := fun _ => fun
  | [d1, d2, d3] => { results := [.lit (.bool false)], args := [d1, d2, d3] }
  | _ => none }
def PenaltyDelaysWrongFalsely : Prop := penaltyDelaysRow.holds Try.pinned (OpenSpec.ofChange penaltyDelaysWrong)

/- THE SECOND FORM. 'bulk': how many values and letters a reading holds, each counted each time it is reached (what is shared counts as often as it is met; a slice's spare places count too). A statement '..UptoSaid' is the law's where the arguments, and the package variables that the reading takes, are together of bulk at most 1048576: NARROWER than '..Said'. Prove '..Said' where nothing that the law and all that it calls make is longer than what came in: it says more and counts as full. Else prove '..UptoSaid'. A law counts once. -/
mutual
def uptoBulk {H : Type} : DataW H → Nat
  | .lit (.string bytes) => bytes.length + 1
  | .lit _ => 1
  | .nil => 1
  | .ptr d => uptoBulk d + 1
  | .slice elems spare => uptoBulkAll elems + uptoBulkAll spare + 1
  | .agg parts => uptoBulkAll parts + 1
  | .iface _ d => uptoBulk d + 1
  | .map entries => uptoBulkEntries entries + 1
  | .held _ => 1
def uptoBulkAll {H : Type} : List (DataW H) → Nat
  | [] => 0
  | d :: r => uptoBulk d + uptoBulkAll r
def uptoBulkEntries {H : Type} : List (Lit × DataW H) → Nat
  | [] => 0
  | x :: r => uptoBulkEntry x + uptoBulkEntries r
def uptoBulkEntry {H : Type} : Lit × DataW H → Nat
  | (.string bytes, d) => bytes.length + uptoBulk d + 1
  | (_, d) => uptoBulk d + 1
 end
def uptoSmall : (H : Type) → List (DataW H) → Bool := fun _ ds => decide (uptoBulkAll ds ≤ 1048576)
def OpenSpec.upto (s : _root_.Go.ChangeSpec) : _root_.Go.OpenSpec := { _root_.Go.OpenSpec.ofChange s with cond := some uptoSmall }

/-- 'egresslaw15.PenaltyAmounts', WHERE WHAT IT READS IS OF BULK AT MOST 1048576: true; the input reads as it did. -/
def penaltyAmountsUptoRow : OpenClaim := { program := "ytfohgbcjhmmpeaa", sum := "e7ff6aa3ce607fb1c739b2124908fde778a8edd2eb0de48643960d5a178964d5", func := "egress/egresslaw15.PenaltyAmounts", spec := "penaltyAmounts", unfollowed := true, recurses := true, named := ["math/bits.divideError", "math/bits.overflowError"], plainKeys := false, apart := false, narrowed := true }
def PenaltyAmountsUptoSaid : Prop := penaltyAmountsUptoRow.holds Try.pinned (OpenSpec.upto penaltyAmountsSpec)

/-- 'egresslaw15.PenaltySlashes', WHERE WHAT IT READS IS OF BULK AT MOST 1048576: true; the input reads as it did. -/
def penaltySlashesUptoRow : OpenClaim := { program := "ytfohgbcjhmmpeaa", sum := "e7ff6aa3ce607fb1c739b2124908fde778a8edd2eb0de48643960d5a178964d5", func := "egress/egresslaw15.PenaltySlashes", spec := "penaltySlashes", unfollowed := true, recurses := true, named := ["math/bits.divideError", "math/bits.overflowError"], plainKeys := false, apart := false, narrowed := true }
def PenaltySlashesUptoSaid : Prop := penaltySlashesUptoRow.holds Try.pinned (OpenSpec.upto penaltySlashesSpec)

/-- 'egresslaw15.PenaltyPays', WHERE WHAT IT READS IS OF BULK AT MOST 1048576: true; the input reads as it did. -/
def penaltyPaysUptoRow : OpenClaim := { program := "ytfohgbcjhmmpeaa", sum := "e7ff6aa3ce607fb1c739b2124908fde778a8edd2eb0de48643960d5a178964d5", func := "egress/egresslaw15.PenaltyPays", spec := "penaltyPays", unfollowed := true, recurses := true, named := ["math/bits.divideError", "math/bits.overflowError"], plainKeys := false, apart := false, narrowed := true }
def PenaltyPaysUptoSaid : Prop := penaltyPaysUptoRow.holds Try.pinned (OpenSpec.upto penaltyPaysSpec)

/-- 'egresslaw15.PenaltyExits', WHERE WHAT IT READS IS OF BULK AT MOST 1048576: true; the input reads as it did. -/
def penaltyExitsUptoRow : OpenClaim := { program := "ytfohgbcjhmmpeaa", sum := "e7ff6aa3ce607fb1c739b2124908fde778a8edd2eb0de48643960d5a178964d5", func := "egress/egresslaw15.PenaltyExits", spec := "penaltyExits", unfollowed := true, recurses := true, named := ["math/bits.divideError", "math/bits.overflowError"], plainKeys := false, apart := false, narrowed := true }
def PenaltyExitsUptoSaid : Prop := penaltyExitsUptoRow.holds Try.pinned (OpenSpec.upto penaltyExitsSpec)

/-- 'egresslaw15.PenaltyTwice', WHERE WHAT IT READS IS OF BULK AT MOST 1048576: true; the input reads as it did. -/
def penaltyTwiceUptoRow : OpenClaim := { program := "ytfohgbcjhmmpeaa", sum := "e7ff6aa3ce607fb1c739b2124908fde778a8edd2eb0de48643960d5a178964d5", func := "egress/egresslaw15.PenaltyTwice", spec := "penaltyTwice", unfollowed := true, recurses := true, named := ["math/bits.divideError", "math/bits.overflowError"], plainKeys := false, apart := false, narrowed := true }
def PenaltyTwiceUptoSaid : Prop := penaltyTwiceUptoRow.holds Try.pinned (OpenSpec.upto penaltyTwiceSpec)

/-- 'egresslaw15.PenaltyDelays', WHERE WHAT IT READS IS OF BULK AT MOST 1048576: true; the input reads as it did. -/
def penaltyDelaysUptoRow : OpenClaim := { program := "ytfohgbcjhmmpeaa", sum := "e7ff6aa3ce607fb1c739b2124908fde778a8edd2eb0de48643960d5a178964d5", func := "egress/egresslaw15.PenaltyDelays", spec := "penaltyDelays", unfollowed := true, recurses := true, named := ["math/bits.divideError", "math/bits.overflowError"], plainKeys := false, apart := false, narrowed := true }
def PenaltyDelaysUptoSaid : Prop := penaltyDelaysUptoRow.holds Try.pinned (OpenSpec.upto penaltyDelaysSpec)

end Rows
end Go.Proofs.Ytfohgbcjhmmpeaa
