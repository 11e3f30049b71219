/-
  No cell of these rows narrows 'for every input' (looked for: loops, veiled, ifaces, maps, wideKeys, modest, calm, conditions, laid).
  DERIVED. THE GIVEN ROWS OF THIS SEAT. 4 by the template 'for every input the law returns true; each argument reads behind the call as it read before'; 0 by the template 'total and deterministic' (their statements: YtdlihlfknedpfaaTotals.lean).
  GIVEN WITH THE SEED: the statements are not yours to turn. If you find one false, say at which input.
  Laid BY PROGRAM, IN A SANDBOX (cutbox-rows.mjs): the forced cells as the released guide's own fill.sh prints them over the translation 414cbc515644f076… (all of the seat's roots in one cut). By AI agents, Wed Nov 11 2026. No macro, syntax, notation, axiom, sorry.
-/
import Derived.Test.YtdlihlfknedpfaaChecked
import GoSem.Claim
import GoSem.ClaimJoined
import GoSem.ClaimMapViews
import Derived.JoinedTies
import Derived.KernelRfl
namespace Go.Proofs.Ytdlihlfknedpfaa
/- THE CELL 'sum', in the pinned program and in every row, IS THE sha256 OF THE DUMP (.gsa) THAT YtdlihlfknedpfaaProg.lean LOADS. Nothing in Lean hashes anything: it is a label: what it is worth is what the hold of that sum in a sandbox is worth. -/
noncomputable def Try.pinned : Pinned := { name := "ytdlihlfknedpfaa", sum := "414cbc515644f07601276930f0ade8a6d6ae926f9373bcff5951aec31b574da8", checked := Try.checked }
namespace Rows
def none {H : Type} : Left H := { results := [], args := [] }

/-- 'egresslaw23.HistoryOrders': WHATEVER THE INPUT: true; the input reads as it did. -/
def historyOrdersSpec : ChangeSpec := { name := "historyOrders", fn := fun _ => fun
  | [d1, d2] => { results := [.lit (.bool true)], args := [d1, d2] }
  | _ => none }
def historyOrdersRow : OpenClaim := { program := "ytdlihlfknedpfaa", sum := "414cbc515644f07601276930f0ade8a6d6ae926f9373bcff5951aec31b574da8", func := "egress/egresslaw23.HistoryOrders", spec := "historyOrders", unfollowed := true, recurses := true, apart := false }
def HistoryOrdersSaid : Prop := historyOrdersRow.holds Try.pinned (OpenSpec.ofChange historyOrdersSpec)

/-- ITS FALSE NEIGHBOUR: 'it returns false'. Refute it at one input. -/
def historyOrdersWrong : ChangeSpec := { name := "historyOrders", fn := fun _ => fun
  | [d1, d2] => { results := [.lit (.bool false)], args := [d1, d2] }
  | _ => none }
def HistoryOrdersWrongFalsely : Prop := historyOrdersRow.holds Try.pinned (OpenSpec.ofChange historyOrdersWrong)

/-- 'egresslaw23.HistoryExits': WHATEVER THE INPUT: true; the input reads as it did. -/
def historyExitsSpec : ChangeSpec := { name := "historyExits", fn := fun _ => fun
  | [d1, d2] => { results := [.lit (.bool true)], args := [d1, d2] }
  | _ => none }
def historyExitsRow : OpenClaim := { program := "ytdlihlfknedpfaa", sum := "414cbc515644f07601276930f0ade8a6d6ae926f9373bcff5951aec31b574da8", func := "egress/egresslaw23.HistoryExits", spec := "historyExits", unfollowed := true, recurses := true, apart := false }
def HistoryExitsSaid : Prop := historyExitsRow.holds Try.pinned (OpenSpec.ofChange historyExitsSpec)

/-- ITS FALSE NEIGHBOUR: 'it returns false'. Refute it at one input. -/
def historyExitsWrong : ChangeSpec := { name := "historyExits", fn := fun _ => fun
  | [d1, d2] => { results := [.lit (.bool false)], args := [d1, d2] }
  | _ => none }
def HistoryExitsWrongFalsely : Prop := historyExitsRow.holds Try.pinned (OpenSpec.ofChange historyExitsWrong)

/-- 'egresslaw23.HistoryLists': WHATEVER THE INPUT: true; the input reads as it did. -/
def historyListsSpec : ChangeSpec := { name := "historyLists", fn := fun _ => fun
  | [d1, d2, d3] => { results := [.lit (.bool true)], args := [d1, d2, d3] }
  | _ => none }
def historyListsRow : OpenClaim := { program := "ytdlihlfknedpfaa", sum := "414cbc515644f07601276930f0ade8a6d6ae926f9373bcff5951aec31b574da8", func := "egress/egresslaw23.HistoryLists", spec := "historyLists", unfollowed := true, recurses := true, apart := false }
def HistoryListsSaid : Prop := historyListsRow.holds Try.pinned (OpenSpec.ofChange historyListsSpec)

/-- ITS FALSE NEIGHBOUR: 'it returns false'. Refute it at one input. -/
def historyListsWrong : ChangeSpec := { name := "historyLists", fn := fun _ => fun
  | [d1, d2, d3] => { results := [.lit (.bool false)], args := [d1, d2, d3] }
  | _ => none }
def HistoryListsWrongFalsely : Prop := historyListsRow.holds Try.pinned (OpenSpec.ofChange historyListsWrong)

/-- 'egresslaw23.HistoryRejected': WHATEVER THE INPUT: true; the input reads as it did. -/
def historyRejectedSpec : ChangeSpec := { name := "historyRejected", fn := fun _ => fun
  | [d1, d2] => { results := [.lit (.bool true)], args := [d1, d2] }
  | _ => none }
def historyRejectedRow : OpenClaim := { program := "ytdlihlfknedpfaa", sum := "414cbc515644f07601276930f0ade8a6d6ae926f9373bcff5951aec31b574da8", func := "egress/egresslaw23.HistoryRejected", spec := "historyRejected", unfollowed := true, recurses := true, apart := false }
def HistoryRejectedSaid : Prop := historyRejectedRow.holds Try.pinned (OpenSpec.ofChange historyRejectedSpec)

/-- ITS FALSE NEIGHBOUR: 'it returns false'. Refute it at one input. -/
def historyRejectedWrong : ChangeSpec := { name := "historyRejected", fn := fun _ => fun
  | [d1, d2] => { results := [.lit (.bool false)], args := [d1, d2] }
  | _ => none }
def HistoryRejectedWrongFalsely : Prop := historyRejectedRow.holds Try.pinned (OpenSpec.ofChange historyRejectedWrong)

/- THE SECOND FORM. 'bulk': how many values and letters a reading holds, each counted each time it is reached (what is shared counts as often as it is met; a slice's spare places count too). A statement '..UptoSaid' is the law's where the arguments, and the package variables that the reading takes, are together of bulk at most 1048576: NARROWER than '..Said'. Prove '..Said' where nothing that the law and all that it calls make is longer than what came in: it says more and counts as full. Else prove '..UptoSaid'. A law counts once. -/
mutual
def uptoBulk {H : Type} : DataW H → Nat
  | .lit (.string bytes) => bytes.length + 1
  | .lit _ => 1
  | .nil => 1
  | .ptr d => uptoBulk d + 1
  | .slice elems spare => uptoBulkAll elems + uptoBulkAll spare + 1
  | .agg parts => uptoBulkAll parts + 1
  | .iface _ d => uptoBulk d + 1
  | .map entries => uptoBulkEntries entries + 1
  | .held _ => 1
def uptoBulkAll {H : Type} : List (DataW H) → Nat
  | [] => 0
  | d :: r => uptoBulk d + uptoBulkAll r
def uptoBulkEntries {H : Type} : List (Lit × DataW H) → Nat
  | [] => 0
  | x :: r => uptoBulkEntry x + uptoBulkEntries r
def uptoBulkEntry {H : Type} : Lit × DataW H → Nat
  | (.string bytes, d) => bytes.length + uptoBulk d + 1
  | (_, d) => uptoBulk d + 1
 end
def uptoSmall : (H : Type) → List (DataW H) → Bool := fun _ ds => decide (uptoBulkAll ds ≤ 1048576)
def OpenSpec.upto (s : _root_.Go.ChangeSpec) : _root_.Go.OpenSpec := { _root_.Go.OpenSpec.ofChange s with cond := some uptoSmall }

/-- 'egresslaw23.HistoryOrders', WHERE WHAT IT READS IS OF BULK AT MOST 1048576: true; the input reads as it did. -/
def historyOrdersUptoRow : OpenClaim := { program := "ytdlihlfknedpfaa", sum := "414cbc515644f07601276930f0ade8a6d6ae926f9373bcff5951aec31b574da8", func := "egress/egresslaw23.HistoryOrders", spec := "historyOrders", unfollowed := true, recurses := true, apart := false, narrowed := true }
def HistoryOrdersUptoSaid : Prop := historyOrdersUptoRow.holds Try.pinned (OpenSpec.upto historyOrdersSpec)

/-- 'egresslaw23.HistoryExits', WHERE WHAT IT READS IS OF BULK AT MOST 1048576: true; the input reads as it did. -/
def historyExitsUptoRow : OpenClaim := { program := "ytdlihlfknedpfaa", sum := "414cbc515644f07601276930f0ade8a6d6ae926f9373bcff5951aec31b574da8", func := "egress/egresslaw23.HistoryExits", spec := "historyExits", unfollowed := true, recurses := true, apart := false, narrowed := true }
def HistoryExitsUptoSaid : Prop := historyExitsUptoRow.holds Try.pinned (OpenSpec.upto historyExitsSpec)

/-- 'egresslaw23.HistoryLists', WHERE WHAT IT READS IS OF BULK AT MOST 1048576: true; the input reads as it did. -/
def historyListsUptoRow : OpenClaim := { program := "ytdlihlfknedpfaa", sum := "414cbc515644f07601276930f0ade8a6d6ae926f9373bcff5951aec31b574da8", func := "egress/egresslaw23.HistoryLists", spec := "historyLists", unfollowed := true, recurses := true, apart := false, narrowed := true }
def HistoryListsUptoSaid : Prop := historyListsUptoRow.holds Try.pinned (OpenSpec.upto historyListsSpec)

/-- 'egresslaw23.HistoryRejected', WHERE WHAT IT READS IS OF BULK AT MOST 1048576: true; the input reads as it did. -/
def historyRejectedUptoRow : OpenClaim := { program := "ytdlihlfknedpfaa", sum := "414cbc515644f07601276930f0ade8a6d6ae926f9373bcff5951aec31b574da8", func := "egress/egresslaw23.HistoryRejected", spec := "historyRejected", unfollowed := true, recurses := true, apart := false, narrowed := true }
def HistoryRejectedUptoSaid : Prop := historyRejectedUptoRow.holds Try.pinned (OpenSpec.upto historyRejectedSpec)

end Rows
end Go.Proofs.Ytdlihlfknedpfaa
