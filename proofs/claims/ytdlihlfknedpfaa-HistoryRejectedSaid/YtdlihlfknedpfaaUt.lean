/- Numbers, lists: what all laws use. -/
import Derived.Test.YtdlihlfknedpfaaSe
import Derived.Test.YtdlihlfknedpfaaTaw
import Derived.Test.YtdlihlfknedpfaaShapeB
namespace Go.Proofs.Ytdlihlfknedpfaa
open Go.RowKit
set_option linter.unusedVariables false
set_option maxRecDepth 100000
set_option linter.unusedSimpArgs false
set_option maxHeartbeats 2000000
/-- A number of 64 bits, as a cell. -/
def u64L (z : Int) : List Value := [.int .u64 z]
instance : EL u64L 1 := ⟨fun _ => rfl, fun x u h => by simp [u64L] at h; subst h; rfl⟩
def U64 (z : Int) : Prop := 0 ≤ z ∧ z ≤ 18446744073709551615
theorem drop_cons {α : Type} {l : List α} {k : Nat} {x : α} (h : l[k]? = some x) : l.drop k = x :: l.drop (k + 1) := by
  obtain ⟨h1, h2⟩ := List.getElem?_eq_some_iff.1 h
  rw [List.drop_eq_getElem_cons h1, h2]
def I64 (m : Int) : Prop := -9223372036854775808 ≤ m ∧ m ≤ 9223372036854775807
theorem take_map {α β : Type} {f : α → β} {l : List α} {j : Nat} {y : α} (h : l[j]? = some y) : (l.take (j + 1)).map f = (l.take j).map f ++ [f y] := by
  rw [List.take_add_one, h]; simp
theorem arr_eq {cs : Array Value} {l : List Value} (h : cs.toList = l) : cs = l.toArray := by apply Array.toList_inj.1; simpa using h
theorem i64_lit (m : Int) (h : -9223372036854775808 ≤ m ∧ m ≤ 9223372036854775807 := by decide) : I64 m := h
end Go.Proofs.Ytdlihlfknedpfaa
