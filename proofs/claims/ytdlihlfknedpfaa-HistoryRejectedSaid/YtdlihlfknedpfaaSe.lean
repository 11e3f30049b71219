/- Stores into elements of an owned slice. -/
import Derived.Test.YtdlihlfknedpfaaSa
namespace Go.Proofs.Ytdlihlfknedpfaa
open Go.RowKit
set_option linter.unusedVariables false
set_option maxRecDepth 100000
set_option maxHeartbeats 1000000
section
variable {o : Oper} {n : Nat} {l : List (Nat × Value)} {L : List Asn} {C : Value → List Asn → Prop}
theorem own_set {w : World} {e : TypeId} {size m : Nat} {v : Value} {xs : List Value} {s : List Nat} (h : Ok (own e size v m xs) s w) {p : Nat} {u : Value} (hp : p < xs.length) : ∃ b, v = .slice (some ⟨b, 0, none⟩) m (match v with | .slice _ _ c => c | _ => 0) ∧ (∃ z, w.cell? ⟨b, p, none⟩ = some z) ∧ w.frozen? ⟨b, p, none⟩ = false ∧ Chg s w (w.setCell ⟨b, p, none⟩ u) ∧ Ok (own e size v m (xs.set p u)) s (w.setCell ⟨b, p, none⟩ u) := by
  obtain ⟨h1, h2⟩ := h.now
  rcases h2 with ⟨_, rfl, _⟩ | ⟨g, cap, cur, rfl, rfl, hg, hn, hc, hs, ht⟩
  · omega
  · have hpc : p < cur.size := by
      have : (cur.toList.take (m * size)).length = xs.length := by rw [ht]
      rw [List.length_take, Array.length_toList] at this; omega
    have e1 : w.setCell ⟨g, p, none⟩ u = w.setRow g (cur.toList.set p u).toArray := setCell_row (cs := cur.toList) (by simpa using hg)
    refine ⟨g, rfl, ⟨cur[p], by simp [World.cell?, hg, hpc]⟩, by simp [World.frozen?, hg], ?_, ?_⟩
    · rw [e1]; exact chg_setRow
    · rw [e1]
      refine ok_own (by simpa using h1) (setRow_heap w g _ _ e _ hg) hn hc (by simpa using hs) ?_
      simp only [List.toList_toArray]
      rw [List.take_set, ht]
theorem Mem.ok {A : Asn} {L : List Asn} {w : World} (M : Mem w (A :: L)) : ∃ s, Ok A s w := by
  obtain ⟨s, hs⟩ := M
  cases hs with
  | cons h1 _ _ => exact ⟨_, h1⟩
theorem flat_lenE {α : Type} {f : α → List Value} {k : Nat} (he : EL f k) : ∀ xs : List α, (xs.flatMap f).length = xs.length * k
  | [] => by simp
  | x :: r => by rw [List.flatMap_cons, List.length_append, he.len, flat_lenE he r, List.length_cons, Nat.succ_mul]; omega
/-- Store a cell of an element. -/
theorem ac_storeE {α : Type} {f : α → List Value} {t : TypeId} {x y : Operand} (ho : o.op = .store t x y) {v : Value} {j k i : Nat} (hx : evl l x = some (.pointer (some ⟨vb v, vo v + j * k + i, none⟩))) (hkt : KT t none) {u : Value} (hy : evl l y = some u) (hu : u.oneCell' = true)
    {e : TypeId} {xs : List α} {L2 : List Asn} {z : α} (hz : xs[j]? = some z) (he : EL f k) (hi : Nat.ble (i + 1) k = true) (y' : α) (hf : f y' = (f z).set i u) (hp : Rep L (ownT e f k v xs) (ownT e f k v (xs.set j y')) L2) (h : C undef L2) : AC o l L n C := fun G a w F M => by
  have hi' : i < k := Nat.le_of_ble_eq_true hi
  obtain ⟨L', h1, h2⟩ := hp.both
  have hj : j < xs.length := (List.getElem?_eq_some_iff.1 hz).1
  have hlen := flat_lenE he xs
  have hpl : j * k + i < (xs.flatMap f).length := by
    rw [hlen]
    have : (j + 1) * k ≤ xs.length * k := Nat.mul_le_mul_right k hj
    rw [Nat.succ_mul] at this; omega
  obtain ⟨s, hs⟩ := (M.pull (h1.app G)).ok
  obtain ⟨b, hv, ⟨c, hc⟩, hfz, _, _⟩ := own_set (u := u) hs hpl
  have hvb : vb v = b ∧ vo v = 0 := by rw [hv]; exact ⟨rfl, rfl⟩
  rw [hvb.1, hvb.2, Nat.zero_add] at hx
  have : (execOp a.eval o).run Try.prog w = .ok .skip (w.setCell ⟨b, j * k + i, none⟩ u) := by
    unfold execOp
    rw [ho]
    simp [F.eval hx, F.eval hy, Instr.storeAt, Instr.sureAddr, run_storeVar_one hc hfz hu]
  rw [this]
  refine ⟨L2, h, M.rep (hp.app G) fun s hs => ?_⟩
  obtain ⟨b', hv', _, _, hcg, hok⟩ := own_set (u := u) hs hpl
  obtain rfl : b' = b := by
    have := hv.symm.trans hv'
    simp at this
    exact this.1.symm
  refine ⟨hcg, s, ?_, fun b hb => .inl hb⟩
  rw [flat_set he.len xs j i z u hz hi' y' hf] at hok
  unfold ownT
  rw [List.length_set]
  exact hok
end
end Go.Proofs.Ytdlihlfknedpfaa
