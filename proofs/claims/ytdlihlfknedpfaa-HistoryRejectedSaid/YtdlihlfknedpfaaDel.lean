/- The rest of an owned slice; clear; a slice cut short. -/
import Derived.Test.YtdlihlfknedpfaaMp
import Derived.Test.YtdlihlfknedpfaaUt
namespace Go.Proofs.Ytdlihlfknedpfaa
open Go.RowKit
set_option linter.unusedVariables false
set_option maxRecDepth 100000
set_option linter.unusedSimpArgs false
set_option maxHeartbeats 1000000
section
variable {o : Oper} {n : Nat} {l : List (Nat × Value)} {L : List Asn} {C : Value → List Asn → Prop}
/-- The rest of a slice from j on. -/
abbrev fromH (h : SlH) (j size : Nat) : SlH := ⟨if h.c = j then h.a else h.a.map (·.add (j * size)), h.n - j, h.c - j⟩
theorem own_h {w : World} {L : List Asn} {e : TypeId} {size m : Nat} {h : SlH} {xs : List Value} (M : Mem w (own e size (sl h) m xs :: L)) : h.n = m ∧ m ≤ h.c ∧ xs.length = m * size ∧ m ≤ maxLen := by
  obtain ⟨s, hs, _⟩ := M.head
  obtain ⟨h1, ⟨h2, h3, _⟩ | ⟨g, cap, cur, h2, _, _, h3, h4, _, _⟩⟩ := hs
  · obtain ⟨a, n, c⟩ := h
    simp only [sl, Value.slice.injEq] at h2
    obtain ⟨rfl, rfl, rfl⟩ := h2
    exact ⟨h3.symm, by omega, h1, by simp [h3]⟩
  · obtain ⟨a, n, c⟩ := h
    simp only [sl, Value.slice.injEq] at h2
    obtain ⟨rfl, rfl, rfl⟩ := h2
    exact ⟨rfl, h3, h1, by omega⟩
theorem rt_from {t : TypeId} {x y : Operand} (ho : o.op = .slice t x (some y) none none) {h : SlH} (hx : evl l x = some (sl h)) {k : IntKind} {j : Nat} (hy : evl l y = some (.int k (j : Int))) {e : TypeId} {z : Value} {size bytes : Nat} (ht : ST t e z size bytes) (h1 : j ≤ h.n) : RT o l L n (sl (fromH h j size)) := fun a w F M => by
  unfold execOp
  rw [ho]
  obtain ⟨hu, _⟩ := ht.k
  have e2 : Try.prog.elem t = e := by simp [Program.elem, hu]
  have ht' : Try.prog.underlying t = some (.slice (Try.prog.elem t)) := by rw [e2]; exact hu
  have hr := run_sliceAt_slice (P := Try.prog) w t (sl h) (some (.int k j)) none none ht'
  have hs := run_slice_l (P := Try.prog) w t h.a h.n h.c ht' k j (by omega) (by omega)
  rw [e2, st_size ht] at hs
  simp only [Result.andThen_ok, sliced, Int.toNat_natCast] at hs
  simp [F.eval hx, F.eval hy, hr, hs, sl]
theorem rt_to {t : TypeId} {x y : Operand} (ho : o.op = .slice t x none (some y) none) {h : SlH} (hx : evl l x = some (sl h)) {k : IntKind} {j : Nat} (hy : evl l y = some (.int k (j : Int))) {e : TypeId} {z : Value} {size bytes : Nat} (ht : ST t e z size bytes) (h1 : j ≤ h.c) : RT o l L n (sl ⟨h.a, j, h.c⟩) := fun a w F M => by
  unfold execOp
  rw [ho]
  obtain ⟨hu, _⟩ := ht.k
  have e2 : Try.prog.elem t = e := by simp [Program.elem, hu]
  have ht' : Try.prog.underlying t = some (.slice (Try.prog.elem t)) := by rw [e2]; exact hu
  have hr := run_sliceAt_slice (P := Try.prog) w t (sl h) none (some (.int k j)) none ht'
  have hs := run_slice_h (P := Try.prog) w t h.a h.n h.c ht' k j (by omega) (by omega)
  rw [e2, st_size ht] at hs
  simp only [Result.andThen_ok, sliced, Int.toNat_natCast] at hs
  have : (if h.c = 0 then h.a else h.a.map (·.add (0 * size))) = h.a := by
    split
    · rfl
    · cases h.a with
      | none => rfl
      | some q => obtain ⟨pb, po, pn⟩ := q; simp [Addr.add]
  rw [this] at hs
  simp [F.eval hx, F.eval hy, hr, hs, sl]
theorem own_cut {w : World} {L : List Asn} {e : TypeId} {size m j : Nat} {h : SlH} {xs : List Value} (M : Mem w (own e size (sl h) m xs :: L)) (hj : j ≤ m) : Mem w (own e size (sl ⟨h.a, j, h.c⟩) j (xs.take (j * size)) :: L) := by
  refine M.imp fun s w' hs => ?_
  obtain ⟨h1, h2⟩ := hs
  have hle : j * size ≤ m * size := Nat.mul_le_mul_right _ hj
  refine ⟨by rw [List.length_take]; omega, ?_⟩
  rcases h2 with ⟨h2, h3, h4⟩ | ⟨g, cap, cur, h2, hs, h3, h4, h5, h6, h7⟩
  · obtain ⟨a, n', c⟩ := h
    simp only [sl, Value.slice.injEq] at h2
    obtain ⟨rfl, rfl, rfl⟩ := h2
    obtain rfl : j = 0 := by omega
    exact .inl ⟨rfl, rfl, h4⟩
  · obtain ⟨a, n', c⟩ := h
    simp only [sl, Value.slice.injEq] at h2
    obtain ⟨rfl, rfl, rfl⟩ := h2
    exact .inr ⟨g, c, cur, rfl, hs, h3, by omega, h5, h6, by rw [← h7, List.take_take, Nat.min_eq_left hle]⟩
theorem zeroCells_len (z : Array Value) (k : Nat) : (Builtin.zeroCells z k).toList.length = k * z.size := by simp [Builtin.zeroCells]
theorem zeroCells_one {z : Array Value} (hz : ∀ v ∈ z.toList, v.oneCell' = true) (k : Nat) : ∀ v ∈ (Builtin.zeroCells z k).toList, v.oneCell' = true := fun v hv => by
  simp only [Builtin.zeroCells, Array.toList_map, Array.toList_range, List.mem_map, List.mem_range] at hv
  obtain ⟨i, hi, rfl⟩ := hv
  have hp : 0 < z.size := by rcases Nat.eq_zero_or_pos z.size with h | h; (· rw [h] at hi; simp at hi); exact h
  have := Nat.mod_lt i hp
  rw [getElem!_pos z (i % z.size) this]
  exact hz _ (by simp)
theorem ac_clear {x : Operand} {ats : Array TypeId} {t : TypeId} (ho : o.op = .call { callee := .builtin .clear, args := #[x], argTypes := ats }) (hat : ats = #[t]) {e : TypeId} {z : Value} {size bytes : Nat} (ht : ST t e z size bytes) {h : SlH} {j : Nat} (hx : evl l x = some (sl (fromH h j size))) (hz : z.cells.toList.all (·.oneCell') = true)
    {m : Nat} {xs : List Value} {L' : List Asn} (hp : Pull L (own e size (sl h) m xs) L') (hj : j ≤ m) (hc : ∀ ys : List Value, ys.take (j * size) = xs.take (j * size) → C (.tuple #[]) (own e size (sl h) m ys :: L')) : AC o l L n C := fun G a w F M => by
  subst hat
  have M1 := M.pull (hp.app G)
  obtain ⟨hn, hm, hlen, _⟩ := own_h M1
  obtain ⟨s, hs, hlt⟩ := M1.head
  obtain ⟨i, hu, hi, hzi, hsz, _, hzs, hpos⟩ := st_info ht
  have hzv : (zeroValue e).run Try.prog w = .ok z w := by simp [zeroValue, typeInfo, hi, hzi]
  have fin : ∀ w', (Builtin.clear_ #[t] o.type #[sl (fromH h j size)]).run Try.prog w = .ok (.tuple #[]) w' → (∃ ys, ys.take (j * size) = xs.take (j * size) ∧ Mem w' (own e size (sl h) m ys :: (L' ++ G))) → UponD Try.prog (fun v w' => ∃ L'', C v L'' ∧ Mem w' (L'' ++ G)) ((execOp a.eval o).run Try.prog w) := by
    intro w' hr ⟨ys, h1, h2⟩
    have : (execOp a.eval o).run Try.prog w = .ok (.value (.tuple #[])) w' := by
      unfold execOp
      rw [ho]
      simp [resolve, invoke, builtin, F.eval hx, hr]
    rw [this]
    exact ⟨_, hc ys h1, h2⟩
  by_cases hjm : j = m
  · refine fin w ?_ ⟨xs, rfl, M1⟩
    have : h.n - j = 0 := by omega
    cases ha : (if h.c = j then h.a else h.a.map (·.add (j * size))) <;> simp [Builtin.clear_, run_underlying hu, fromH, sl, this, ha]
  · obtain ⟨a', n', c'⟩ := h
    rcases hs.2 with ⟨h2, h3, h4⟩ | ⟨g, cap, cur, h2, _, h3, h4, h5, h6, h7⟩
    · omega
    · simp only [sl, Value.slice.injEq] at h2
      obtain ⟨rfl, rfl, rfl⟩ := h2
      have hcj : ¬ c' = j := by simp only at hm; omega
      have hle : j * size + (n' - j) * size = n' * size := by rw [← Nat.add_mul]; congr 1; omega
      have hle2 : n' * size ≤ c' * size := Nat.mul_le_mul_right _ h4
      have lZ := zeroCells_len z.cells (n' - j)
      rw [hzs] at lZ
      have oZ := zeroCells_one (all_one hz) (n' - j)
      simp only at hm hlen hn
      have lc : cur.toList.length = c' * size := by rw [Array.length_toList]; exact h6
      obtain ⟨Z, hZ⟩ : ∃ Z, (Builtin.zeroCells z.cells (n' - j)).toList = Z := ⟨_, rfl⟩
      rw [hZ] at lZ oZ
      obtain ⟨A, hA⟩ : ∃ A, j * size = A := ⟨_, rfl⟩
      obtain ⟨B, hB⟩ : ∃ B, (n' - j) * size = B := ⟨_, rfl⟩
      obtain ⟨N, hN⟩ : ∃ N, n' * size = N := ⟨_, rfl⟩
      rw [hA, hB, hN] at hle
      rw [hN] at hle2 hlen h7
      rw [hB] at lZ
      obtain ⟨D, hD⟩ : ∃ D, c' * size = D := ⟨_, rfl⟩
      rw [hD] at hle2 lc
      have hst := run_storeCells_at (P := Try.prog) g A e Z 0 cur w h3 (by rw [← Array.length_toList]; omega) oZ
      simp only [Nat.add_zero] at hst
      rw [hA] at fin
      refine fin (w.setRow g (cur.toList.take A ++ Z ++ cur.toList.drop (A + Z.length)).toArray) ?_ ⟨xs.take A ++ Z, ?_, ?_⟩
      · have hsome : ((if c' = j then (some ⟨g, 0, none⟩ : Option Addr) else (some ⟨g, 0, none⟩ : Option Addr).map (·.add (j * size)))) = some ⟨g, A, none⟩ := by
          rw [if_neg hcj]; simp [add0, hA]
        obtain ⟨d, hd⟩ : ∃ d, n' - j = d + 1 := ⟨n' - j - 1, by omega⟩
        simp only [fromH, sl, hsome]
        rw [hd] at hZ ⊢
        simp [Builtin.clear_, run_underlying hu, hzv, hZ, hst]
      · rw [List.take_append_of_le_length (by rw [List.length_take]; omega), List.take_take, Nat.min_self]
      · refine M1.change fun s' hs' => ?_
        obtain ⟨_, h8 | ⟨g2, cap2, cur2, h8, rfl, _⟩⟩ := hs'.now
        · simp [sl] at h8
        simp only [sl, Value.slice.injEq, Option.some.injEq, Addr.mk.injEq] at h8
        obtain ⟨⟨rfl, _⟩, _⟩ := h8
        refine ⟨chg_setRow, [g], ok_own (by rw [hN, List.length_append, List.length_take, lZ]; omega) (setRow_heap w g cur _ e _ h3) h4 h5 ?_ ?_, fun x hx => .inl hx⟩
        · simp only [List.size_toArray, List.length_append, List.length_take, List.length_drop, lZ, lc, hD]
          omega
        · rw [hN, List.take_append_of_le_length (by simp only [List.length_append, List.length_take, lZ, lc]; omega), List.take_of_length_le (by simp only [List.length_append, List.length_take, lZ, lc]; omega), ← h7, List.take_take, Nat.min_eq_left (by omega)]
/-- Store a whole element. -/
theorem ac_storeEA {α : Type} {f : α → List Value} {t : TypeId} {x y : Operand} (ho : o.op = .store t x y) {v : Value} {j k : Nat} (hx : evl l x = some (.pointer (some ⟨vb v, vo v + j * k, none⟩))) (hkt : KT t (some k)) (y' : α) (hy : evl l y = some (.agg (f y').toArray))
    {e : TypeId} {xs : List α} {L2 : List Asn} {z : α} (hz : xs[j]? = some z) (he : EL f k) (hp : Rep L (ownT e f k v xs) (ownT e f k v (xs.set j y')) L2) (h : C undef L2) : AC o l L n C := fun G a w F M => by
  obtain ⟨L', h1, h2⟩ := hp.both
  have hj : j < xs.length := (List.getElem?_eq_some_iff.1 hz).1
  have hlen := flat_lenE he xs
  have hjk : j * k + k ≤ xs.length * k := by
    have : (j + 1) * k ≤ xs.length * k := Nat.mul_le_mul_right k hj
    rw [Nat.succ_mul] at this; omega
  have hfl : (f y').length = k := he.len y'
  have hset : (xs.set j y').flatMap f = (xs.flatMap f).take (j * k) ++ f y' ++ (xs.flatMap f).drop (j * k + k) := by
    rw [flat_take he.len, show j * k + k = (j + 1) * k by rw [Nat.succ_mul], flat_drop he.len, List.set_eq_take_append_cons_drop, if_pos hj]
    simp
  obtain ⟨s, hs, hlt⟩ := (M.pull (h1.app G)).head
  rcases hs.2 with ⟨_, h0, _⟩ | ⟨g, cap, cur, hv, _, hg, hn, hc, hsz, ht⟩
  · omega
  · have hvb : vb v = g ∧ vo v = 0 := by rw [hv]; exact ⟨rfl, rfl⟩
    rw [hvb.1, hvb.2, Nat.zero_add] at hx
    have hle : xs.length * k ≤ cap * k := Nat.mul_le_mul_right k hn
    have h3 := run_storeCells_at (P := Try.prog) g (j * k) e (f y') 0 cur w hg (by omega) (fun u hu => he.one y' u hu)
    simp only [Nat.add_zero] at h3
    have hcs : (Value.agg (f y').toArray).cells.size = k := by simp [Value.cells, hfl]
    have : (execOp a.eval o).run Try.prog w = .ok .skip (w.setRow g (cur.toList.take (j * k) ++ f y' ++ cur.toList.drop (j * k + k)).toArray) := by
      unfold execOp
      rw [ho]
      simp only [F.eval hx, F.eval hy, Instr.storeAt, Instr.sureAddr, storeVar, Sem.run_bind, Sem.run_pure, Result.andThen_ok, (run_isAgg (t := t) w).2, hcs]
      simp [Value.cells, h3, hfl]
    rw [this]
    refine ⟨L2, h, M.rep (hp.app G) fun s' hs' => ?_⟩
    obtain ⟨_, h8 | ⟨g2, cap2, cur2, h8, rfl, _⟩⟩ := hs'.now
    · rw [hv] at h8; simp at h8
    rw [hv] at h8
    simp only [Value.slice.injEq, Option.some.injEq, Addr.mk.injEq] at h8
    obtain ⟨⟨rfl, _⟩, _⟩ := h8
    refine ⟨chg_setRow, [g], ?_, fun x hx => .inl hx⟩
    rw [hv]
    unfold ownT
    rw [List.length_set]
    refine ok_own (by rw [flat_lenE he, List.length_set]) (setRow_heap w g cur _ e _ hg) hn hc ?_ ?_
    · simp only [List.size_toArray, List.length_append, List.length_take, List.length_drop, Array.length_toList, hfl]
      omega
    · rw [hset]
      simp only [List.toList_toArray]
      have e1 : (xs.flatMap f).take (j * k) = cur.toList.take (j * k) := by rw [← ht, List.take_take, Nat.min_eq_left (by omega)]
      have e2 : (xs.flatMap f).drop (j * k + k) = (cur.toList.drop (j * k + k)).take (xs.length * k - (j * k + k)) := by rw [← ht, List.drop_take]
      rw [e1, e2, List.take_append, List.take_append]
      have l1 : (cur.toList.take (j * k)).length = j * k := by rw [List.length_take, Array.length_toList]; omega
      rw [List.take_of_length_le (l := cur.toList.take (j * k)) (by omega), l1, List.take_of_length_le (l := f y') (by omega), List.length_append, l1, hfl]
/-- Where a property first holds. -/
def idxP {α : Type} (p : α → Bool) : List α → Nat → Int
  | [], _ => -1
  | x :: r, i => if p x = true then (i : Int) else idxP p r (i + 1)
theorem idxP_spec {α : Type} (p : α → Bool) : ∀ (xs : List α) (k : Nat), (idxP p xs k = -1 ∧ ∀ x ∈ xs, p x = false) ∨ ∃ i x, xs[i]? = some x ∧ idxP p xs k = ((k + i : Nat) : Int) ∧ (∀ y ∈ xs.take i, p y = false) ∧ p x = true
  | [], k => .inl ⟨rfl, by simp⟩
  | x :: r, k => by
    cases hp : p x
    · rcases idxP_spec p r (k + 1) with ⟨h1, h2⟩ | ⟨i, y, h1, h2, h3, h4⟩
      · exact .inl ⟨by simp [idxP, hp, h1], by simpa [hp] using h2⟩
      · refine .inr ⟨i + 1, y, by simpa using h1, ?_, ?_, h4⟩
        · simp only [idxP, hp, Bool.false_eq_true, if_false]
          rw [h2]; congr 1; omega
        · simpa [hp] using h3
    · exact .inr ⟨0, x, rfl, by simp [idxP, hp], by simp, hp⟩
theorem filter_all {α : Type} (p : α → Bool) : ∀ (xs : List α), (∀ x ∈ xs, p x = false) → xs.filter (fun x => !p x) = xs := fun xs h => by
  rw [List.filter_eq_self]; intro x hx; simp [h x hx]
end
end Go.Proofs.Ytdlihlfknedpfaa
