/- Loops with a ghost state; slices of elements of a type; strings. -/
import Derived.Test.YtdlihlfknedpfaaTav
import Derived.Laws.Strings2
import Derived.Laws.IdiomStrings
import Derived.Lib.LaidTab
import Derived.Lib.LazyBuf
namespace Go.Proofs.Ytdlihlfknedpfaa
open Go.RowKit
set_option linter.unusedVariables false
set_option maxRecDepth 100000
set_option linter.unusedSimpArgs false
theorem wp_loop_ghost {P : Program} {Q : Exit → Act → World → Prop} {c : Code} {σ : Type} (I : σ → Act → World → Prop) (μ : σ → Nat)
    (round : ∀ s a w, I s a w → c.wp P (Exit.then (fun a' w' => ∃ s', I s' a' w' ∧ μ s' < μ s) Q) a w) {a : Act} {w : World} (s0 : σ) (h0 : I s0 a w) : (Code.loop c).wp P Q a w := by
  intro b k cs
  have key : ∀ (n : Nat) (s : σ) (a : Act) (w : World), μ s = n → I s a w → ∃ e a' w', Q e a' w' ∧ Arrives P (lone (b.at a (.code c :: .inLoop c :: k)) cs w) b k cs e a' w' := by
    intro n
    induction n using Nat.strongRecOn with
    | _ n ih =>
      intro s a w hn hI
      obtain ⟨e, a1, w1, hq, harr⟩ := round s a w hI b (.inLoop c :: k) cs
      cases e with
      | normal =>
        obtain ⟨s', hI1, hlt⟩ := hq
        obtain ⟨e2, a2, w2, hq2, harr2⟩ := ih (μ s') (hn ▸ hlt) s' a1 w1 rfl hI1
        exact ⟨e2, a2, w2, hq2, .of_steps (Steps.trans harr (.one step_inLoop)) harr2⟩
      | exit id => exact ⟨_, a1, w1, hq, .pass (x := .inLoop c) rfl (fun _ _ => .inl (by simp)) harr⟩
      | goto l => exact ⟨_, a1, w1, hq, .pass (x := .inLoop c) rfl (fun _ _ => .inl (by simp)) harr⟩
      | ret => exact ⟨_, a1, w1, hq, .pass (x := .inLoop c) rfl (fun _ _ => .inl (by simp)) harr⟩
      | panic ch => exact ⟨_, a1, w1, hq, .pass (x := .inLoop c) rfl (fun _ _ => .inl (by simp)) harr⟩
      | outgrown => exact ⟨_, a1, w1, hq, .pass (x := .inLoop c) rfl (fun _ _ => .inl (by simp)) harr⟩
  obtain ⟨e, a', w', hq, harr⟩ := key _ s0 a w rfl h0
  exact ⟨e, a', w', hq, .of_steps (.one step_loop) harr⟩
section
variable {Q : Exit → Act → World → Prop} {a : Act} {w : World} {n : Nat} {l : List (Nat × Value)} {L : List Asn}
/-- A loop: s is its ghost state; lf, Lf: what is known of the frame and of memory at a round's start. -/
theorem sv_loop {c : Code} {σ : Type} (lf : σ → List (Nat × Value)) (Lf : σ → List Asn) (Pf : σ → Prop) (μ : σ → Nat) (F : Fr a n l) (M : Mem w L)
    (s0 : σ) (h0 : ∀ p ∈ lf s0, look l p.1 = some p.2) (hL : Perms L (Lf s0)) (hP : Pf s0)
    (round : ∀ s, Pf s → ∀ a w, Fr a n (lf s) → Mem w (Lf s) → c.wp Try.prog (Exit.then (fun a' w' => ∃ s', (Fr a' n (lf s') ∧ Mem w' (Lf s') ∧ Pf s') ∧ μ s' < μ s) Q) a w) : (Code.loop c).wp Try.prog Q a w :=
  wp_loop_ghost (fun s a w => Fr a n (lf s) ∧ Mem w (Lf s) ∧ Pf s) μ (fun s a w ⟨h1, h2, h3⟩ => round s h3 a w h1 h2) s0 ⟨F.keep h0, M.perms hL, hP⟩
theorem sv_start {c : Code} {w0 : World} (h : ∀ w, Mem w [Old w0] → c.wp Try.prog Q a w) : c.wp Try.prog Q a w0 := h w0 (Mem.old w0)
/-- The end of a round. -/
theorem sv_again {σ : Type} {lf : σ → List (Nat × Value)} {Lf : σ → List Asn} {Pf : σ → Prop} {μ : σ → Nat} {m : Nat} (F : Fr a n l) (M : Mem w L) (s' : σ) (h0 : ∀ p ∈ lf s', look l p.1 = some p.2) (hL : Perms L (Lf s')) (hP : Pf s') (hμ : μ s' < m) :
    ∃ s', (Fr a n (lf s') ∧ Mem w (Lf s') ∧ Pf s') ∧ μ s' < m := ⟨s', ⟨F.keep h0, M.perms hL, hP⟩, hμ⟩
end
/-! ### Slices of elements of a type -/
/-- Elements as cells: k cells each. -/
class EL {α : Type} (f : α → List Value) (k : outParam Nat) : Prop where
  len : ∀ x, (f x).length = k
  one : ∀ x, ∀ u ∈ f x, u.oneCell' = true
def vb : Value → Nat
  | .slice (some a) _ _ => a.block
  | _ => 0
def vo : Value → Nat
  | .slice (some a) _ _ => a.off
  | _ => 0
theorem flat_len {α : Type} {f : α → List Value} {k : Nat} (h : ∀ x, (f x).length = k) : ∀ (xs : List α), (xs.flatMap f).length = xs.length * k
  | [] => by simp
  | x :: r => by rw [List.flatMap_cons, List.length_append, h, flat_len h r, List.length_cons, Nat.succ_mul, Nat.add_comm]
theorem flat_get {α : Type} {f : α → List Value} {k : Nat} (h : ∀ x, (f x).length = k) : ∀ (xs : List α) (j i : Nat) (x : α), xs[j]? = some x → i < k → (xs.flatMap f)[j * k + i]? = (f x)[i]?
  | [], j, i, x, hj, _ => by simp at hj
  | y :: r, 0, i, x, hj, hi => by
    obtain rfl : y = x := by simpa using hj
    rw [List.flatMap_cons, Nat.zero_mul, Nat.zero_add, List.getElem?_append_left (by rw [h]; exact hi)]
  | y :: r, j + 1, i, x, hj, hi => by
    rw [List.flatMap_cons, List.getElem?_append_right (by rw [h, Nat.succ_mul]; omega), h, show (j + 1) * k + i - k = j * k + i by rw [Nat.succ_mul]; omega]
    exact flat_get h r j i x (by simpa using hj) hi
theorem flat_one {α : Type} {f : α → List Value} {k : Nat} [h : EL f k] (xs : List α) : ∀ u ∈ xs.flatMap f, u.oneCell' = true := fun u hu => by
  obtain ⟨x, _, hx⟩ := List.mem_flatMap.1 hu
  exact h.one x u hx
theorem flat_drop {α : Type} {f : α → List Value} {k : Nat} (h : ∀ x, (f x).length = k) : ∀ (xs : List α) (i : Nat), (xs.flatMap f).drop (i * k) = (xs.drop i).flatMap f
  | xs, 0 => by simp
  | [], i + 1 => by simp
  | x :: r, i + 1 => by
    rw [List.flatMap_cons, Nat.succ_mul, Nat.add_comm, ← List.drop_drop, show k = (f x).length from (h x).symm, List.drop_left, h, flat_drop h r i, List.drop_succ_cons]
theorem flat_take {α : Type} {f : α → List Value} {k : Nat} (h : ∀ x, (f x).length = k) : ∀ (xs : List α) (i : Nat), (xs.flatMap f).take (i * k) = (xs.take i).flatMap f
  | xs, 0 => by simp
  | [], i + 1 => by simp
  | x :: r, i + 1 => by
    rw [List.flatMap_cons, List.take_succ_cons, List.flatMap_cons, ← flat_take h r i, Nat.succ_mul, Nat.add_comm]
    have e : (f x).length = k := h x
    rw [List.take_append, e, List.take_of_length_le (by omega), show k + i * k - k = i * k by omega]
theorem flat_set {α : Type} {f : α → List Value} {k : Nat} (h : ∀ x, (f x).length = k) : ∀ (xs : List α) (j i : Nat) (x : α) (v : Value), xs[j]? = some x → i < k → ∀ y, f y = (f x).set i v → (xs.flatMap f).set (j * k + i) v = (xs.set j y).flatMap f
  | [], j, i, x, v, hj, _, _, _ => by simp at hj
  | z :: r, 0, i, x, v, hj, hi, y, hy => by
    obtain rfl : z = x := by simpa using hj
    rw [List.flatMap_cons, Nat.zero_mul, Nat.zero_add, List.set_append_left _ _ (by rw [h]; exact hi), List.set_cons_zero, List.flatMap_cons, hy]
  | z :: r, j + 1, i, x, v, hj, hi, y, hy => by
    rw [List.flatMap_cons, List.set_append_right _ _ (by rw [h, Nat.succ_mul]; omega), h, show (j + 1) * k + i - k = j * k + i by rw [Nat.succ_mul]; omega, List.set_cons_succ, List.flatMap_cons,
      flat_set h r j i x v (by simpa using hj) hi y hy]
/-- The slice v reads as these elements. -/
def SlT {α : Type} (w : World) (f : α → List Value) (k : Nat) (v : Value) (xs : List α) : Prop := SlR w k v xs.length (xs.flatMap f)
/-- The slice v owns its array, and holds these elements. -/
abbrev ownT {α : Type} (e : TypeId) (f : α → List Value) (k : Nat) (v : Value) (xs : List α) : Asn := own e k v xs.length (xs.flatMap f)
section
variable {ops : Array Oper} {Q : Exit → Act → World → Prop} {rest : List Oper} {o : Oper} {a : Act} {w : World} {n : Nat} {l : List (Nat × Value)} {L : List Asn} {C : Value → List Asn → Prop}
theorem SlR.at {size : Nat} {v : Value} {m : Nat} {xs : List Value} (h : SlR w size v m xs) (hm : 0 < m) : ∃ cap, v = .slice (some ⟨vb v, vo v, none⟩) m cap ∧ ∀ j u, xs[j]? = some u → w.cell? ⟨vb v, vo v + j, none⟩ = some u := by
  obtain ⟨b, off, cap, rfl, _, hc⟩ := h.openSome hm
  exact ⟨cap, rfl, hc⟩
/-- A reading of a slice that memory gives. -/
def GS (L : List Asn) (size : Nat) (v : Value) (m : Nat) (xs : List Value) : Prop := Gives L fun w => SlR w size v m xs
theorem gs_old {w0 : World} {size m : Nat} {v : Value} {xs : List Value} (h : SlR w0 size v m xs) {L' : List Asn} (hp : Pull L (Old w0) L') : GS L size v m xs := Old.slr h hp
theorem gs_oldT {α : Type} {w0 : World} {f : α → List Value} {k : Nat} {v : Value} {xs : List α} (h : SlT w0 f k v xs) {L' : List Asn} (hp : Pull L (Old w0) L') : GS L k v xs.length (xs.flatMap f) := Old.slr h hp
theorem gs_own {e : TypeId} {size : Nat} {v : Value} {m : Nat} {xs : List Value} {L' : List Asn} (hp : Pull L (own e size v m xs) L') : GS L size v m xs := gives_own hp
theorem GS.tail {A : Asn} {size : Nat} {v : Value} {m : Nat} {xs : List Value} (h : GS L size v m xs) : GS (A :: L) size v m xs := fun w M => h w M.drop
theorem GS.nil (L : List Asn) (size : Nat) : GS L size (.slice none 0 0) 0 [] := fun w _ => SlR.nil w size
theorem rt_lenG {x : Operand} {ats : Array TypeId} {t : TypeId} (ho : o.op = .call { callee := .builtin .len, args := #[x], argTypes := ats }) (hat : ats = #[t]) {v : Value} (hx : evl l x = some v) {e : TypeId} {z : Value} {size bytes : Nat} (ht : ST t e z size bytes) {m : Nat} {xs : List Value} (hg : GS L size v m xs) : RT o l L n (.int .i64 m) := fun a w F M => by
  obtain ⟨p, c, rfl⟩ := (hg w M).form
  exact rt_lenS (L := L) ho hat hx ht a w F M
/-- The address of an element. -/
theorem rt_indexG {t : TypeId} {x y : Operand} (ho : o.op = .indexAddr t x y) {v : Value} (hx : evl l x = some v) {k : IntKind} {j : Int} (hy : evl l y = some (.int k j)) {e : TypeId} {z : Value} {size bytes : Nat} (ht : ST t e z size bytes) {m : Nat} {xs : List Value} (hg : GS L size v m xs) (h0 : 0 ≤ j) (h1 : j < m) : RT o l L n (.pointer (some ⟨vb v, vo v + j.toNat * size, none⟩)) := fun a w F M => by
  obtain ⟨cap, hv, _⟩ := (hg w M).at (by omega)
  have hx' := hx
  rw [hv] at hx'
  exact rt_indexS (L := L) ho hx' hy ht h0 h1 rfl a w F M
theorem rt_load_at {t : TypeId} {x : Operand} (ho : o.op = .load t x) {v : Value} {p : Nat} (hx : evl l x = some (.pointer (some ⟨vb v, vo v + p, none⟩))) (hkt : KT t none) {size m : Nat} {xs : List Value} (hg : GS L size v m xs) {u : Value} (hu : xs[p]? = some u) : RT o l L n u :=
  rt_loadg ho hx hkt fun w M => by
    have h := hg w M
    have hm : 0 < m := by
      rcases Nat.eq_zero_or_pos m with h0 | h0
      · subst h0
        have : xs = [] := List.eq_nil_of_length_eq_zero (by simpa using h.1)
        subst this; simp at hu
      · exact h0
    obtain ⟨cap, _, hc⟩ := h.at hm
    exact hc p u hu
theorem rt_load_atA {t : TypeId} {x : Operand} (ho : o.op = .load t x) {v : Value} {p : Nat} (hx : evl l x = some (.pointer (some ⟨vb v, vo v + p, none⟩))) {k : Nat} (hkt : KT t (some k)) {size m : Nat} {xs : List Value} (hg : GS L size v m xs) {cs : List Value} (hk : cs.length = k) (hk0 : 0 < k) (hu : ∀ i, i < k → xs[p + i]? = cs[i]?) : RT o l L n (.agg cs.toArray) :=
  rt_loadgA ho hx hkt hk fun w M => by
    have h := hg w M
    have hm : 0 < m := by
      rcases Nat.eq_zero_or_pos m with h0 | h0
      · subst h0
        have : xs = [] := List.eq_nil_of_length_eq_zero (by simpa using h.1)
        subst this
        have h2 := (hu 0 hk0).symm
        rw [List.getElem?_eq_getElem (by omega)] at h2
        simp at h2
      · exact h0
    obtain ⟨cap, _, hc⟩ := h.at hm
    intro j u hj
    have hjk : j < k := by
      have := (List.getElem?_eq_some_iff.1 hj).1; omega
    rw [Nat.add_assoc]
    exact hc (p + j) u (by rw [hu j hjk]; exact hj)
/-- A whole element; a cell of an element. -/
theorem rt_elem1 {α : Type} {f : α → List Value} {t : TypeId} {x : Operand} (ho : o.op = .load t x) {v : Value} {j : Nat} (hx : evl l x = some (.pointer (some ⟨vb v, vo v + j * 1, none⟩))) (hkt : KT t none) {m : Nat} {xs : List α} (hg : GS L 1 v m (xs.flatMap f)) (he : EL f 1) {y : α} (hy : xs[j]? = some y) {u : Value} (hu : (f y)[0]? = some u) : RT o l L n u :=
  rt_load_at ho hx hkt hg (by have := flat_get he.len xs j 0 y hy (by omega); simp only [Nat.add_zero] at this; rw [this, hu])
theorem rt_elemA {α : Type} {f : α → List Value} {t : TypeId} {x : Operand} (ho : o.op = .load t x) {v : Value} {j k : Nat} (hx : evl l x = some (.pointer (some ⟨vb v, vo v + j * k, none⟩))) (hkt : KT t (some k)) {m : Nat} {xs : List α} (hg : GS L k v m (xs.flatMap f)) (he : EL f k) (hk0 : Nat.ble 1 k = true) {y : α} (hy : xs[j]? = some y) : RT o l L n (.agg (f y).toArray) :=
  rt_load_atA ho hx hkt hg (he.len y) (Nat.le_of_ble_eq_true hk0) fun i hi => flat_get he.len xs j i y hy hi
theorem rt_elemF {α : Type} {f : α → List Value} {t : TypeId} {x : Operand} (ho : o.op = .load t x) {v : Value} {j k i : Nat} (hx : evl l x = some (.pointer (some ⟨vb v, vo v + j * k + i, none⟩))) (hkt : KT t none) {m : Nat} {xs : List α} (hg : GS L k v m (xs.flatMap f)) (he : EL f k) {y : α} (hy : xs[j]? = some y) {u : Value} (hu : (f y)[i]? = some u) : RT o l L n u :=
  rt_load_at ho (p := j * k + i) (by rw [← Nat.add_assoc]; exact hx) hkt hg (by
    have hi : i < k := by have := (List.getElem?_eq_some_iff.1 hu).1; rw [he.len] at this; exact this
    rw [flat_get he.len xs j i y hy hi, hu])
/-- Append of elements. -/
theorem ac_appendT {α : Type} {f : α → List Value} {x y : Operand} {t t' : TypeId} {ats : Array TypeId} (ho : o.op = .call { callee := .builtin .append, args := #[x, y], argTypes := ats }) (hat : ats = #[t, t]) {e : TypeId} {z : Value} {k bytes : Nat} (ht : ST t e z k bytes) {v : Value} (hx : evl l x = some v) {u : Value} (hy : evl l y = some u)
    {xs ys : List α} {L' : List Asn} (hp : Pull L (ownT e f k v xs) L') (he : EL f k) {m : Nat} {cs : List Value} (hg : GS L k u m cs) (hm : m = ys.length) (hcs : cs = ys.flatMap f) (hb : (xs.length + ys.length) * (bytes + 1) ≤ 140737488355328)
    (h : ∀ v', C v' (ownT e f k v' (xs ++ ys) :: L')) : AC o l L n C := by
  subst hm; subst hcs
  have hb1 : (xs.length + ys.length) * bytes ≤ 140737488355328 := Nat.le_trans (Nat.mul_le_mul_left _ (Nat.le_succ _)) hb
  have hb2 : xs.length + ys.length ≤ 140737488355328 := Nat.le_trans (Nat.le_mul_of_pos_right _ (Nat.succ_pos _)) hb
  refine ac_append (t' := t') ho hat ht hx hy hp hg (flat_one ys) (by simp only [maxLen]; omega) hb1 fun v' => ?_
  have := h v'
  rw [← List.flatMap_append, ← List.length_append]
  exact this
theorem Spec.of_quiet_g {k : FuncId} {us us' : List Value} {v : Value} {φ : World → Prop} (h : ∀ w, φ w → Calls Try.prog k us'.toArray w fun e w' => e = .returned v ∧ w = w') (hg : Gives L φ) (hu : us = us') (hC : C v L) : Spec k us L C := by
  subst hu
  exact fun G w M => (h w (hg w M.drop_app)).mono fun e w' ⟨he, hb⟩ => ⟨v, L, he, hC, hb ▸ M⟩
theorem Spec.of_below_g {k : FuncId} {us us' : List Value} {v : Value} {φ : World → Prop} (h : ∀ w, φ w → Calls Try.prog k us'.toArray w fun e w' => e = .returned v ∧ Below w.heap.size w w') (hg : Gives L φ) (hu : us = us') (hC : C v L) : Spec k us L C := by
  subst hu
  exact fun G w M => (h w (hg w M.drop_app)).mono fun e w' ⟨he, hb⟩ => ⟨v, L, he, hC, M.of_below hb⟩
/-! ### Literals of slices -/
def unidx : Nat → List (Nat × Value) → Option (List Value)
  | _, [] => some []
  | k, (i, v) :: r => match Nat.beq i k, unidx (k + 1) r with
    | true, some vs => some (v :: vs)
    | _, _ => none
def idxL : Nat → List Value → List (Nat × Value)
  | _, [] => []
  | k, v :: r => (k, v) :: idxL (k + 1) r
theorem unidx_spec : ∀ (ps : List (Nat × Value)) (k : Nat) {vs : List Value}, unidx k ps = some vs → ps = idxL k vs
  | [], k, vs, h => by simp [unidx] at h; subst h; rfl
  | (i, v) :: r, k, vs, h => by
    simp only [unidx] at h
    split at h
    · rename_i vs' h1 h2
      obtain rfl := Option.some.inj h
      rw [Nat.eq_of_beq_eq_true h1, unidx_spec r (k + 1) h2]; rfl
    · cases h
def cellsL : List Value → List Value
  | [] => []
  | v :: r => partL v ++ cellsL r
def sizesOK (size : Nat) : List Value → Bool
  | [] => true
  | v :: r => Nat.beq (partL v).length size && sizesOK size r
theorem fill_all (size : Nat) : ∀ (vs : List Value) (i : Nat) (cells : Array Value), sizesOK size vs = true → i * size + vs.length * size ≤ cells.size →
    Instr.fill (fun i => some (i * size, size)) cells (idxL i vs) = some (cells.toList.take (i * size) ++ cellsL vs ++ cells.toList.drop (i * size + vs.length * size)).toArray ∧ (cellsL vs).length = vs.length * size
  | [], i, cells, _, _ => by simp [idxL, Instr.fill, cellsL]
  | v :: r, i, cells, h, hle => by
    simp only [sizesOK, Bool.and_eq_true] at h
    obtain ⟨h1, h2⟩ := h
    have h1 : (partL v).length = size := Nat.eq_of_beq_eq_true h1
    have hsz : v.cells.size = size := by rw [← h1, ← partL_eq]; simp
    simp only [List.length_cons, Nat.succ_mul] at hle
    have hfold : (v.cells.zipIdx.foldl (fun cs x => cs.setIfInBounds (i * size + x.2) x.1) cells).toList = cells.toList.take (i * size) ++ partL v ++ cells.toList.drop (i * size + size) := by
      rw [← Array.foldl_toList, Array.toList_zipIdx]
      have := fold_set (i * size) v.cells.toList 0 cells
      simp only [Nat.add_zero] at this
      rw [this, setMany_eq _ _ _ (by simp [hsz]; omega), partL_eq, h1]
    obtain ⟨k1, k2⟩ := fill_all size r (i + 1) (v.cells.zipIdx.foldl (fun cs x => cs.setIfInBounds (i * size + x.2) x.1) cells) h2 (by
      have : (v.cells.zipIdx.foldl (fun cs x => cs.setIfInBounds (i * size + x.2) x.1) cells).size = cells.size := by
        rw [← Array.length_toList, hfold]; simp [h1]; omega
      rw [this, Nat.succ_mul]; omega)
    refine ⟨?_, by simp only [cellsL, List.length_append, List.length_cons, k2, h1, Nat.succ_mul]; omega⟩
    rw [idxL, Instr.fill]
    have hcond : ¬ ((decide (v.cells.size ≠ size) || decide (i * size + v.cells.size > cells.size)) = true) := by
      simp [hsz]; omega
    simp only [if_neg hcond]
    have e := k1
    rw [hfold] at e
    refine Eq.trans e ?_
    congr 2
    have l1 : (cells.toList.take (i * size)).length = i * size := by simp; omega
    have e1 : (cells.toList.take (i * size) ++ partL v ++ cells.toList.drop (i * size + size)).take ((i + 1) * size) = cells.toList.take (i * size) ++ partL v := by
      rw [Nat.succ_mul]
      have : (cells.toList.take (i * size) ++ partL v).length = i * size + size := by rw [List.length_append, l1, h1]
      rw [← this]; exact List.take_left
    have e2 : (cells.toList.take (i * size) ++ partL v ++ cells.toList.drop (i * size + size)).drop ((i + 1) * size + r.length * size) = cells.toList.drop (i * size + (v :: r).length * size) := by
      have : (cells.toList.take (i * size) ++ partL v).length = i * size + size := by rw [List.length_append, l1, h1]
      rw [Nat.succ_mul, List.drop_append, List.drop_of_length_le (by rw [this]; omega), List.nil_append, this, List.drop_drop]
      congr 1
      simp only [List.length_cons, Nat.succ_mul]; omega
    rw [e1, e2]
    simp [cellsL]
/-- A whole array out of its parts. -/
theorem rt_buildA {t : TypeId} {parts : Array (Nat × Operand)} (ho : o.op = .build t parts) {zs : List Value} (hz : ZT t zs) {len e size : Nat} (ht : AT t len e size) {ps : List (Nat × Value)} (hv : evps l parts.toList = some ps) {vs : List Value} (hu : unidx 0 ps = some vs)
    (hl : Nat.beq zs.length (len * size) = true) (hs : sizesOK size vs = true) (hlen : Nat.beq vs.length len = true) {cs : List Value} (hcs : cellsL vs = cs) : RT o l L n (.agg cs.toArray) := fun a w F M => by
  subst hcs
  obtain ⟨i, z, hi, hzz, h3⟩ := zero_run hz
  have hl : zs.length = len * size := Nat.eq_of_beq_eq_true hl
  have hlen : vs.length = len := Nat.eq_of_beq_eq_true hlen
  have hps := unidx_spec ps 0 hu
  have hparts : (parts.map fun x => (x.1, a.eval x.2)).toList = idxL 0 vs := by rw [← hps]; have := F.evps hv; simpa using this
  obtain ⟨k1, k2⟩ := fill_all size vs 0 zs.toArray hs (by simp [hl, hlen])
  have hzv : (zeroValue t).run Try.prog w = .ok z w := by simp [zeroValue, typeInfo, hi, hzz]
  have hss : (sizeOf e).run Try.prog w = .ok size w := by
    obtain ⟨j, hj, hj2⟩ := Option.map_eq_some_iff.1 ht.k.2
    simp [sizeOf, typeInfo, hj, hj2]
  have hd : (zs.toArray).toList.take (0 * size) ++ cellsL vs ++ zs.toArray.toList.drop (0 * size + vs.length * size) = cellsL vs := by
    simp only [Nat.zero_mul, Nat.zero_add, List.take_zero, List.nil_append]
    rw [List.drop_of_length_le (by simp [hl, hlen]), List.append_nil]
  rw [hd] at k1
  unfold execOp
  rw [ho]
  simp only [Instr.build, Sem.run_bind, hzv, run_underlying ht.k.1 w, Result.andThen_ok, hss, h3, hparts, k1, Sem.run_pure]
theorem ac_buildSlice {t : TypeId} {len : Nat} {parts : Array (Nat × Operand)} (ho : o.op = .buildSlice t len parts) {e : TypeId} {z : Value} {size bytes : Nat} (ht : ST t e z size bytes) {ps : List (Nat × Value)} (hv : evps l parts.toList = some ps) {vs : List Value} (hu : unidx 0 ps = some vs) (hl : Nat.beq vs.length len = true) (hs : sizesOK size vs = true) (hsm : Nat.ble (len * size) 65536 = true) {cs : List Value} (hcs : cellsL vs = cs)
    (h : ∀ b, C (.slice (some ⟨b, 0, none⟩) len len) (own e size (.slice (some ⟨b, 0, none⟩) len len) len cs :: L)) : AC o l L n C := fun G a w F M => by
  subst hcs
  obtain ⟨i, hu1, hi, hz, hsize, hby, hzs, hsz⟩ := st_info ht
  have hl : vs.length = len := Nat.eq_of_beq_eq_true hl
  have hsm : len * size ≤ 65536 := Nat.le_of_ble_eq_true hsm
  have hps := unidx_spec ps 0 hu
  have hparts : (parts.map fun x => (x.1, a.eval x.2)).toList = idxL 0 vs := by rw [← hps]; have := F.evps hv; simpa using this
  have key : ∀ cells : Array Value, cells.size = len * size → Instr.fill (fun i => some (i * size, size)) cells (idxL 0 vs) = some (cellsL vs).toArray := fun cells hc => by
    obtain ⟨k1, k2⟩ := fill_all size vs 0 cells hs (by rw [hc, hl]; omega)
    rw [k1]
    congr 2
    simp only [Nat.zero_mul, Nat.zero_add, List.take_zero, List.nil_append]
    rw [List.drop_of_length_le (by rw [hl, Array.length_toList, hc]; omega), List.append_nil]
  have hlen : (cellsL vs).length = len * size := by
    obtain ⟨_, k2⟩ := fill_all size vs 0 (Array.replicate (len * size) undef) hs (by simp [hl])
    rw [k2, hl]
  have hrun : (execOp a.eval o).run Try.prog w = .ok (.value (.slice (some ⟨w.heap.size, 0, none⟩) len len)) (w.alloc (.cells (cellsL vs).toArray e)) := by
    unfold execOp
    rw [ho]
    have hzv : (zeroValue e).run Try.prog w = .ok z w := by simp [zeroValue, typeInfo, hi, hz]
    have h24 : ¬ (len * size > 2 ^ 24) := by omega
    have hk := key ((Array.range (len * size)).map ((if len * size = 0 then #[] else z.cells)[· % (if len * size = 0 then #[] else z.cells).size]!)) (by simp)
    have hss : (sizeOf e).run Try.prog w = .ok size w := by simp [sizeOf, typeInfo, hi, hsize]
    by_cases h0 : len * size = 0
    · simp only [if_pos h0] at hk
      simp only [Instr.buildSlice, Sem.run_bind, run_underlying hu1 w, hss, Result.andThen_ok, if_neg h24, hparts, if_pos h0, Sem.run_pure, hk]
      simp [newRow, newObj, Sem.run]
    · simp only [if_neg h0] at hk
      simp only [Instr.buildSlice, Sem.run_bind, run_underlying hu1 w, hss, Result.andThen_ok, if_neg h24, hparts, if_neg h0, Sem.run_pure, hzv, hk]
      simp [newRow, newObj, Sem.run]
  rw [hrun]
  refine ⟨_, h _, ?_⟩
  exact Mem.own_pt (M.alloc (cellsL vs) e) hlen (by simp only [maxLen]; have := Nat.le_mul_of_pos_right len hsz; omega)
theorem GS.len_le {size m : Nat} {v : Value} {xs : List Value} (h : GS L size v m xs) (M : Mem w L) : m ≤ 9223372036854775807 := (h w M).len_le
theorem GS.imp {K : List Asn} {size m : Nat} {v : Value} {xs : List Value} (h : GS L size v m xs) (hk : ∀ w, Mem w K → Mem w L) : GS K size v m xs := fun w M => h w (hk w M)
/-- A function that reads: it yields v in every memory that holds L, and leaves what there is as it was. -/
def Reads (k : FuncId) (us : List Value) (v : Value) (L : List Asn) : Prop := ∀ K, (∀ w, Mem w K → Mem w L) → ∀ w, Mem w K → Calls Try.prog k us.toArray w fun e w' => e = .returned v ∧ Mem w' K
theorem Spec.of_reads {k : FuncId} {us us' : List Value} {v : Value} (h : Reads k us' v L) (hu : us = us') (hC : C v L) : Spec k us L C := by
  subst hu
  exact fun G w M => (h (L ++ G) (fun w M => M.drop_app) w M).mono fun e w' ⟨he, hm⟩ => ⟨v, L, he, hC, hm⟩
theorem Reads.calls {k : FuncId} {us : List Value} {v : Value} (h : Reads k us v L) (w : World) (M : Mem w L) : Calls Try.prog k us.toArray w fun e w' => e = .returned v ∧ Mem w' L := h L (fun _ h => h) w M
/-! ### Strings -/
abbrev str (s : List UInt8) : Value := .string ⟨s.toArray⟩
theorem bytes_list (s : List UInt8) : (ByteArray.mk s.toArray).toList = s := ByteArray.toList_mk s
theorem rt_cat {t ty : TypeId} {x y : Operand} (ho : o.op = .binOp .add t x y ty) {s r : List UInt8} (hx : evl l x = some (str s)) (hy : evl l y = some (str r)) (hb : s.length + r.length ≤ 9223372036854775807) : RT o l L n (str (s ++ r)) := fun a w F M => by
  unfold execOp
  rw [ho]
  have : (ByteArray.mk s.toArray) ++ (ByteArray.mk r.toArray) = ByteArray.mk (s ++ r).toArray := by
    apply ByteArray.ext; simp
  have h1 : (ByteArray.mk s.toArray).size = s.length := rfl
  have h2 : (ByteArray.mk r.toArray).size = r.length := rfl
  have h3 : ¬ ((s.length : Int) + (r.length : Int) > IntKind.i64.max) := by
    show ¬ ((s.length : Int) + (r.length : Int) > 9223372036854775807)
    omega
  simp [F.eval hx, F.eval hy, eqGuard, binOp, Op.stringOp, this, h1, h2]
  omega
theorem rt_eqT {t ty : TypeId} {x y : Operand} (ho : o.op = .binOp .eql t x y ty) {s r : List UInt8} (hx : evl l x = some (str s)) (hy : evl l y = some (str r)) : RT o l L n (.bool (decide (s = r))) := fun a w F M => by
  unfold execOp
  rw [ho]
  simp [F.eval hx, F.eval hy, eqGuard, binOp, Op.stringOp, ByteArray.toList_mk]
  rw [Bool.eq_iff_iff]; simp
theorem rt_neT {t ty : TypeId} {x y : Operand} (ho : o.op = .binOp .neq t x y ty) {s r : List UInt8} (hx : evl l x = some (str s)) (hy : evl l y = some (str r)) : RT o l L n (.bool (decide (s ≠ r))) := fun a w F M => by
  unfold execOp
  rw [ho]
  simp [F.eval hx, F.eval hy, eqGuard, binOp, Op.stringOp, ByteArray.toList_mk]
  rw [Bool.eq_iff_iff]; simp
/-- A pointer type. -/
class PT (t : TypeId) (e : outParam TypeId) : Prop where
  k : Try.prog.underlying t = some (.pointer e) ∧ (Try.prog.info? e).isSome = true
class TT (t : TypeId) : Prop where
  k : Try.prog.underlying t = some .string
theorem rt_lenStr {x : Operand} {ats : Array TypeId} {t : TypeId} (ho : o.op = .call { callee := .builtin .len, args := #[x], argTypes := ats }) (hat : ats = #[t]) {s : List UInt8} (hx : evl l x = some (str s)) (ht : TT t) : RT o l L n (.int .i64 s.length) := rt_lenT ho hat hx ht.k
/-- A byte of a string. -/
theorem rt_byte {t : TypeId} {x y : Operand} (ho : o.op = .index t x y) {s : List UInt8} (hx : evl l x = some (str s)) {k : IntKind} {j : Int} (hy : evl l y = some (.int k j)) (ht : TT t) (h0 : 0 ≤ j) {b : UInt8} (hb : s[j.toNat]? = some b) : RT o l L n (.int .u8 b.toNat) := fun a w F M => by
  unfold execOp
  rw [ho]
  obtain ⟨hlt, hb'⟩ := List.getElem?_eq_some_iff.1 hb
  have h1 : (ByteArray.mk s.toArray)[j.toNat]? = some b := by
    have hs : j.toNat < (ByteArray.mk s.toArray).size := hlt
    rw [getElem?_pos (ByteArray.mk s.toArray) j.toNat hs]
    congr 1
  simp [F.eval hx, F.eval hy, Instr.index, asIntOf, run_underlying ht.k w, h0, h1]
/-- A part of a string. -/
theorem rt_mid {t : TypeId} {x y z : Operand} (ho : o.op = .slice t x (some y) (some z) none) {s : List UInt8} (hx : evl l x = some (str s)) {k k' : IntKind} {i j : Int} (hy : evl l y = some (.int k i)) (hz : evl l z = some (.int k' j)) (ht : TT t) (h0 : 0 ≤ i) (h1 : i ≤ j) (h2 : j ≤ s.length) : RT o l L n (str ((s.drop i.toNat).take (j.toNat - i.toNat))) := fun a w F M => by
  unfold execOp
  rw [ho]
  have hr := run_sliceAt_string (P := Try.prog) w t (.string ⟨s.toArray⟩) (some (.int k i)) (some (.int k' j)) none ht.k
  have hs := run_slice_string (P := Try.prog) w t ⟨s.toArray⟩ k k' i j ht.k h0 h1 (by show j ≤ (s.length : Int); exact h2)
  simp [F.eval hx, F.eval hy, F.eval hz, hr, hs, ByteArray.extract_mk]
theorem rt_midFrom {t : TypeId} {x y : Operand} (ho : o.op = .slice t x (some y) none none) {s : List UInt8} (hx : evl l x = some (str s)) {k : IntKind} {i : Int} (hy : evl l y = some (.int k i)) (ht : TT t) (h0 : 0 ≤ i) (h1 : i ≤ s.length) : RT o l L n (str (s.drop i.toNat)) := fun a w F M => by
  unfold execOp
  rw [ho]
  have hr := run_sliceAt_string (P := Try.prog) w t (.string ⟨s.toArray⟩) (some (.int k i)) none none ht.k
  have hs := run_slice_string_l (P := Try.prog) w t ⟨s.toArray⟩ ht.k k i h0 (by show i ≤ (s.length : Int); exact h1)
  have hz : (ByteArray.mk s.toArray).size = s.length := rfl
  have : (s.drop i.toNat).take (s.length - i.toNat) = s.drop i.toNat := List.take_of_length_le (by simp)
  simp [F.eval hx, F.eval hy, hr, hs, ByteArray.extract_mk, hz, this]
theorem rt_midTo {t : TypeId} {x y : Operand} (ho : o.op = .slice t x none (some y) none) {s : List UInt8} (hx : evl l x = some (str s)) {k : IntKind} {i : Int} (hy : evl l y = some (.int k i)) (ht : TT t) (h0 : 0 ≤ i) (h1 : i ≤ s.length) : RT o l L n (str (s.take i.toNat)) := fun a w F M => by
  unfold execOp
  rw [ho]
  have hr := run_sliceAt_string (P := Try.prog) w t (.string ⟨s.toArray⟩) none (some (.int k i)) none ht.k
  have hs := run_slice_string_h (P := Try.prog) w t ⟨s.toArray⟩ ht.k k i h0 (by show i ≤ (s.length : Int); exact h1)
  simp [F.eval hx, F.eval hy, hr, hs, ByteArray.extract_mk]
/-- A part of an array, of a slice. -/
theorem rt_sliceA {t : TypeId} {x y : Operand} (ho : o.op = .slice t x none (some y) none) {b i : Nat} (hx : evl l x = some (.pointer (some ⟨b, i, none⟩))) {k : IntKind} {j : Int} (hy : evl l y = some (.int k j)) {len e size : Nat} (ht : AT t len e size) (h0 : 0 ≤ j) (h1 : j ≤ len) : RT o l L n (.slice (some ⟨b, i, none⟩) j.toNat len) := fun a w F M => by
  unfold execOp
  rw [ho]
  obtain ⟨hu, hs⟩ := ht.k
  have e1 : Try.prog.arrayLen t = len := by simp [Program.arrayLen, hu]
  have e2 : Try.prog.elem t = e := by simp [Program.elem, hu]
  have hr := run_sliceAt_array_h (P := Try.prog) w t ⟨b, i, none⟩ (by rw [e1, e2]; exact hu) k j h0 (by rw [e1]; exact h1)
  have hz : (sizeOf e).run Try.prog w = .ok size w := by
    cases hi : Try.prog.info? e with
    | none => rw [hi] at hs; cases hs
    | some ie =>
      rw [hi] at hs
      have hs := Option.some.inj hs
      simp [sizeOf, typeInfo, hi, hs]
  rw [e1, e2, hz] at hr
  simp only [Result.andThen_ok, slicedAt] at hr
  have : (if len = 0 then (⟨b, i, none⟩ : Addr) else (⟨b, i, none⟩ : Addr).add (0 * size)) = ⟨b, i, none⟩ := by
    split
    · rfl
    · rw [add0]; simp
  rw [this] at hr
  simp [F.eval hx, F.eval hy, hr]
/-- A part of a slice: its length cut. -/
def cutV : Value → Nat → Value
  | .slice a _ c, m => .slice a m c
  | v, _ => v
theorem st_size {t e : TypeId} {z : Value} {size bytes : Nat} (ht : ST t e z size bytes) (w : World) : (sizeOf e).run Try.prog w = .ok size w := by
  obtain ⟨i, _, hi, _, hs, _⟩ := st_info ht
  simp [sizeOf, typeInfo, hi, hs]
theorem rt_sliceTo {t : TypeId} {x y : Operand} (ho : o.op = .slice t x none (some y) none) {v : Value} (hx : evl l x = some v) {k : IntKind} {j : Int} (hy : evl l y = some (.int k j)) {e : TypeId} {z : Value} {size bytes : Nat} (ht : ST t e z size bytes) {m : Nat} {xs : List Value} (hg : Gives L fun w => SlR w size v m xs ∧ ∃ p c, v = .slice p m c ∧ m ≤ c) (h0 : 0 ≤ j) (h1 : j ≤ m) : RT o l L n (cutV v j.toNat) := fun a w F M => by
  obtain ⟨hr0, p, c, rfl, hc⟩ := hg w M
  unfold execOp
  rw [ho]
  obtain ⟨hu, _⟩ := ht.k
  have e2 : Try.prog.elem t = e := by simp [Program.elem, hu]
  have ht' : Try.prog.underlying t = some (.slice (Try.prog.elem t)) := by rw [e2]; exact hu
  have hr := run_sliceAt_slice (P := Try.prog) w t (.slice p m c) none (some (.int k j)) none ht'
  have hs := run_slice_h (P := Try.prog) w t p m c ht' k j h0 (by omega)
  rw [e2, st_size ht] at hs
  simp only [Result.andThen_ok, sliced] at hs
  have : (if c = 0 then p else p.map (·.add (0 * size))) = p := by
    split
    · rfl
    · cases p with
      | none => rfl
      | some q => obtain ⟨pb, po, pn⟩ := q; simp [Addr.add]
  rw [this] at hs
  simp [F.eval hx, F.eval hy, hr, hs, cutV]
/-- Bytes as a string. -/
theorem rt_string {s t : TypeId} {x : Operand} (ho : o.op = .convert s t x) {b i c m : Nat} (hx : evl l x = some (.slice (some ⟨b, i, none⟩) m c)) {e : TypeId} {z : Value} {bytes : Nat} (hs : ST s e z 1 bytes) (he : IK e .u8) (ht : TT t) {r : List UInt8} (hm : m = r.length) (hg : Gives L fun w => ∀ j (hj : j < r.length), w.cell? ⟨b, i + j, none⟩ = some (.int .u8 (r[j].toNat : Int))) : RT o l L n (str r) := fun a w F M => by
  subst hm
  unfold execOp
  rw [ho]
  have h := run_convert_bytes_back (P := Try.prog) w s t e ⟨b, i, none⟩ c r hs.k.1 he.k ht.k (fun j hj => by rw [add0]; exact hg w M j hj)
  simp [F.eval hx, h]
/-- A slice's words. -/
structure SlH where
  a : Option Addr
  n : Nat
  c : Nat
abbrev sl (h : SlH) : Value := .slice h.a h.n h.c
theorem rt_nilp {t ty : TypeId} {x y : Operand} (ho : o.op = .binOp .eql t x y ty) {p : Option Addr} (hx : evl l x = some (.pointer p)) (hy : evl l y = some (.pointer none)) {e : TypeId} (ht : PT t e) : RT o l L n (.bool p.isNone) := fun a w F M => by
  have h := ht.k.1
  have h' : Try.prog.underlying t = some (.pointer (Try.prog.pointee t)) := by simp [Program.pointee, h]
  unfold execOp
  rw [ho]
  simp [F.eval hx, F.eval hy, eqGuard, run_eql_pointer_nil w t p h']
theorem rt_nenilp {t ty : TypeId} {x y : Operand} (ho : o.op = .binOp .neq t x y ty) {p : Option Addr} (hx : evl l x = some (.pointer p)) (hy : evl l y = some (.pointer none)) {e : TypeId} (ht : PT t e) : RT o l L n (.bool (!p.isNone)) := fun a w F M => by
  have h := ht.k.1
  have h' : Try.prog.underlying t = some (.pointer (Try.prog.pointee t)) := by simp [Program.pointee, h]
  unfold execOp
  rw [ho]
  simp [F.eval hx, F.eval hy, eqGuard, run_neq_pointer_nil w t p h']
theorem SlR.nil_len {w : World} {size m : Nat} {n c : Nat} {xs : List Value} (h : SlR w size (sl ⟨none, n, c⟩) m xs) : m = 0 := by
  rcases h.parts with ⟨⟨_, _, hh⟩, h1, _⟩ | ⟨b, off, cap, hh, _⟩
  · exact h1
  · cases hh
theorem SlR.sl_eq {w : World} {size m : Nat} {v : Value} {xs : List Value} (h : SlR w size v m xs) : ∃ s : SlH, v = sl s := by
  obtain ⟨a, c, rfl⟩ := h.form
  exact ⟨⟨a, m, c⟩, rfl⟩
theorem rt_nils {t ty : TypeId} {x y : Operand} (ho : o.op = .binOp .eql t x y ty) {h : SlH} (hx : evl l x = some (sl h)) (hy : evl l y = some (.slice none 0 0)) {e : TypeId} {z : Value} {k bytes : Nat} (ht : ST t e z k bytes) : RT o l L n (.bool h.a.isNone) := fun a w F M => by
  obtain ⟨ha, hn, hc⟩ := h
  have hr := Go.run_eql_slice_nil (P := Try.prog) w t e ha hn hc ht.k.1
  unfold execOp
  rw [ho]
  simp [F.eval hx, F.eval hy, eqGuard, hr]
theorem rt_nenils {t ty : TypeId} {x y : Operand} (ho : o.op = .binOp .neq t x y ty) {h : SlH} (hx : evl l x = some (sl h)) (hy : evl l y = some (.slice none 0 0)) {e : TypeId} {z : Value} {k bytes : Nat} (ht : ST t e z k bytes) : RT o l L n (.bool (!h.a.isNone)) := fun a w F M => by
  obtain ⟨ha, hn, hc⟩ := h
  have hr := Go.run_neq_slice_nil (P := Try.prog) w t e ha hn hc ht.k.1
  unfold execOp
  rw [ho]
  simp [F.eval hx, F.eval hy, eqGuard, hr]
theorem rt_neg {t : TypeId} {x : Operand} (ho : o.op = .unOp .neg t x) {k : IntKind} {m : Int} (hx : evl l x = some (.int k m)) {r : Int} (hr : k.wrap (-m) = r) : RT o l L n (.int k r) := fun a w F M => by
  subst hr
  unfold execOp
  rw [ho]
  have hr : (Op.intArith .sub k 0 m).run Try.prog w = .ok (.int k (k.wrap (-m))) w := by
    simp [Op.intArith]
  simp [F.eval hx, Op.unary, hr]
theorem Gives.app {L G : List Asn} {φ : World → Prop} (h : Gives L φ) : Gives (L ++ G) φ := fun w M => h w M.drop_app
end
end Go.Proofs.Ytdlihlfknedpfaa
