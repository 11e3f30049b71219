import Derived.Test.YtopbohbkhljjgaaGreatAudAa
set_option linter.unusedVariables false
set_option linter.unusedSimpArgs false
section
namespace Go.Proofs.YtopbohbkhljjgaaGreat
instance : IK 2 .i64 := ⟨by kernel_rfl⟩
instance : IK 3 .i64 := ⟨by kernel_rfl⟩
instance : BT 4 := ⟨by kernel_rfl⟩
instance : IK 5 .u8 := ⟨by kernel_rfl⟩
instance : IK 6 .u8 := ⟨by kernel_rfl⟩
instance : BP 7 [(0, 1), (1, 1), (2, 1), (3, 1)] := ⟨by kernel_rfl⟩
instance : BP 8 [(0, 1), (1, 1), (2, 1), (3, 1)] := ⟨by kernel_rfl⟩
instance : IK 12 .u64 := ⟨by kernel_rfl⟩
instance : BP 13 [(0, 1), (1, 1)] := ⟨by kernel_rfl⟩
instance : BP 14 [(0, 1), (1, 1)] := ⟨by kernel_rfl⟩
instance : BP 18 [(0, 1)] := ⟨by kernel_rfl⟩
instance : BP 19 [(0, 1)] := ⟨by kernel_rfl⟩
instance : IK 21 .i32 := ⟨by kernel_rfl⟩
instance : IK 23 .u64 := ⟨by kernel_rfl⟩
instance : BP 27 [(0, 1), (1, 1), (2, 1), (3, 1), (4, 1), (5, 1), (6, 1), (7, 1), (8, 1), (9, 1), (10, 1), (11, 1), (12, 1), (13, 1), (14, 1)] := ⟨by kernel_rfl⟩
instance : BP 28 [(0, 1), (1, 1), (2, 1), (3, 1), (4, 1), (5, 1), (6, 1), (7, 1), (8, 1), (9, 1), (10, 1), (11, 1), (12, 1), (13, 1), (14, 1)] := ⟨by kernel_rfl⟩
instance : BP 29 [(0, 1), (1, 1), (2, 1), (3, 1), (4, 1), (5, 1), (6, 1), (7, 1), (8, 1), (9, 1), (10, 1), (11, 1), (12, 1), (13, 1), (14, 1), (15, 1), (16, 1), (17, 1), (18, 1), (19, 1)] := ⟨by kernel_rfl⟩
instance : BP 30 [(0, 1), (1, 1), (2, 1), (3, 1), (4, 1), (5, 1), (6, 1), (7, 1), (8, 1), (9, 1), (10, 1), (11, 1), (12, 1), (13, 1), (14, 1), (15, 1), (16, 1), (17, 1), (18, 1), (19, 1)] := ⟨by kernel_rfl⟩
instance : BP 31 [(0, 1), (1, 1), (2, 1), (3, 1), (4, 1), (5, 1), (6, 1), (7, 1), (8, 1), (9, 1), (10, 1), (11, 1), (12, 1)] := ⟨by kernel_rfl⟩
instance : BP 32 [(0, 1), (1, 1), (2, 1), (3, 1), (4, 1), (5, 1), (6, 1), (7, 1), (8, 1), (9, 1), (10, 1), (11, 1), (12, 1)] := ⟨by kernel_rfl⟩
instance : BP 47 [(0, 1), (1, 1), (2, 1), (3, 1), (4, 1), (5, 1), (6, 1)] := ⟨by kernel_rfl⟩
instance : BP 48 [(0, 1), (1, 1), (2, 1), (3, 1), (4, 1), (5, 1), (6, 1)] := ⟨by kernel_rfl⟩
instance : IK 53 .i64 := ⟨by kernel_rfl⟩
instance : BP 57 [(0, 1), (1, 1), (2, 1), (3, 1)] := ⟨by kernel_rfl⟩
instance : BP 58 [(0, 1), (1, 1), (2, 1), (3, 1)] := ⟨by kernel_rfl⟩
instance : BP 61 [(0, 1), (1, 1), (2, 1), (3, 1), (4, 1), (5, 1), (6, 1), (7, 1), (8, 1)] := ⟨by kernel_rfl⟩
instance : BP 62 [(0, 1), (1, 1), (2, 1), (3, 1), (4, 1), (5, 1), (6, 1), (7, 1), (8, 1)] := ⟨by kernel_rfl⟩
instance : BP 64 [(0, 1), (1, 1), (2, 1)] := ⟨by kernel_rfl⟩
instance : BP 65 [(0, 1), (1, 1), (2, 1)] := ⟨by kernel_rfl⟩
instance : BP 86 [(0, 1), (1, 1), (2, 1)] := ⟨by kernel_rfl⟩
instance : BP 87 [(0, 1), (1, 1), (2, 1)] := ⟨by kernel_rfl⟩
instance : BP 90 [(0, 1), (1, 1)] := ⟨by kernel_rfl⟩
instance : BP 91 [(0, 1), (1, 1)] := ⟨by kernel_rfl⟩
instance : BP 96 [(0, 20), (20, 1), (21, 1), (22, 1), (23, 1), (24, 1), (25, 1), (26, 1), (27, 1), (28, 1), (29, 1)] := ⟨by kernel_rfl⟩
instance : BP 97 [(0, 20), (20, 1), (21, 1), (22, 1), (23, 1), (24, 1), (25, 1), (26, 1), (27, 1), (28, 1), (29, 1)] := ⟨by kernel_rfl⟩
instance : BP 103 [(0, 1), (1, 1)] := ⟨by kernel_rfl⟩
instance : BP 104 [(0, 1), (1, 1)] := ⟨by kernel_rfl⟩
instance : BP 111 [(0, 1)] := ⟨by kernel_rfl⟩
instance : BP 112 [(0, 1)] := ⟨by kernel_rfl⟩
instance : BP 131 [(0, 1), (1, 20), (21, 1), (22, 1), (23, 1), (24, 1), (25, 1), (26, 1), (27, 1), (28, 1), (29, 1), (30, 1)] := ⟨by kernel_rfl⟩
instance : BP 132 [(0, 1), (1, 20), (21, 1), (22, 1), (23, 1), (24, 1), (25, 1), (26, 1), (27, 1), (28, 1), (29, 1), (30, 1)] := ⟨by kernel_rfl⟩
instance : BP 137 [(0, 1), (1, 1), (2, 1)] := ⟨by kernel_rfl⟩
instance : BP 138 [(0, 1), (1, 1), (2, 1)] := ⟨by kernel_rfl⟩
instance : BP 141 [(0, 1), (1, 1), (2, 1)] := ⟨by kernel_rfl⟩
instance : BP 142 [(0, 1), (1, 1), (2, 1)] := ⟨by kernel_rfl⟩
instance : BP 155 [(0, 1), (1, 1), (2, 1), (3, 1)] := ⟨by kernel_rfl⟩
instance : BP 156 [(0, 1), (1, 1), (2, 1), (3, 1)] := ⟨by kernel_rfl⟩
instance : BP 157 [(0, 1), (1, 1), (2, 1)] := ⟨by kernel_rfl⟩
instance : BP 158 [(0, 1), (1, 1), (2, 1)] := ⟨by kernel_rfl⟩
instance : BP 159 [(0, 1), (1, 1), (2, 1), (3, 1), (4, 1)] := ⟨by kernel_rfl⟩
instance : BP 160 [(0, 1), (1, 1), (2, 1), (3, 1), (4, 1)] := ⟨by kernel_rfl⟩
instance : BP 165 [(0, 1), (1, 1)] := ⟨by kernel_rfl⟩
instance : BP 179 [(0, 1), (1, 1), (2, 1), (3, 1), (4, 1)] := ⟨by kernel_rfl⟩
instance : BP 180 [(0, 1), (1, 1), (2, 1), (3, 1), (4, 1)] := ⟨by kernel_rfl⟩
instance : BP 181 [(0, 1)] := ⟨by kernel_rfl⟩
instance : BP 182 [(0, 1)] := ⟨by kernel_rfl⟩
instance : BP 183 [(0, 1), (1, 1)] := ⟨by kernel_rfl⟩
instance : BP 184 [(0, 1), (1, 1)] := ⟨by kernel_rfl⟩
instance : BP 185 [(0, 3)] := ⟨by kernel_rfl⟩
instance : BP 186 [(0, 3)] := ⟨by kernel_rfl⟩
instance : BP 187 [(0, 3), (3, 1)] := ⟨by kernel_rfl⟩
instance : BP 188 [(0, 3), (3, 1)] := ⟨by kernel_rfl⟩
instance : BP 190 [(0, 1), (1, 1)] := ⟨by kernel_rfl⟩
instance : BP 191 [(0, 1), (1, 1)] := ⟨by kernel_rfl⟩
instance : BP 192 [(0, 1)] := ⟨by kernel_rfl⟩
instance : BP 193 [(0, 1)] := ⟨by kernel_rfl⟩
instance : BP 194 [(0, 1), (1, 1), (2, 1)] := ⟨by kernel_rfl⟩
instance : BP 195 [(0, 1), (1, 1), (2, 1)] := ⟨by kernel_rfl⟩
instance : BP 196 [(0, 3)] := ⟨by kernel_rfl⟩
instance : BP 197 [(0, 3)] := ⟨by kernel_rfl⟩
instance : BP 198 [(0, 3), (3, 1)] := ⟨by kernel_rfl⟩
instance : BP 199 [(0, 3), (3, 1)] := ⟨by kernel_rfl⟩
instance : BP 201 [(0, 2)] := ⟨by kernel_rfl⟩
instance : BP 202 [(0, 2)] := ⟨by kernel_rfl⟩
instance : BP 203 [(0, 2)] := ⟨by kernel_rfl⟩
instance : BP 204 [(0, 2)] := ⟨by kernel_rfl⟩
instance : BP 205 [(0, 1), (1, 1), (2, 1), (3, 1)] := ⟨by kernel_rfl⟩
instance : BP 206 [(0, 1), (1, 1), (2, 1), (3, 1)] := ⟨by kernel_rfl⟩
instance : BP 207 [(0, 1), (1, 1), (2, 1), (3, 1)] := ⟨by kernel_rfl⟩
instance : BP 208 [(0, 1), (1, 1), (2, 1), (3, 1)] := ⟨by kernel_rfl⟩
instance : BP 209 [(0, 1), (1, 1), (2, 1), (3, 1)] := ⟨by kernel_rfl⟩
instance : BP 210 [(0, 1), (1, 1), (2, 1), (3, 1)] := ⟨by kernel_rfl⟩
instance : BP 258 [(0, 1), (1, 1)] := ⟨by kernel_rfl⟩
instance : BP 259 [(0, 1), (1, 1)] := ⟨by kernel_rfl⟩
instance : BP 261 [(0, 1)] := ⟨by kernel_rfl⟩
instance : BP 262 [(0, 1)] := ⟨by kernel_rfl⟩
instance : BP 296 [(0, 1), (1, 1)] := ⟨by kernel_rfl⟩
instance : BP 297 [(0, 1), (1, 1)] := ⟨by kernel_rfl⟩
instance : BP 309 [(0, 1), (1, 1), (2, 1)] := ⟨by kernel_rfl⟩
instance : BP 342 [(0, 1), (1, 1)] := ⟨by kernel_rfl⟩
instance : BP 343 [(0, 1), (1, 1)] := ⟨by kernel_rfl⟩
instance : IK 376 .u64 := ⟨by kernel_rfl⟩
instance : BP 380 [(0, 1), (1, 1), (2, 1), (3, 1)] := ⟨by kernel_rfl⟩
instance : BP 381 [(0, 1), (1, 1), (2, 1), (3, 1)] := ⟨by kernel_rfl⟩
instance : BP 383 [(0, 0)] := ⟨by kernel_rfl⟩
instance : BP 384 [(0, 0)] := ⟨by kernel_rfl⟩
instance : IK 385 .u32 := ⟨by kernel_rfl⟩
instance : IK 386 .u8 := ⟨by kernel_rfl⟩
instance : IK 387 .u8 := ⟨by kernel_rfl⟩
instance : IK 390 .i32 := ⟨by kernel_rfl⟩
instance : IK 391 .i32 := ⟨by kernel_rfl⟩
instance : BP 392 [(0, 1), (1, 1), (2, 1), (3, 1), (4, 1), (5, 1), (6, 1), (7, 1), (8, 1), (9, 1), (10, 1)] := ⟨by kernel_rfl⟩
instance : BP 393 [(0, 1), (1, 1), (2, 1), (3, 1), (4, 1), (5, 1), (6, 1), (7, 1), (8, 1), (9, 1), (10, 1)] := ⟨by kernel_rfl⟩
instance : BP 394 [(0, 1)] := ⟨by kernel_rfl⟩
instance : BP 395 [(0, 1)] := ⟨by kernel_rfl⟩
end Go.Proofs.YtopbohbkhljjgaaGreat
end
section
namespace Go.Proofs.YtopbohbkhljjgaaGreat
open Go.RowKit
set_option linter.unusedVariables false
set_option maxRecDepth 100000
set_option linter.unusedSimpArgs false
theorem wp_loop_ghost {P : Program} {Q : Exit → Act → World → Prop} {c : Code} {σ : Type} (I : σ → Act → World → Prop) (μ : σ → Nat)
    (round : ∀ s a w, I s a w → c.wp P (Exit.then (fun a' w' => ∃ s', I s' a' w' ∧ μ s' < μ s) Q) a w) {a : Act} {w : World} (s0 : σ) (h0 : I s0 a w) : (Code.loop c).wp P Q a w := by
  intro b k cs
  have key : ∀ (n : Nat) (s : σ) (a : Act) (w : World), μ s = n → I s a w → ∃ e a' w', Q e a' w' ∧ Arrives P (lone (b.at a (.code c :: .inLoop c :: k)) cs w) b k cs e a' w' := by
    intro n
    induction n using Nat.strongRecOn with
    | _ n ih =>
      intro s a w hn hI
      obtain ⟨e, a1, w1, hq, harr⟩ := round s a w hI b (.inLoop c :: k) cs
      cases e with
      | normal =>
        obtain ⟨s', hI1, hlt⟩ := hq
        obtain ⟨e2, a2, w2, hq2, harr2⟩ := ih (μ s') (hn ▸ hlt) s' a1 w1 rfl hI1
        exact ⟨e2, a2, w2, hq2, .of_steps (Steps.trans harr (.one step_inLoop)) harr2⟩
      | exit id => exact ⟨_, a1, w1, hq, .pass (x := .inLoop c) rfl (fun _ _ => .inl (by simp)) harr⟩
      | goto l => exact ⟨_, a1, w1, hq, .pass (x := .inLoop c) rfl (fun _ _ => .inl (by simp)) harr⟩
      | ret => exact ⟨_, a1, w1, hq, .pass (x := .inLoop c) rfl (fun _ _ => .inl (by simp)) harr⟩
      | panic ch => exact ⟨_, a1, w1, hq, .pass (x := .inLoop c) rfl (fun _ _ => .inl (by simp)) harr⟩
      | outgrown => exact ⟨_, a1, w1, hq, .pass (x := .inLoop c) rfl (fun _ _ => .inl (by simp)) harr⟩
  obtain ⟨e, a', w', hq, harr⟩ := key _ s0 a w rfl h0
  exact ⟨e, a', w', hq, .of_steps (.one step_loop) harr⟩
section
variable {Q : Exit → Act → World → Prop} {a : Act} {w : World} {n : Nat} {l : List (Nat × Value)} {L : List Asn}
/-- A loop: s is its ghost state; lf, Lf: what is known of the frame and of memory at a round's start. -/
theorem sv_loop {c : Code} {σ : Type} (lf : σ → List (Nat × Value)) (Lf : σ → List Asn) (Pf : σ → Prop) (μ : σ → Nat) (F : Fr a n l) (M : Mem w L)
    (s0 : σ) (h0 : ∀ p ∈ lf s0, look l p.1 = some p.2) (hL : Perms L (Lf s0)) (hP : Pf s0)
    (round : ∀ s, Pf s → ∀ a w, Fr a n (lf s) → Mem w (Lf s) → c.wp Tryz.prog (Exit.then (fun a' w' => ∃ s', (Fr a' n (lf s') ∧ Mem w' (Lf s') ∧ Pf s') ∧ μ s' < μ s) Q) a w) : (Code.loop c).wp Tryz.prog Q a w :=
  wp_loop_ghost (fun s a w => Fr a n (lf s) ∧ Mem w (Lf s) ∧ Pf s) μ (fun s a w ⟨h1, h2, h3⟩ => round s h3 a w h1 h2) s0 ⟨F.keep h0, M.perms hL, hP⟩
/-- The end of a round. -/
theorem sv_again {σ : Type} {lf : σ → List (Nat × Value)} {Lf : σ → List Asn} {Pf : σ → Prop} {μ : σ → Nat} {m : Nat} (F : Fr a n l) (M : Mem w L) (s' : σ) (h0 : ∀ p ∈ lf s', look l p.1 = some p.2) (hL : Perms L (Lf s')) (hP : Pf s') (hμ : μ s' < m) :
    ∃ s', (Fr a n (lf s') ∧ Mem w (Lf s') ∧ Pf s') ∧ μ s' < m := ⟨s', ⟨F.keep h0, M.perms hL, hP⟩, hμ⟩
end
/-! ### Slices of elements of a type -/
/-- Elements as cells: k cells each. -/
class EL {α : Type} (f : α → List Value) (k : outParam Nat) : Prop where
  len : ∀ x, (f x).length = k
  one : ∀ x, ∀ u ∈ f x, u.oneCell' = true
def vb : Value → Nat
  | .slice (some a) _ _ => a.block
  | _ => 0
def vo : Value → Nat
  | .slice (some a) _ _ => a.off
  | _ => 0
theorem flat_get {α : Type} {f : α → List Value} {k : Nat} (h : ∀ x, (f x).length = k) : ∀ (xs : List α) (j i : Nat) (x : α), xs[j]? = some x → i < k → (xs.flatMap f)[j * k + i]? = (f x)[i]?
  | [], j, i, x, hj, _ => by simp at hj
  | y :: r, 0, i, x, hj, hi => by
    obtain rfl : y = x := by simpa using hj
    rw [List.flatMap_cons, Nat.zero_mul, Nat.zero_add, List.getElem?_append_left (by rw [h]; exact hi)]
  | y :: r, j + 1, i, x, hj, hi => by
    rw [List.flatMap_cons, List.getElem?_append_right (by rw [h, Nat.succ_mul]; omega), h, show (j + 1) * k + i - k = j * k + i by rw [Nat.succ_mul]; omega]
    exact flat_get h r j i x (by simpa using hj) hi
theorem flat_one {α : Type} {f : α → List Value} {k : Nat} [h : EL f k] (xs : List α) : ∀ u ∈ xs.flatMap f, u.oneCell' = true := fun u hu => by
  obtain ⟨x, _, hx⟩ := List.mem_flatMap.1 hu
  exact h.one x u hx
theorem flat_drop {α : Type} {f : α → List Value} {k : Nat} (h : ∀ x, (f x).length = k) : ∀ (xs : List α) (i : Nat), (xs.flatMap f).drop (i * k) = (xs.drop i).flatMap f
  | xs, 0 => by simp
  | [], i + 1 => by simp
  | x :: r, i + 1 => by
    rw [List.flatMap_cons, Nat.succ_mul, Nat.add_comm, ← List.drop_drop, show k = (f x).length from (h x).symm, List.drop_left, h, flat_drop h r i, List.drop_succ_cons]
theorem flat_take {α : Type} {f : α → List Value} {k : Nat} (h : ∀ x, (f x).length = k) : ∀ (xs : List α) (i : Nat), (xs.flatMap f).take (i * k) = (xs.take i).flatMap f
  | xs, 0 => by simp
  | [], i + 1 => by simp
  | x :: r, i + 1 => by
    rw [List.flatMap_cons, List.take_succ_cons, List.flatMap_cons, ← flat_take h r i, Nat.succ_mul, Nat.add_comm]
    have e : (f x).length = k := h x
    rw [List.take_append, e, List.take_of_length_le (by omega), show k + i * k - k = i * k by omega]
theorem flat_set {α : Type} {f : α → List Value} {k : Nat} (h : ∀ x, (f x).length = k) : ∀ (xs : List α) (j i : Nat) (x : α) (v : Value), xs[j]? = some x → i < k → ∀ y, f y = (f x).set i v → (xs.flatMap f).set (j * k + i) v = (xs.set j y).flatMap f
  | [], j, i, x, v, hj, _, _, _ => by simp at hj
  | z :: r, 0, i, x, v, hj, hi, y, hy => by
    obtain rfl : z = x := by simpa using hj
    rw [List.flatMap_cons, Nat.zero_mul, Nat.zero_add, List.set_append_left _ _ (by rw [h]; exact hi), List.set_cons_zero, List.flatMap_cons, hy]
  | z :: r, j + 1, i, x, v, hj, hi, y, hy => by
    rw [List.flatMap_cons, List.set_append_right _ _ (by rw [h, Nat.succ_mul]; omega), h, show (j + 1) * k + i - k = j * k + i by rw [Nat.succ_mul]; omega, List.set_cons_succ, List.flatMap_cons,
      flat_set h r j i x v (by simpa using hj) hi y hy]
/-- The slice v reads as these elements. -/
def SlT {α : Type} (w : World) (f : α → List Value) (k : Nat) (v : Value) (xs : List α) : Prop := SlR w k v xs.length (xs.flatMap f)
/-- The slice v owns its array, and holds these elements. -/
abbrev ownT {α : Type} (e : TypeId) (f : α → List Value) (k : Nat) (v : Value) (xs : List α) : Asn := own e k v xs.length (xs.flatMap f)
section
variable {ops : Array Oper} {Q : Exit → Act → World → Prop} {rest : List Oper} {o : Oper} {a : Act} {w : World} {n : Nat} {l : List (Nat × Value)} {L : List Asn} {C : Value → List Asn → Prop}
theorem SlR.at {size : Nat} {v : Value} {m : Nat} {xs : List Value} (h : SlR w size v m xs) (hm : 0 < m) : ∃ cap, v = .slice (some ⟨vb v, vo v, none⟩) m cap ∧ ∀ j u, xs[j]? = some u → w.cell? ⟨vb v, vo v + j, none⟩ = some u := by
  obtain ⟨b, off, cap, rfl, _, hc⟩ := h.openSome hm
  exact ⟨cap, rfl, hc⟩
/-- A reading of a slice that memory gives. -/
def GS (L : List Asn) (size : Nat) (v : Value) (m : Nat) (xs : List Value) : Prop := Gives L fun w => SlR w size v m xs
theorem gs_old {w0 : World} {size m : Nat} {v : Value} {xs : List Value} (h : SlR w0 size v m xs) {L' : List Asn} (hp : Pull L (Old w0) L') : GS L size v m xs := Old.slr h hp
theorem gs_oldT {α : Type} {w0 : World} {f : α → List Value} {k : Nat} {v : Value} {xs : List α} (h : SlT w0 f k v xs) {L' : List Asn} (hp : Pull L (Old w0) L') : GS L k v xs.length (xs.flatMap f) := Old.slr h hp
theorem gs_own {e : TypeId} {size : Nat} {v : Value} {m : Nat} {xs : List Value} {L' : List Asn} (hp : Pull L (own e size v m xs) L') : GS L size v m xs := gives_own hp
theorem GS.tail {A : Asn} {size : Nat} {v : Value} {m : Nat} {xs : List Value} (h : GS L size v m xs) : GS (A :: L) size v m xs := fun w M => h w M.drop
theorem GS.nil (L : List Asn) (size : Nat) : GS L size (.slice none 0 0) 0 [] := fun w _ => SlR.nil w size
theorem rt_lenG {x : Operand} {ats : Array TypeId} {t : TypeId} (ho : o.op = .call { callee := .builtin .len, args := #[x], argTypes := ats }) (hat : ats = #[t]) {v : Value} (hx : evl l x = some v) {e : TypeId} {z : Value} {size bytes : Nat} (ht : ST t e z size bytes) {m : Nat} {xs : List Value} (hg : GS L size v m xs) : RT o l L n (.int .i64 m) := fun a w F M => by
  obtain ⟨p, c, rfl⟩ := (hg w M).form
  exact rt_lenS (L := L) ho hat hx ht a w F M
/-- The address of an element. -/
theorem rt_indexG {t : TypeId} {x y : Operand} (ho : o.op = .indexAddr t x y) {v : Value} (hx : evl l x = some v) {k : IntKind} {j : Int} (hy : evl l y = some (.int k j)) {e : TypeId} {z : Value} {size bytes : Nat} (ht : ST t e z size bytes) {m : Nat} {xs : List Value} (hg : GS L size v m xs) (h0 : 0 ≤ j) (h1 : j < m) : RT o l L n (.pointer (some ⟨vb v, vo v + j.toNat * size, none⟩)) := fun a w F M => by
  obtain ⟨cap, hv, _⟩ := (hg w M).at (by omega)
  have hx' := hx
  rw [hv] at hx'
  exact rt_indexS (L := L) ho hx' hy ht h0 h1 rfl a w F M
theorem rt_load_at {t : TypeId} {x : Operand} (ho : o.op = .load t x) {v : Value} {p : Nat} (hx : evl l x = some (.pointer (some ⟨vb v, vo v + p, none⟩))) (hkt : KT t none) {size m : Nat} {xs : List Value} (hg : GS L size v m xs) {u : Value} (hu : xs[p]? = some u) : RT o l L n u :=
  rt_loadg ho hx hkt fun w M => by
    have h := hg w M
    have hm : 0 < m := by
      rcases Nat.eq_zero_or_pos m with h0 | h0
      · subst h0
        have : xs = [] := List.eq_nil_of_length_eq_zero (by simpa using h.1)
        subst this; simp at hu
      · exact h0
    obtain ⟨cap, _, hc⟩ := h.at hm
    exact hc p u hu
theorem rt_load_atA {t : TypeId} {x : Operand} (ho : o.op = .load t x) {v : Value} {p : Nat} (hx : evl l x = some (.pointer (some ⟨vb v, vo v + p, none⟩))) {k : Nat} (hkt : KT t (some k)) {size m : Nat} {xs : List Value} (hg : GS L size v m xs) {cs : List Value} (hk : cs.length = k) (hk0 : 0 < k) (hu : ∀ i, i < k → xs[p + i]? = cs[i]?) : RT o l L n (.agg cs.toArray) :=
  rt_loadgA ho hx hkt hk fun w M => by
    have h := hg w M
    have hm : 0 < m := by
      rcases Nat.eq_zero_or_pos m with h0 | h0
      · subst h0
        have : xs = [] := List.eq_nil_of_length_eq_zero (by simpa using h.1)
        subst this
        have h2 := (hu 0 hk0).symm
        rw [List.getElem?_eq_getElem (by omega)] at h2
        simp at h2
      · exact h0
    obtain ⟨cap, _, hc⟩ := h.at hm
    intro j u hj
    have hjk : j < k := by
      have := (List.getElem?_eq_some_iff.1 hj).1; omega
    rw [Nat.add_assoc]
    exact hc (p + j) u (by rw [hu j hjk]; exact hj)
/-- A whole element; a cell of an element. -/
theorem rt_elem1 {α : Type} {f : α → List Value} {t : TypeId} {x : Operand} (ho : o.op = .load t x) {v : Value} {j : Nat} (hx : evl l x = some (.pointer (some ⟨vb v, vo v + j * 1, none⟩))) (hkt : KT t none) {m : Nat} {xs : List α} (hg : GS L 1 v m (xs.flatMap f)) (he : EL f 1) {y : α} (hy : xs[j]? = some y) {u : Value} (hu : (f y)[0]? = some u) : RT o l L n u :=
  rt_load_at ho hx hkt hg (by have := flat_get he.len xs j 0 y hy (by omega); simp only [Nat.add_zero] at this; rw [this, hu])
theorem rt_elemA {α : Type} {f : α → List Value} {t : TypeId} {x : Operand} (ho : o.op = .load t x) {v : Value} {j k : Nat} (hx : evl l x = some (.pointer (some ⟨vb v, vo v + j * k, none⟩))) (hkt : KT t (some k)) {m : Nat} {xs : List α} (hg : GS L k v m (xs.flatMap f)) (he : EL f k) (hk0 : Nat.ble 1 k = true) {y : α} (hy : xs[j]? = some y) : RT o l L n (.agg (f y).toArray) :=
  rt_load_atA ho hx hkt hg (he.len y) (Nat.le_of_ble_eq_true hk0) fun i hi => flat_get he.len xs j i y hy hi
theorem rt_elemF {α : Type} {f : α → List Value} {t : TypeId} {x : Operand} (ho : o.op = .load t x) {v : Value} {j k i : Nat} (hx : evl l x = some (.pointer (some ⟨vb v, vo v + j * k + i, none⟩))) (hkt : KT t none) {m : Nat} {xs : List α} (hg : GS L k v m (xs.flatMap f)) (he : EL f k) {y : α} (hy : xs[j]? = some y) {u : Value} (hu : (f y)[i]? = some u) : RT o l L n u :=
  rt_load_at ho (p := j * k + i) (by rw [← Nat.add_assoc]; exact hx) hkt hg (by
    have hi : i < k := by have := (List.getElem?_eq_some_iff.1 hu).1; rw [he.len] at this; exact this
    rw [flat_get he.len xs j i y hy hi, hu])
/-! ### Literals of slices -/
def unidx : Nat → List (Nat × Value) → Option (List Value)
  | _, [] => some []
  | k, (i, v) :: r => match Nat.beq i k, unidx (k + 1) r with
    | true, some vs => some (v :: vs)
    | _, _ => none
def idxL : Nat → List Value → List (Nat × Value)
  | _, [] => []
  | k, v :: r => (k, v) :: idxL (k + 1) r
theorem unidx_spec : ∀ (ps : List (Nat × Value)) (k : Nat) {vs : List Value}, unidx k ps = some vs → ps = idxL k vs
  | [], k, vs, h => by simp [unidx] at h; subst h; rfl
  | (i, v) :: r, k, vs, h => by
    simp only [unidx] at h
    split at h
    · rename_i vs' h1 h2
      obtain rfl := Option.some.inj h
      rw [Nat.eq_of_beq_eq_true h1, unidx_spec r (k + 1) h2]; rfl
    · cases h
def cellsL : List Value → List Value
  | [] => []
  | v :: r => partL v ++ cellsL r
def sizesOK (size : Nat) : List Value → Bool
  | [] => true
  | v :: r => Nat.beq (partL v).length size && sizesOK size r
theorem fill_all (size : Nat) : ∀ (vs : List Value) (i : Nat) (cells : Array Value), sizesOK size vs = true → i * size + vs.length * size ≤ cells.size →
    Instr.fill (fun i => some (i * size, size)) cells (idxL i vs) = some (cells.toList.take (i * size) ++ cellsL vs ++ cells.toList.drop (i * size + vs.length * size)).toArray ∧ (cellsL vs).length = vs.length * size
  | [], i, cells, _, _ => by simp [idxL, Instr.fill, cellsL]
  | v :: r, i, cells, h, hle => by
    simp only [sizesOK, Bool.and_eq_true] at h
    obtain ⟨h1, h2⟩ := h
    have h1 : (partL v).length = size := Nat.eq_of_beq_eq_true h1
    have hsz : v.cells.size = size := by rw [← h1, ← partL_eq]; simp
    simp only [List.length_cons, Nat.succ_mul] at hle
    have hfold : (v.cells.zipIdx.foldl (fun cs x => cs.setIfInBounds (i * size + x.2) x.1) cells).toList = cells.toList.take (i * size) ++ partL v ++ cells.toList.drop (i * size + size) := by
      rw [← Array.foldl_toList, Array.toList_zipIdx]
      have := fold_set (i * size) v.cells.toList 0 cells
      simp only [Nat.add_zero] at this
      rw [this, setMany_eq _ _ _ (by simp [hsz]; omega), partL_eq, h1]
    obtain ⟨k1, k2⟩ := fill_all size r (i + 1) (v.cells.zipIdx.foldl (fun cs x => cs.setIfInBounds (i * size + x.2) x.1) cells) h2 (by
      have : (v.cells.zipIdx.foldl (fun cs x => cs.setIfInBounds (i * size + x.2) x.1) cells).size = cells.size := by
        rw [← Array.length_toList, hfold]; simp [h1]; omega
      rw [this, Nat.succ_mul]; omega)
    refine ⟨?_, by simp only [cellsL, List.length_append, List.length_cons, k2, h1, Nat.succ_mul]; omega⟩
    rw [idxL, Instr.fill]
    have hcond : ¬ ((decide (v.cells.size ≠ size) || decide (i * size + v.cells.size > cells.size)) = true) := by
      simp [hsz]; omega
    simp only [if_neg hcond]
    have e := k1
    rw [hfold] at e
    refine Eq.trans e ?_
    congr 2
    have l1 : (cells.toList.take (i * size)).length = i * size := by simp; omega
    have e1 : (cells.toList.take (i * size) ++ partL v ++ cells.toList.drop (i * size + size)).take ((i + 1) * size) = cells.toList.take (i * size) ++ partL v := by
      rw [Nat.succ_mul]
      have : (cells.toList.take (i * size) ++ partL v).length = i * size + size := by rw [List.length_append, l1, h1]
      rw [← this]; exact List.take_left
    have e2 : (cells.toList.take (i * size) ++ partL v ++ cells.toList.drop (i * size + size)).drop ((i + 1) * size + r.length * size) = cells.toList.drop (i * size + (v :: r).length * size) := by
      have : (cells.toList.take (i * size) ++ partL v).length = i * size + size := by rw [List.length_append, l1, h1]
      rw [Nat.succ_mul, List.drop_append, List.drop_of_length_le (by rw [this]; omega), List.nil_append, this, List.drop_drop]
      congr 1
      simp only [List.length_cons, Nat.succ_mul]; omega
    rw [e1, e2]
    simp [cellsL]
/-- A whole array out of its parts. -/
theorem rt_buildA {t : TypeId} {parts : Array (Nat × Operand)} (ho : o.op = .build t parts) {zs : List Value} (hz : ZT t zs) {len e size : Nat} (ht : AT t len e size) {ps : List (Nat × Value)} (hv : evps l parts.toList = some ps) {vs : List Value} (hu : unidx 0 ps = some vs)
    (hl : Nat.beq zs.length (len * size) = true) (hs : sizesOK size vs = true) (hlen : Nat.beq vs.length len = true) {cs : List Value} (hcs : cellsL vs = cs) : RT o l L n (.agg cs.toArray) := fun a w F M => by
  subst hcs
  obtain ⟨i, z, hi, hzz, h3⟩ := zero_run hz
  have hl : zs.length = len * size := Nat.eq_of_beq_eq_true hl
  have hlen : vs.length = len := Nat.eq_of_beq_eq_true hlen
  have hps := unidx_spec ps 0 hu
  have hparts : (parts.map fun x => (x.1, a.eval x.2)).toList = idxL 0 vs := by rw [← hps]; have := F.evps hv; simpa using this
  obtain ⟨k1, k2⟩ := fill_all size vs 0 zs.toArray hs (by simp [hl, hlen])
  have hzv : (zeroValue t).run Tryz.prog w = .ok z w := by simp [zeroValue, typeInfo, hi, hzz]
  have hss : (sizeOf e).run Tryz.prog w = .ok size w := by
    obtain ⟨j, hj, hj2⟩ := Option.map_eq_some_iff.1 ht.k.2
    simp [sizeOf, typeInfo, hj, hj2]
  have hd : (zs.toArray).toList.take (0 * size) ++ cellsL vs ++ zs.toArray.toList.drop (0 * size + vs.length * size) = cellsL vs := by
    simp only [Nat.zero_mul, Nat.zero_add, List.take_zero, List.nil_append]
    rw [List.drop_of_length_le (by simp [hl, hlen]), List.append_nil]
  rw [hd] at k1
  unfold execOp
  rw [ho]
  simp only [Instr.build, Sem.run_bind, hzv, run_underlying ht.k.1 w, Result.andThen_ok, hss, h3, hparts, k1, Sem.run_pure]
theorem ac_buildSlice {t : TypeId} {len : Nat} {parts : Array (Nat × Operand)} (ho : o.op = .buildSlice t len parts) {e : TypeId} {z : Value} {size bytes : Nat} (ht : ST t e z size bytes) {ps : List (Nat × Value)} (hv : evps l parts.toList = some ps) {vs : List Value} (hu : unidx 0 ps = some vs) (hl : Nat.beq vs.length len = true) (hs : sizesOK size vs = true) (hsm : Nat.ble (len * size) 65536 = true) {cs : List Value} (hcs : cellsL vs = cs)
    (h : ∀ b, C (.slice (some ⟨b, 0, none⟩) len len) (own e size (.slice (some ⟨b, 0, none⟩) len len) len cs :: L)) : AC o l L n C := fun G a w F M => by
  subst hcs
  obtain ⟨i, hu1, hi, hz, hsize, hby, hzs, hsz⟩ := st_info ht
  have hl : vs.length = len := Nat.eq_of_beq_eq_true hl
  have hsm : len * size ≤ 65536 := Nat.le_of_ble_eq_true hsm
  have hps := unidx_spec ps 0 hu
  have hparts : (parts.map fun x => (x.1, a.eval x.2)).toList = idxL 0 vs := by rw [← hps]; have := F.evps hv; simpa using this
  have key : ∀ cells : Array Value, cells.size = len * size → Instr.fill (fun i => some (i * size, size)) cells (idxL 0 vs) = some (cellsL vs).toArray := fun cells hc => by
    obtain ⟨k1, k2⟩ := fill_all size vs 0 cells hs (by rw [hc, hl]; omega)
    rw [k1]
    congr 2
    simp only [Nat.zero_mul, Nat.zero_add, List.take_zero, List.nil_append]
    rw [List.drop_of_length_le (by rw [hl, Array.length_toList, hc]; omega), List.append_nil]
  have hlen : (cellsL vs).length = len * size := by
    obtain ⟨_, k2⟩ := fill_all size vs 0 (Array.replicate (len * size) undef) hs (by simp [hl])
    rw [k2, hl]
  have hrun : (execOp a.eval o).run Tryz.prog w = .ok (.value (.slice (some ⟨w.heap.size, 0, none⟩) len len)) (w.alloc (.cells (cellsL vs).toArray e)) := by
    unfold execOp
    rw [ho]
    have hzv : (zeroValue e).run Tryz.prog w = .ok z w := by simp [zeroValue, typeInfo, hi, hz]
    have h24 : ¬ (len * size > 2 ^ 24) := by omega
    have hk := key ((Array.range (len * size)).map ((if len * size = 0 then #[] else z.cells)[· % (if len * size = 0 then #[] else z.cells).size]!)) (by simp)
    have hss : (sizeOf e).run Tryz.prog w = .ok size w := by simp [sizeOf, typeInfo, hi, hsize]
    by_cases h0 : len * size = 0
    · simp only [if_pos h0] at hk
      simp only [Instr.buildSlice, Sem.run_bind, run_underlying hu1 w, hss, Result.andThen_ok, if_neg h24, hparts, if_pos h0, Sem.run_pure, hk]
      simp [newRow, newObj, Sem.run]
    · simp only [if_neg h0] at hk
      simp only [Instr.buildSlice, Sem.run_bind, run_underlying hu1 w, hss, Result.andThen_ok, if_neg h24, hparts, if_neg h0, Sem.run_pure, hzv, hk]
      simp [newRow, newObj, Sem.run]
  rw [hrun]
  refine ⟨_, h _, ?_⟩
  exact Mem.own_pt (M.alloc (cellsL vs) e) hlen (by simp only [maxLen]; have := Nat.le_mul_of_pos_right len hsz; omega)
theorem GS.len_le {size m : Nat} {v : Value} {xs : List Value} (h : GS L size v m xs) (M : Mem w L) : m ≤ 9223372036854775807 := (h w M).len_le
theorem GS.imp {K : List Asn} {size m : Nat} {v : Value} {xs : List Value} (h : GS L size v m xs) (hk : ∀ w, Mem w K → Mem w L) : GS K size v m xs := fun w M => h w (hk w M)
/-- A function that reads: it yields v in every memory that holds L, and leaves what there is as it was. -/
def Reads (k : FuncId) (us : List Value) (v : Value) (L : List Asn) : Prop := ∀ K, (∀ w, Mem w K → Mem w L) → ∀ w, Mem w K → Calls Tryz.prog k us.toArray w fun e w' => e = .returned v ∧ Mem w' K
theorem Spec.of_reads {k : FuncId} {us us' : List Value} {v : Value} (h : Reads k us' v L) (hu : us = us') (hC : C v L) : Spec k us L C := by
  subst hu
  exact fun G w M => (h (L ++ G) (fun w M => M.drop_app) w M).mono fun e w' ⟨he, hm⟩ => ⟨v, L, he, hC, hm⟩
/-! ### Strings -/
abbrev str (s : List UInt8) : Value := .string ⟨s.toArray⟩
theorem rt_cat {t ty : TypeId} {x y : Operand} (ho : o.op = .binOp .add t x y ty) {s r : List UInt8} (hx : evl l x = some (str s)) (hy : evl l y = some (str r)) (hb : s.length + r.length ≤ 9223372036854775807) : RT o l L n (str (s ++ r)) := fun a w F M => by
  unfold execOp
  rw [ho]
  have : (ByteArray.mk s.toArray) ++ (ByteArray.mk r.toArray) = ByteArray.mk (s ++ r).toArray := by
    apply ByteArray.ext; simp
  have h1 : (ByteArray.mk s.toArray).size = s.length := rfl
  have h2 : (ByteArray.mk r.toArray).size = r.length := rfl
  have h3 : ¬ ((s.length : Int) + (r.length : Int) > IntKind.i64.max) := by
    show ¬ ((s.length : Int) + (r.length : Int) > 9223372036854775807)
    omega
  simp [F.eval hx, F.eval hy, eqGuard, binOp, Op.stringOp, this, h1, h2]
  omega
theorem rt_eqT {t ty : TypeId} {x y : Operand} (ho : o.op = .binOp .eql t x y ty) {s r : List UInt8} (hx : evl l x = some (str s)) (hy : evl l y = some (str r)) : RT o l L n (.bool (decide (s = r))) := fun a w F M => by
  unfold execOp
  rw [ho]
  simp [F.eval hx, F.eval hy, eqGuard, binOp, Op.stringOp, ByteArray.toList_mk]
  rw [Bool.eq_iff_iff]; simp
theorem rt_neT {t ty : TypeId} {x y : Operand} (ho : o.op = .binOp .neq t x y ty) {s r : List UInt8} (hx : evl l x = some (str s)) (hy : evl l y = some (str r)) : RT o l L n (.bool (decide (s ≠ r))) := fun a w F M => by
  unfold execOp
  rw [ho]
  simp [F.eval hx, F.eval hy, eqGuard, binOp, Op.stringOp, ByteArray.toList_mk]
  rw [Bool.eq_iff_iff]; simp
/-- A pointer type. -/
class PT (t : TypeId) (e : outParam TypeId) : Prop where
  k : Tryz.prog.underlying t = some (.pointer e) ∧ (Tryz.prog.info? e).isSome = true
class TT (t : TypeId) : Prop where
  k : Tryz.prog.underlying t = some .string
theorem rt_lenStr {x : Operand} {ats : Array TypeId} {t : TypeId} (ho : o.op = .call { callee := .builtin .len, args := #[x], argTypes := ats }) (hat : ats = #[t]) {s : List UInt8} (hx : evl l x = some (str s)) (ht : TT t) : RT o l L n (.int .i64 s.length) := rt_lenT ho hat hx ht.k
/-- A byte of a string. -/
theorem rt_byte {t : TypeId} {x y : Operand} (ho : o.op = .index t x y) {s : List UInt8} (hx : evl l x = some (str s)) {k : IntKind} {j : Int} (hy : evl l y = some (.int k j)) (ht : TT t) (h0 : 0 ≤ j) {b : UInt8} (hb : s[j.toNat]? = some b) : RT o l L n (.int .u8 b.toNat) := fun a w F M => by
  unfold execOp
  rw [ho]
  obtain ⟨hlt, hb'⟩ := List.getElem?_eq_some_iff.1 hb
  have h1 : (ByteArray.mk s.toArray)[j.toNat]? = some b := by
    have hs : j.toNat < (ByteArray.mk s.toArray).size := hlt
    rw [getElem?_pos (ByteArray.mk s.toArray) j.toNat hs]
    congr 1
  simp [F.eval hx, F.eval hy, Instr.index, asIntOf, run_underlying ht.k w, h0, h1]
/-- A part of a string. -/
theorem rt_mid {t : TypeId} {x y z : Operand} (ho : o.op = .slice t x (some y) (some z) none) {s : List UInt8} (hx : evl l x = some (str s)) {k k' : IntKind} {i j : Int} (hy : evl l y = some (.int k i)) (hz : evl l z = some (.int k' j)) (ht : TT t) (h0 : 0 ≤ i) (h1 : i ≤ j) (h2 : j ≤ s.length) : RT o l L n (str ((s.drop i.toNat).take (j.toNat - i.toNat))) := fun a w F M => by
  unfold execOp
  rw [ho]
  have hr := run_sliceAt_string (P := Tryz.prog) w t (.string ⟨s.toArray⟩) (some (.int k i)) (some (.int k' j)) none ht.k
  have hs := run_slice_string (P := Tryz.prog) w t ⟨s.toArray⟩ k k' i j ht.k h0 h1 (by show j ≤ (s.length : Int); exact h2)
  simp [F.eval hx, F.eval hy, F.eval hz, hr, hs, ByteArray.extract_mk]
theorem rt_midFrom {t : TypeId} {x y : Operand} (ho : o.op = .slice t x (some y) none none) {s : List UInt8} (hx : evl l x = some (str s)) {k : IntKind} {i : Int} (hy : evl l y = some (.int k i)) (ht : TT t) (h0 : 0 ≤ i) (h1 : i ≤ s.length) : RT o l L n (str (s.drop i.toNat)) := fun a w F M => by
  unfold execOp
  rw [ho]
  have hr := run_sliceAt_string (P := Tryz.prog) w t (.string ⟨s.toArray⟩) (some (.int k i)) none none ht.k
  have hs := run_slice_string_l (P := Tryz.prog) w t ⟨s.toArray⟩ ht.k k i h0 (by show i ≤ (s.length : Int); exact h1)
  have hz : (ByteArray.mk s.toArray).size = s.length := rfl
  have : (s.drop i.toNat).take (s.length - i.toNat) = s.drop i.toNat := List.take_of_length_le (by simp)
  simp [F.eval hx, F.eval hy, hr, hs, ByteArray.extract_mk, hz, this]
theorem rt_midTo {t : TypeId} {x y : Operand} (ho : o.op = .slice t x none (some y) none) {s : List UInt8} (hx : evl l x = some (str s)) {k : IntKind} {i : Int} (hy : evl l y = some (.int k i)) (ht : TT t) (h0 : 0 ≤ i) (h1 : i ≤ s.length) : RT o l L n (str (s.take i.toNat)) := fun a w F M => by
  unfold execOp
  rw [ho]
  have hr := run_sliceAt_string (P := Tryz.prog) w t (.string ⟨s.toArray⟩) none (some (.int k i)) none ht.k
  have hs := run_slice_string_h (P := Tryz.prog) w t ⟨s.toArray⟩ ht.k k i h0 (by show i ≤ (s.length : Int); exact h1)
  simp [F.eval hx, F.eval hy, hr, hs, ByteArray.extract_mk]
/-- A part of an array, of a slice. -/
theorem rt_sliceA {t : TypeId} {x y : Operand} (ho : o.op = .slice t x none (some y) none) {b i : Nat} (hx : evl l x = some (.pointer (some ⟨b, i, none⟩))) {k : IntKind} {j : Int} (hy : evl l y = some (.int k j)) {len e size : Nat} (ht : AT t len e size) (h0 : 0 ≤ j) (h1 : j ≤ len) : RT o l L n (.slice (some ⟨b, i, none⟩) j.toNat len) := fun a w F M => by
  unfold execOp
  rw [ho]
  obtain ⟨hu, hs⟩ := ht.k
  have e1 : Tryz.prog.arrayLen t = len := by simp [Program.arrayLen, hu]
  have e2 : Tryz.prog.elem t = e := by simp [Program.elem, hu]
  have hr := run_sliceAt_array_h (P := Tryz.prog) w t ⟨b, i, none⟩ (by rw [e1, e2]; exact hu) k j h0 (by rw [e1]; exact h1)
  have hz : (sizeOf e).run Tryz.prog w = .ok size w := by
    cases hi : Tryz.prog.info? e with
    | none => rw [hi] at hs; cases hs
    | some ie =>
      rw [hi] at hs
      have hs := Option.some.inj hs
      simp [sizeOf, typeInfo, hi, hs]
  rw [e1, e2, hz] at hr
  simp only [Result.andThen_ok, slicedAt] at hr
  have : (if len = 0 then (⟨b, i, none⟩ : Addr) else (⟨b, i, none⟩ : Addr).add (0 * size)) = ⟨b, i, none⟩ := by
    split
    · rfl
    · rw [add0]; simp
  rw [this] at hr
  simp [F.eval hx, F.eval hy, hr]
theorem st_size {t e : TypeId} {z : Value} {size bytes : Nat} (ht : ST t e z size bytes) (w : World) : (sizeOf e).run Tryz.prog w = .ok size w := by
  obtain ⟨i, _, hi, _, hs, _⟩ := st_info ht
  simp [sizeOf, typeInfo, hi, hs]
/-- A slice's words. -/
structure SlH where
  a : Option Addr
  n : Nat
  c : Nat
abbrev sl (h : SlH) : Value := .slice h.a h.n h.c
theorem rt_nilp {t ty : TypeId} {x y : Operand} (ho : o.op = .binOp .eql t x y ty) {p : Option Addr} (hx : evl l x = some (.pointer p)) (hy : evl l y = some (.pointer none)) {e : TypeId} (ht : PT t e) : RT o l L n (.bool p.isNone) := fun a w F M => by
  have h := ht.k.1
  have h' : Tryz.prog.underlying t = some (.pointer (Tryz.prog.pointee t)) := by simp [Program.pointee, h]
  unfold execOp
  rw [ho]
  simp [F.eval hx, F.eval hy, eqGuard, run_eql_pointer_nil w t p h']
theorem rt_nenilp {t ty : TypeId} {x y : Operand} (ho : o.op = .binOp .neq t x y ty) {p : Option Addr} (hx : evl l x = some (.pointer p)) (hy : evl l y = some (.pointer none)) {e : TypeId} (ht : PT t e) : RT o l L n (.bool (!p.isNone)) := fun a w F M => by
  have h := ht.k.1
  have h' : Tryz.prog.underlying t = some (.pointer (Tryz.prog.pointee t)) := by simp [Program.pointee, h]
  unfold execOp
  rw [ho]
  simp [F.eval hx, F.eval hy, eqGuard, run_neq_pointer_nil w t p h']
theorem SlR.nil_len {w : World} {size m : Nat} {n c : Nat} {xs : List Value} (h : SlR w size (sl ⟨none, n, c⟩) m xs) : m = 0 := by
  rcases h.parts with ⟨⟨_, _, hh⟩, h1, _⟩ | ⟨b, off, cap, hh, _⟩
  · exact h1
  · cases hh
theorem rt_nils {t ty : TypeId} {x y : Operand} (ho : o.op = .binOp .eql t x y ty) {h : SlH} (hx : evl l x = some (sl h)) (hy : evl l y = some (.slice none 0 0)) {e : TypeId} {z : Value} {k bytes : Nat} (ht : ST t e z k bytes) : RT o l L n (.bool h.a.isNone) := fun a w F M => by
  obtain ⟨ha, hn, hc⟩ := h
  have hr := Go.run_eql_slice_nil (P := Tryz.prog) w t e ha hn hc ht.k.1
  unfold execOp
  rw [ho]
  simp [F.eval hx, F.eval hy, eqGuard, hr]
theorem rt_nenils {t ty : TypeId} {x y : Operand} (ho : o.op = .binOp .neq t x y ty) {h : SlH} (hx : evl l x = some (sl h)) (hy : evl l y = some (.slice none 0 0)) {e : TypeId} {z : Value} {k bytes : Nat} (ht : ST t e z k bytes) : RT o l L n (.bool (!h.a.isNone)) := fun a w F M => by
  obtain ⟨ha, hn, hc⟩ := h
  have hr := Go.run_neq_slice_nil (P := Tryz.prog) w t e ha hn hc ht.k.1
  unfold execOp
  rw [ho]
  simp [F.eval hx, F.eval hy, eqGuard, hr]
theorem rt_neg {t : TypeId} {x : Operand} (ho : o.op = .unOp .neg t x) {k : IntKind} {m : Int} (hx : evl l x = some (.int k m)) {r : Int} (hr : k.wrap (-m) = r) : RT o l L n (.int k r) := fun a w F M => by
  subst hr
  unfold execOp
  rw [ho]
  have hr : (Op.intArith .sub k 0 m).run Tryz.prog w = .ok (.int k (k.wrap (-m))) w := by
    simp [Op.intArith]
  simp [F.eval hx, Op.unary, hr]
theorem Gives.app {L G : List Asn} {φ : World → Prop} (h : Gives L φ) : Gives (L ++ G) φ := fun w M => h w M.drop_app
end
end Go.Proofs.YtopbohbkhljjgaaGreat
end
section
namespace Go.Proofs.YtopbohbkhljjgaaGreat
open Go.RowKit
set_option linter.unusedVariables false
set_option maxRecDepth 100000
set_option linter.unusedSimpArgs false
/-- Equal elements. -/
class EQF {α : Type} [DecidableEq α] (f : α → List Value) (ks : outParam (List Sc)) : Prop where
  k : ∀ x y, cellsEq ks (f x) (f y) = some (decide (x = y))
section
variable {ops : Array Oper} {Q : Exit → Act → World → Prop} {rest : List Oper} {o : Oper} {a : Act} {w : World} {n : Nat} {l : List (Nat × Value)} {L : List Asn} {C : Value → List Asn → Prop}
theorem rtA {v : Value} (h : RT o l L n v := by (first | (apply rt_eqT; (exact rfl); (exact rfl); (exact rfl)) | (apply rt_neT; (exact rfl); (exact rfl); (exact rfl)) | (exact rt_pure rfl) | (apply rt_extract; (exact rfl); (exact rfl); (exact rfl)) | (apply rt_field; (exact rfl); (exact rfl); (exact inferInstance); (exact rfl)) | (apply rt_load; (exact rfl); (exact rfl); (exact inferInstance); (focus ((repeat (first | exact Pull.here | apply Pull.there)); done)); (exact rfl)) | (apply rt_loadA; (exact rfl); (exact rfl); (exact inferInstance); (focus ((repeat (first | exact Pull.here | apply Pull.there)); done)); (exact rfl)) | (apply rt_add; (exact rfl); (exact rfl); (exact rfl); (focus (first | omega | ((simp only [maxLen, List.length_append, List.length_cons, List.length_nil] at *); omega))); (focus (first | omega | ((simp only [maxLen, List.length_append, List.length_cons, List.length_nil] at *); omega)))) | (apply rt_sub; (exact rfl); (exact rfl); (exact rfl); (focus (first | omega | ((simp only [maxLen, List.length_append, List.length_cons, List.length_nil] at *); omega))); (focus (first | omega | ((simp only [maxLen, List.length_append, List.length_cons, List.length_nil] at *); omega)))) | (apply rt_addu; (exact rfl); (exact rfl); (exact rfl); (focus (first | omega | ((simp only [maxLen, List.length_append, List.length_cons, List.length_nil] at *); omega))); (focus (first | omega | ((simp only [maxLen, List.length_append, List.length_cons, List.length_nil] at *); omega)))) | (apply rt_subu; (exact rfl); (exact rfl); (exact rfl); (focus (first | omega | ((simp only [maxLen, List.length_append, List.length_cons, List.length_nil] at *); omega))); (focus (first | omega | ((simp only [maxLen, List.length_append, List.length_cons, List.length_nil] at *); omega)))) | (apply rt_conv; (exact rfl); (exact rfl); (exact inferInstance); (exact inferInstance); (focus (first | assumption | exact IntWalk.i64_in _ (by omega) | exact u64_in (by omega) (by omega) | exact IntWalk.u8_in _ (by omega) | exact rfl))) | (apply rt_indexA; (exact rfl); (exact rfl); (exact rfl); (exact inferInstance); (focus (first | omega | ((simp only [maxLen, List.length_append, List.length_cons, List.length_nil] at *); omega))); (focus (first | omega | ((simp only [maxLen, List.length_append, List.length_cons, List.length_nil] at *); omega))); (exact rfl)) | (apply rt_indexS; (exact rfl); (exact rfl); (exact rfl); (exact inferInstance); (focus (first | omega | ((simp only [maxLen, List.length_append, List.length_cons, List.length_nil] at *); omega))); (focus (first | omega | ((simp only [maxLen, List.length_append, List.length_cons, List.length_nil] at *); omega))); (exact rfl)) | (apply rt_eql1; (exact rfl); (exact rfl); (exact rfl); (exact inferInstance); (exact rfl)) | (apply rt_neq1; (exact rfl); (exact rfl); (exact rfl); (exact inferInstance); (exact rfl)) | (apply rt_eql; (exact rfl); (exact rfl); (exact rfl); (exact inferInstance); (exact rfl)) | (apply rt_neq; (exact rfl); (exact rfl); (exact rfl); (exact inferInstance); (exact rfl)) | (apply rt_loadS; (exact rfl); (exact rfl); (exact inferInstance); (focus ((repeat (first | exact Pull.here | apply Pull.there)); done)); (exact rfl)) | (apply rt_eqb; (exact rfl); (exact rfl); (exact rfl); (exact inferInstance)) | (apply rt_neb; (exact rfl); (exact rfl); (exact rfl); (exact inferInstance)) | (apply rt_min; (exact rfl); (exact rfl); (exact rfl)) | (apply rt_max; (exact rfl); (exact rfl); (exact rfl)) | (apply rt_build; (exact rfl); (exact inferInstance); (exact inferInstance); (exact rfl); (exact rfl)) | (apply rt_buildA; (exact rfl); (exact inferInstance); (exact inferInstance); (exact rfl); (exact rfl); (exact rfl); (exact rfl); (exact rfl); (exact rfl)) | (apply rt_rem; (exact rfl); (exact rfl); (exact rfl); (focus (first | omega | ((simp only [maxLen, List.length_append, List.length_cons, List.length_nil] at *); omega))); (focus (first | omega | ((simp only [maxLen, List.length_append, List.length_cons, List.length_nil] at *); omega)))) | (apply rt_quo; (exact rfl); (exact rfl); (exact rfl); (focus (first | omega | ((simp only [maxLen, List.length_append, List.length_cons, List.length_nil] at *); omega))); (focus (first | omega | ((simp only [maxLen, List.length_append, List.length_cons, List.length_nil] at *); omega))); (focus (first | assumption | exact IntWalk.i64_in _ (by omega) | exact u64_in (by omega) (by omega) | exact IntWalk.u8_in _ (by omega) | exact rfl))) | (apply rt_mul; (exact rfl); (exact rfl); (exact rfl); (focus (first | omega | ((simp only [maxLen, List.length_append, List.length_cons, List.length_nil] at *); omega))); (focus (first | omega | ((simp only [maxLen, List.length_append, List.length_cons, List.length_nil] at *); omega)))) | (apply rt_lenG; (exact rfl); (exact rfl); (exact rfl); (exact inferInstance); (first | (focus ((repeat (first | assumption | apply GS.tail)); done)) | (apply gs_old; assumption; (focus ((repeat (first | exact Pull.here | apply Pull.there)); done))) | (apply gs_oldT; assumption; (focus ((repeat (first | exact Pull.here | apply Pull.there)); done))) | (apply gs_own; (focus ((repeat (first | exact Pull.here | apply Pull.there)); done))) | exact GS.nil _ _)) | (apply rt_lenS; (exact rfl); (exact rfl); (exact rfl); (exact inferInstance)) | (apply rt_indexG; (exact rfl); (exact rfl); (exact rfl); (exact inferInstance); (first | (focus ((repeat (first | assumption | apply GS.tail)); done)) | (apply gs_old; assumption; (focus ((repeat (first | exact Pull.here | apply Pull.there)); done))) | (apply gs_oldT; assumption; (focus ((repeat (first | exact Pull.here | apply Pull.there)); done))) | (apply gs_own; (focus ((repeat (first | exact Pull.here | apply Pull.there)); done))) | exact GS.nil _ _); (focus (first | omega | ((simp only [maxLen, List.length_append, List.length_cons, List.length_nil] at *); omega))); (focus (first | omega | ((simp only [maxLen, List.length_append, List.length_cons, List.length_nil] at *); omega)))) | (apply rt_elemF; (exact rfl); (exact rfl); (exact inferInstance); (first | (focus ((repeat (first | assumption | apply GS.tail)); done)) | (apply gs_old; assumption; (focus ((repeat (first | exact Pull.here | apply Pull.there)); done))) | (apply gs_oldT; assumption; (focus ((repeat (first | exact Pull.here | apply Pull.there)); done))) | (apply gs_own; (focus ((repeat (first | exact Pull.here | apply Pull.there)); done))) | exact GS.nil _ _); (exact inferInstance); assumption; (exact rfl)) | (apply rt_elem1; (exact rfl); (exact rfl); (exact inferInstance); (first | (focus ((repeat (first | assumption | apply GS.tail)); done)) | (apply gs_old; assumption; (focus ((repeat (first | exact Pull.here | apply Pull.there)); done))) | (apply gs_oldT; assumption; (focus ((repeat (first | exact Pull.here | apply Pull.there)); done))) | (apply gs_own; (focus ((repeat (first | exact Pull.here | apply Pull.there)); done))) | exact GS.nil _ _); (exact inferInstance); assumption; (exact rfl)) | (apply rt_elemA; (exact rfl); (exact rfl); (exact inferInstance); (first | (focus ((repeat (first | assumption | apply GS.tail)); done)) | (apply gs_old; assumption; (focus ((repeat (first | exact Pull.here | apply Pull.there)); done))) | (apply gs_oldT; assumption; (focus ((repeat (first | exact Pull.here | apply Pull.there)); done))) | (apply gs_own; (focus ((repeat (first | exact Pull.here | apply Pull.there)); done))) | exact GS.nil _ _); (exact inferInstance); (exact rfl); assumption) | (apply rt_lenStr; (exact rfl); (exact rfl); (exact rfl); (exact inferInstance)) | (apply rt_byte; (exact rfl); (exact rfl); (exact rfl); (exact inferInstance); (focus (first | omega | ((simp only [maxLen, List.length_append, List.length_cons, List.length_nil] at *); omega))); assumption) | (apply rt_mid; (exact rfl); (exact rfl); (exact rfl); (exact rfl); (exact inferInstance); (focus (first | omega | ((simp only [maxLen, List.length_append, List.length_cons, List.length_nil] at *); omega))); (focus (first | omega | ((simp only [maxLen, List.length_append, List.length_cons, List.length_nil] at *); omega))); (focus (first | omega | ((simp only [maxLen, List.length_append, List.length_cons, List.length_nil] at *); omega)))) | (apply rt_midFrom; (exact rfl); (exact rfl); (exact rfl); (exact inferInstance); (focus (first | omega | ((simp only [maxLen, List.length_append, List.length_cons, List.length_nil] at *); omega))); (focus (first | omega | ((simp only [maxLen, List.length_append, List.length_cons, List.length_nil] at *); omega)))) | (apply rt_midTo; (exact rfl); (exact rfl); (exact rfl); (exact inferInstance); (focus (first | omega | ((simp only [maxLen, List.length_append, List.length_cons, List.length_nil] at *); omega))); (focus (first | omega | ((simp only [maxLen, List.length_append, List.length_cons, List.length_nil] at *); omega)))) | (apply rt_cat; (exact rfl); (exact rfl); (exact rfl); (focus (first | omega | ((simp only [maxLen, List.length_append, List.length_cons, List.length_nil] at *); omega)))) | (apply rt_sliceA; (exact rfl); (exact rfl); (exact rfl); (exact inferInstance); (focus (first | omega | ((simp only [maxLen, List.length_append, List.length_cons, List.length_nil] at *); omega))); (focus (first | omega | ((simp only [maxLen, List.length_append, List.length_cons, List.length_nil] at *); omega)))) | (apply rt_nils; (exact rfl); (exact rfl); (exact rfl); (exact inferInstance)) | (apply rt_nenils; (exact rfl); (exact rfl); (exact rfl); (exact inferInstance)) | (apply rt_nilp; (exact rfl); (exact rfl); (exact rfl); (exact inferInstance)) | (apply rt_nenilp; (exact rfl); (exact rfl); (exact rfl); (exact inferInstance)) | (apply rt_neg; (exact rfl); (exact rfl); (exact rfl)) | fail | (apply rt_arith; (exact rfl); (exact rfl); (exact rfl); (exact rfl)))) : RT o l L n v := h
theorem acB {v : Value} {L' : List Asn} (h : C v L') (s : C v L' → AC o l L n C := by (intro h; first | (apply ac_store; (exact rfl); (exact rfl); (exact inferInstance); (exact rfl); (exact rfl); (focus ((repeat (first | exact Rep.here | apply Rep.there)); done)); (exact rfl); (exact h)) | (apply ac_storeW; (exact rfl); (exact rfl); (exact inferInstance); (exact rfl); (exact rfl); (exact rfl); (focus ((repeat (first | exact Rep.here | apply Rep.there)); done)); (exact rfl); (exact h)) | (apply ac_storeA; (exact rfl); (exact rfl); (exact inferInstance); (exact rfl); (exact rfl); (exact rfl); (focus ((repeat (first | exact Rep.here | apply Rep.there)); done)); (exact rfl); (exact h)))) : AC o l L n C := s h
theorem acA {fv : Nat → Value} {fL : Nat → List Asn} (h : ∀ b, C (fv b) (fL b)) (s : (∀ b, C (fv b) (fL b)) → AC o l L n C := by (intro h; first | (apply ac_boxA; (exact rfl); (exact rfl); (exact h)) | (apply ac_box; (exact rfl); (exact rfl); (exact rfl); (exact h)) | (apply ac_alloc; (exact rfl); (exact inferInstance); (exact h)) | (apply ac_buildSlice; (exact rfl); (exact inferInstance); (exact rfl); (exact rfl); (exact rfl); (exact rfl); (exact rfl); (exact rfl); (exact h)))) : AC o l L n C := s h
theorem sv1 (F : Fr a n l) (M : Mem w L) {d : Nat} {v : Value} (h : ∀ a', Fr a' n ((d, v) :: l) → wpList Tryz.prog ops Q rest a' w)
    (hw : Wanted o ops l = some true := by exact rfl) (hd : o.dst = some d := by exact rfl) (hn : Nat.ble (d + 1) n = true := by exact rfl) (hr : RT o l L n v := by exact rtA) : wpList Tryz.prog ops Q (o :: rest) a w := sv_run F M hw hd hn hr h
theorem sv2 (F : Fr a n l) (M : Mem w L) {d : Nat} {fv : Nat → Value} {fL : Nat → List Asn} (h : ∀ b a' w', Fr a' n ((d, fv b) :: l) → Mem w' (fL b) → wpList Tryz.prog ops Q rest a' w')
    (hw : Wanted o ops l = some true := by exact rfl) (hd : o.dst = some d := by exact rfl) (hn : Nat.ble (d + 1) n = true := by exact rfl)
    (s : ∀ C : Value → List Asn → Prop, (∀ b, C (fv b) (fL b)) → AC o l L n C := by (intro C h; exact acA h)) : wpList Tryz.prog ops Q (o :: rest) a w := sv_act F M hw hd hn (s _ h)
theorem sv3 (F : Fr a n l) (M : Mem w L) {v : Value} {L' : List Asn} (h : ∀ w', Mem w' L' → wpList Tryz.prog ops Q rest a w')
    (hw : Wanted o ops l = some true := by exact rfl) (hd : o.dst = none := by exact rfl)
    (s : ∀ C : Value → List Asn → Prop, C v L' → AC o l L n C := by (intro C h; exact acB h)) : wpList Tryz.prog ops Q (o :: rest) a w := sv_act0 F M hw hd (s _ h)
theorem svK (F : Fr a n l) {d : Nat} (h : ∀ a', Fr a' n ((d, undef) :: l) → wpList Tryz.prog ops Q rest a' w) (hw : Wanted o ops l = some false := by exact rfl) (hd : o.dst = some d := by exact rfl) (hn : Nat.ble (d + 1) n = true := by exact rfl) : wpList Tryz.prog ops Q (o :: rest) a w := sx_skip F hw hd hn h
theorem svK0 (F : Fr a n l) (h : wpList Tryz.prog ops Q rest a w) (hw : Wanted o ops l = some false := by exact rfl) (hd : o.dst = none := by exact rfl) : wpList Tryz.prog ops Q (o :: rest) a w := sx_skip0 F hw hd h
/-- An operation that acts by a contract: what is asked of it. -/
theorem svC (F : Fr a n l) (M : Mem w L) {d : Nat} (h : AC o l L n (fun v L' => ∀ a' w', Fr a' n ((d, v) :: l) → Mem w' L' → wpList Tryz.prog ops Q rest a' w')) (hw : Wanted o ops l = some true := by exact rfl) (hd : o.dst = some d := by exact rfl) (hn : Nat.ble (d + 1) n = true := by exact rfl) : wpList Tryz.prog ops Q (o :: rest) a w := sv_act F M hw hd hn h
theorem svC0 (F : Fr a n l) (M : Mem w L) (h : AC o l L n (fun v L' => ∀ w', Mem w' L' → wpList Tryz.prog ops Q rest a w')) (hw : Wanted o ops l = some true := by exact rfl) (hd : o.dst = none := by exact rfl) : wpList Tryz.prog ops Q (o :: rest) a w := sv_act0 F M hw hd h
/-- A call. -/
theorem acCall {f : Operand} {xs : Array Operand} {ats : Array TypeId} {k : FuncId} {caps : Array Value} {vs us : List Value} (hs : Spec k us L C) (ho : o.op = .call { callee := .value f, args := xs, argTypes := ats } := by exact rfl) (hf : evl l f = some (.func (.func k) #[] caps) := by exact rfl) (hfk : FK k := by exact inferInstance) (hx : evls l xs.toList = some vs := by exact rfl) (hu : vs ++ caps.toList = us := by exact rfl) : AC o l L n C := ac_call ho hf hfk hx hu hs
/-- What a slot that must be read again holds. -/
theorem rvsA {js : List Nat} (h : Rvs Tryz.prog ops n js l L := by (first | (focus ((repeat (first | exact rvs_nil | ((apply rvs_run); (exact rfl); (exact rfl); (exact rfl); (exact rfl); (exact rtA)) | ((apply rvs_skip); (exact rfl); (exact rfl); (exact rfl); (exact rfl)))); done)) | fail)) : Rvs Tryz.prog ops n js l L := h
section
variable {E Fl : List Nat} {S : List (Nat × List Nat)} {σ done : List Nat} {i : Nat}
theorem pv1 {d : Nat} {v : Value} (h : PW Tryz.prog ops n Q E Fl S σ (i :: done) ((d, v) :: l) L) (hi : ops[i]? = some o := by exact rfl) (hf : Fl.contains i = false := by exact rfl) (he : E.contains i = false := by exact rfl) (hw : Wanted o ops l = some true := by exact rfl) (hd : o.dst = some d := by exact rfl) (hr : RT o l L n v := by exact rtA) :
    PW Tryz.prog ops n Q E Fl S (i :: σ) done l L := pv_run hi hf he hw hd hr h
theorem pv2 {d : Nat} {fv : Nat → Value} {fL : Nat → List Asn} {js : List Nat} (h : ∀ b, PW Tryz.prog ops n Q E Fl S σ (i :: done) ((d, fv b) :: l) (fL b)) (hi : ops[i]? = some o := by exact rfl) (hf : Fl.contains i = false := by exact rfl) (he : E.contains i = true := by exact rfl) (hw : Wanted o ops l = some true := by exact rfl) (hd : o.dst = some d := by exact rfl) (hj : lookS S i = js := by exact rfl)
    (s : ∀ C : Value → List Asn → Prop, (∀ b, C (fv b) (fL b)) → AC o l L n C := by (intro C h; exact acA h)) (hr : ∀ b, Rvs Tryz.prog ops n js ((d, fv b) :: l) (fL b) := by (intro b; exact rvsA)) : PW Tryz.prog ops n Q E Fl S (i :: σ) done l L := pv_act hi hf he hw hd hj (s _ fun b => ⟨hr b, h b⟩)
theorem pv3 {v : Value} {L' : List Asn} {js : List Nat} (h : PW Tryz.prog ops n Q E Fl S σ (i :: done) l L') (hi : ops[i]? = some o := by exact rfl) (hf : Fl.contains i = false := by exact rfl) (he : E.contains i = true := by exact rfl) (hw : Wanted o ops l = some true := by exact rfl) (hd : o.dst = none := by exact rfl) (hj : lookS S i = js := by exact rfl)
    (s : ∀ C : Value → List Asn → Prop, C v L' → AC o l L n C := by (intro C h; exact acB h)) (hr : Rvs Tryz.prog ops n js l L' := by exact rvsA) : PW Tryz.prog ops n Q E Fl S (i :: σ) done l L := pv_act0 hi hf he hw hd hj (s _ ⟨hr, h⟩)
theorem pvC {d : Nat} {js : List Nat} (h : AC o l L n (fun v L' => Rvs Tryz.prog ops n js ((d, v) :: l) L' ∧ PW Tryz.prog ops n Q E Fl S σ (i :: done) ((d, v) :: l) L')) (hi : ops[i]? = some o := by exact rfl) (hf : Fl.contains i = false := by exact rfl) (he : E.contains i = true := by exact rfl) (hw : Wanted o ops l = some true := by exact rfl) (hd : o.dst = some d := by exact rfl) (hj : lookS S i = js := by exact rfl) :
    PW Tryz.prog ops n Q E Fl S (i :: σ) done l L := pv_act hi hf he hw hd hj h
theorem pvC0 {js : List Nat} (h : AC o l L n (fun v L' => Rvs Tryz.prog ops n js l L' ∧ PW Tryz.prog ops n Q E Fl S σ (i :: done) l L')) (hi : ops[i]? = some o := by exact rfl) (hf : Fl.contains i = false := by exact rfl) (he : E.contains i = true := by exact rfl) (hw : Wanted o ops l = some true := by exact rfl) (hd : o.dst = none := by exact rfl) (hj : lookS S i = js := by exact rfl) :
    PW Tryz.prog ops n Q E Fl S (i :: σ) done l L := pv_act0 hi hf he hw hd hj h
theorem pvF {t : TypeId} {cs : List Value} {d : Nat} (h : ∀ b, PW Tryz.prog ops n Q E Fl S σ (i :: done) ((d, .pointer (some ⟨b, 0, none⟩)) :: l) (pt b cs t :: L)) (hi : ops[i]? = some o := by exact rfl) (hf : Fl.contains i = true := by exact rfl) (ho : o.op = .alloc t := by exact rfl) (hz : ZT t cs := by exact inferInstance) (hd : o.dst = some d := by exact rfl) : PW Tryz.prog ops n Q E Fl S (i :: σ) done l L := pv_float hi hf ho hz hd h
theorem pvK {d : Nat} (h : PW Tryz.prog ops n Q E Fl S σ (i :: done) ((d, undef) :: l) L) (hi : ops[i]? = some o := by exact rfl) (hf : Fl.contains i = false := by exact rfl) (hw : Wanted o ops l = some false := by exact rfl) (hd : o.dst = some d := by exact rfl) : PW Tryz.prog ops n Q E Fl S (i :: σ) done l L := by
  cases he : E.contains i
  · exact pv_skip hi hf he hw hd h
  · exact pv_skipE hi hf he hw hd h
theorem pvK0 (h : PW Tryz.prog ops n Q E Fl S σ (i :: done) l L) (hi : ops[i]? = some o := by exact rfl) (hf : Fl.contains i = false := by exact rfl) (he : E.contains i = true := by exact rfl) (hw : Wanted o ops l = some false := by exact rfl) (hd : o.dst = none := by exact rfl) : PW Tryz.prog ops n Q E Fl S (i :: σ) done l L := pv_skipE0 hi hf he hw hd h
end
/-- The tests. -/
theorem svT {c : Operand} {x y : Code} (F : Fr a n l) (h : x.wp Tryz.prog Q a w) (hc : evl l c = some (.bool true) := by exact rfl) : (Code.cond c x y).wp Tryz.prog Q a w := sx_cond_t F hc h
theorem svF {c : Operand} {x y : Code} (F : Fr a n l) (h : y.wp Tryz.prog Q a w) (hc : evl l c = some (.bool false) := by exact rfl) : (Code.cond c x y).wp Tryz.prog Q a w := sx_cond_f F hc h
theorem tidyA {b : Bool} {p q : Prop} (hp : b = true → p := by (intro hc; first | ((try simp only [decide_eq_true_eq, decide_eq_false_iff_not, Bool.not_eq_true, Bool.not_eq_false, Bool.not_eq_true', Bool.not_eq_false', ne_eq, not_true_eq_false, not_false_eq_true, Decidable.not_not, Bool.and_eq_true, Bool.or_eq_true, Bool.and_eq_false_iff, Bool.or_eq_false_iff, beq_iff_eq, beq_eq_false_iff_ne, bne_iff_ne] at hc); exact hc) | exact hc)) (hq : b = false → q := by (intro hc; first | ((try simp only [decide_eq_true_eq, decide_eq_false_iff_not, Bool.not_eq_true, Bool.not_eq_false, Bool.not_eq_true', Bool.not_eq_false', ne_eq, not_true_eq_false, not_false_eq_true, Decidable.not_not, Bool.and_eq_true, Bool.or_eq_true, Bool.and_eq_false_iff, Bool.or_eq_false_iff, beq_iff_eq, beq_eq_false_iff_ne, bne_iff_ne] at hc); exact hc) | exact hc)) : (b = true → p) ∧ (b = false → q) := ⟨hp, hq⟩
theorem svB {c : Operand} {x y : Code} {b : Bool} {p q : Prop} (F : Fr a n l) (h1 : p → x.wp Tryz.prog Q a w) (h2 : q → y.wp Tryz.prog Q a w) (hc : evl l c = some (.bool b) := by exact rfl) (ht : (b = true → p) ∧ (b = false → q) := by exact tidyA) : (Code.cond c x y).wp Tryz.prog Q a w := sx_cond_b F hc (fun h => h1 (ht.1 h)) fun h => h2 (ht.2 h)
/-- Not this way. -/
theorem no {G p : Prop} (hc : p) (h : p → False := by (intro hc; first | exact hc | exact hc rfl | contradiction | omega | ((simp only [decide_eq_true_eq, decide_eq_false_iff_not, ne_eq, Decidable.not_not, Bool.not_eq_true', Bool.not_eq_false'] at hc); first | contradiction | exact hc rfl | omega) | (simp at hc; done) | fail)) : G := (h hc).elim
/-- The order of the parts; a loop's frame. -/
theorem pullA {L L' : List Asn} {A : Asn} (h : Pull L A L' := by (first | (focus ((repeat (first | exact Pull.here | apply Pull.there)); done)) | fail)) : Pull L A L' := h
theorem gsA {L : List Asn} {size m : Nat} {v : Value} {xs : List Value} (h : GS L size v m xs := by (first | (first | (focus ((repeat (first | assumption | apply GS.tail)); done)) | (apply gs_old; assumption; (focus ((repeat (first | exact Pull.here | apply Pull.there)); done))) | (apply gs_oldT; assumption; (focus ((repeat (first | exact Pull.here | apply Pull.there)); done))) | (apply gs_own; (focus ((repeat (first | exact Pull.here | apply Pull.there)); done))) | exact GS.nil _ _) | fail)) : GS L size v m xs := h
theorem permsA {L L' : List Asn} (h : Perms L L' := by (first | (focus ((repeat (first | exact Perms.rest | exact Perms.nil | (apply Perms.cons; (focus ((repeat (first | exact Pull.here | apply Pull.there)); done))) | apply Perms.skip)); done)) | fail)) : Perms L L' := h
theorem kpA {l l' : List (Nat × Value)} (h : ∀ p ∈ l', look l p.1 = some p.2 := by (first | (focus ((repeat (first | exact keep_nil | (apply keep_cons; (exact rfl)))); done)) | fail)) : ∀ p ∈ l', look l p.1 = some p.2 := h
theorem svEnd {fn : Func} {R : Ending → World → Prop} {rs : List ResultVar} {vs : List Value} {v : Value} (F : Fr a n l) (M : Mem w L) (hR : R (.returned v) w) (hf : fn.results = rs.toArray := by exact rfl) (hr : Ress L l rs vs := by (first | (focus ((repeat (first | exact Ress.nil | (apply Ress.cons) | (apply Res.tmp; exact rfl) | (apply Res.agg; (exact rfl); (exact inferInstance); ((focus ((repeat (first | exact Pull.here | apply Pull.there)); done))); (exact rfl)) | (apply Res.one; (exact rfl); (exact inferInstance); ((focus ((repeat (first | exact Pull.here | apply Pull.there)); done))); (exact rfl)))); done)) | fail)) (hv : tupOf vs = v := by exact rfl) : bodyPost Tryz.prog fn R .normal a w := sx_end F M hf hr hv hR
theorem svRet {fn : Func} {R : Ending → World → Prop} {rs : List ResultVar} {vs : List Value} {v : Value} (F : Fr a n l) (M : Mem w L) (hR : R (.returned v) w) (hf : fn.results = rs.toArray := by exact rfl) (hr : Ress L l rs vs := by (first | (focus ((repeat (first | exact Ress.nil | (apply Ress.cons) | (apply Res.tmp; exact rfl) | (apply Res.agg; (exact rfl); (exact inferInstance); ((focus ((repeat (first | exact Pull.here | apply Pull.there)); done))); (exact rfl)) | (apply Res.one; (exact rfl); (exact inferInstance); ((focus ((repeat (first | exact Pull.here | apply Pull.there)); done))); (exact rfl)))); done)) | fail)) (hv : tupOf vs = v := by exact rfl) : bodyPost Tryz.prog fn R .ret a w := sx_ret F M hf hr hv hR
theorem svDraw {id : Nat} (E Fl : List Nat) (S : List (Nat × List Nat)) (σ : List Nat) (F : Fr a n l) (M : Mem w L) (h : PW Tryz.prog ops n Q E Fl S σ [] l L) (hok : drawOK ops E Fl S σ n = true := by kernel_rfl) (hFl : FlOK Tryz.prog ops Fl := by (first | (focus ((repeat (first | exact flok_nil | (apply flok_cons; (exact rfl); (exact rfl); (exact inferInstance); (exact rfl); (exact rfl)))); done)) | fail)) : (Code.region id ops true).wp Tryz.prog Q a w := sv_draw E Fl S σ F M hok hFl h
theorem rt_neqT {α : Type} [DecidableEq α] {f : α → List Value} {t ty : TypeId} {x y : Operand} (ho : o.op = .binOp .neq t x y ty) {p q : α} (hx : evl l x = some (.agg (f p).toArray)) (hy : evl l y = some (.agg (f q).toArray)) {ks : List Sc} (he : EQ t ks) (hf : EQF f ks) : RT o l L n (.bool (decide (p ≠ q))) := by
  have := rt_neq (L := L) (n := n) ho hx hy he (hf.k p q)
  simpa using this
/-- Of what is known of a frame, all but these slots. -/
def restO : List Nat → List (Nat × Value) → Option (List (Nat × Value))
  | _, [] => some []
  | ds, (s, v) :: r => match hasN ds s, restO ds r with
    | true, some r' => some r'
    | false, some r' => some ((s, v) :: r')
    | _, none => none
theorem restO_look : ∀ (l : List (Nat × Value)) (ds : List Nat) {l' : List (Nat × Value)}, restO ds l = some l' → ∀ t v, look l' t = some v → hasN ds t = false ∧ look l t = some v
  | [], ds, l', h, t, v, ht => by simp [restO] at h; subst h; simp [look] at ht
  | (s, u) :: r, ds, l', h, t, v, ht => by
    simp only [restO] at h
    cases hk : hasN ds s with
    | true =>
      rw [hk] at h
      cases hr : restO ds r with
      | none => rw [hr] at h; cases h
      | some r' =>
        rw [hr] at h
        obtain rfl := Option.some.inj h
        obtain ⟨h1, h2⟩ := restO_look r ds hr t v ht
        refine ⟨h1, ?_⟩
        have hst : s ≠ t := fun e => by rw [e, h1] at hk; cases hk
        simp only [look, nbeq hst]; exact h2
    | false =>
      rw [hk] at h
      cases hr : restO ds r with
      | none => rw [hr] at h; cases h
      | some r' =>
        rw [hr] at h
        obtain rfl := Option.some.inj h
        simp only [look] at ht ⊢
        by_cases hst : s = t
        · subst hst
          rw [show Nat.beq s s = true from Nat.beq_refl s] at ht ⊢
          exact ⟨hk, ht⟩
        · rw [nbeq hst] at ht ⊢
          exact restO_look r ds hr t v ht
def slotsL : List (Nat × Value) → List Nat
  | [] => []
  | (s, _) :: r => s :: slotsL r
theorem look_append : ∀ (l r : List (Nat × Value)) (t : Nat), look (l ++ r) t = (match look l t with | some v => some v | none => look r t)
  | [], r, t => rfl
  | (s, v) :: l, r, t => by
    simp only [List.cons_append, look]
    by_cases hst : s = t
    · subst hst
      rw [show Nat.beq s s = true from Nat.beq_refl s]; rfl
    · rw [nbeq hst]
      exact look_append l r t
/-- These parts taken out of memory; the others. -/
inductive Pulls : List Asn → List Asn → List Asn → Prop where
  | nil {L : List Asn} : Pulls L [] L
  | cons {L L1 R As : List Asn} {A : Asn} : Pull L A L1 → Pulls L1 As R → Pulls L (A :: As) R
theorem Mem.pulls {L As R : List Asn} {w : World} (h : Pulls L As R) (M : Mem w L) : Mem w (As ++ R) := by
  have key : ∀ {L As R : List Asn}, Pulls L As R → ∀ {s : List Nat} {w : World}, Sat L s w → ∃ s', Sat (As ++ R) s' w ∧ ∀ b ∈ s', b ∈ s := by
    intro L As R h
    induction h with
    | nil => exact fun hs => ⟨_, hs, fun _ h => h⟩
    | cons hp _ ih =>
      intro s w hs
      obtain ⟨s1, k1, k2⟩ := hs.pull hp
      cases k1 with
      | @cons _ _ sa ra _ m1 m2 m3 =>
        obtain ⟨s2, q1, q2⟩ := ih m2
        refine ⟨_, .cons m1 q1 fun b hb hm => m3 b hb (q2 b hm), fun b hb => ?_⟩
        rcases List.mem_append.1 hb with hb | hb
        · exact (k2 b).1 (by simp [hb])
        · exact (k2 b).1 (by simp [q2 b hb])
  obtain ⟨s, hs⟩ := M
  obtain ⟨s', h1, _⟩ := key h hs
  exact ⟨s', h1⟩
/-- A loop. dl, dL: what turns of the frame and of memory, by the ghost state; fg: slots that are forgotten; all else stays. -/
theorem svLoop {c : Code} {σ : Type} (F : Fr a n l) (M : Mem w L) (s0 : σ) (dl : σ → List (Nat × Value)) (dL : σ → List Asn) (Pf : σ → Prop) (μ : σ → Nat) (fg : List Nat) {st : List (Nat × Value)} {R : List Asn} (hP : Pf s0)
    (round : ∀ s, Pf s → ∀ a w, Fr a n (dl s ++ st) → Mem w (dL s ++ R) → c.wp Tryz.prog (Exit.then (fun a' w' => ∃ s', (Fr a' n (dl s' ++ st) ∧ Mem w' (dL s' ++ R) ∧ Pf s') ∧ μ s' < μ s) Q) a w)
    (hs : restO (fg ++ slotsL (dl s0)) l = some st := by exact rfl) (h0 : ∀ p ∈ dl s0, look l p.1 = some p.2 := by (first | (focus ((repeat (first | exact keep_nil | (apply keep_cons; (exact rfl)))); done)) | fail)) (hR : Pulls L (dL s0) R := by (first | (focus ((repeat (first | exact Pulls.nil | (apply Pulls.cons; (focus ((repeat (first | exact Pull.here | apply Pull.there)); done))))); done)) | fail)) : (Code.loop c).wp Tryz.prog Q a w :=
  wp_loop_ghost (fun s a w => Fr a n (dl s ++ st) ∧ Mem w (dL s ++ R) ∧ Pf s) μ (fun s a w ⟨h1, h2, h3⟩ => round s h3 a w h1 h2) s0 ⟨⟨F.ds, F.size, fun t v ht => by
    rw [look_append] at ht
    have F1 := F.keep h0
    cases hl : look (dl s0) t with
    | some u =>
      rw [hl] at ht
      obtain rfl := Option.some.inj ht
      exact F1.val t u hl
    | none =>
      rw [hl] at ht
      exact F.val t v (restO_look l _ hs t v ht).2⟩, Mem.pulls hR M, hP⟩
theorem own_sl {e : TypeId} {size : Nat} {v : Value} {m : Nat} {xs : List Value} {L' : List Asn} {w : World} (M : Mem w (own e size v m xs :: L')) : ∃ h, v = sl h := by
  obtain ⟨r, hs, _⟩ := M.head
  rcases hs.2 with ⟨rfl, _, _⟩ | ⟨g, cap, cur, rfl, _⟩
  · exact ⟨⟨none, 0, 0⟩, rfl⟩
  · exact ⟨⟨some ⟨g, 0, none⟩, m, cap⟩, rfl⟩
/-- Append of elements. -/
theorem ac_appendH {α : Type} {f : α → List Value} {x y : Operand} {t : TypeId} {ats : Array TypeId} (ho : o.op = .call { callee := .builtin .append, args := #[x, y], argTypes := ats }) (hat : ats = #[t, t]) {e : TypeId} {z : Value} {k bytes : Nat} (ht : ST t e z k bytes) {v : Value} (hx : evl l x = some v) {u : Value} (hy : evl l y = some u)
    {xs ys : List α} {L' : List Asn} (hp : Pull L (ownT e f k v xs) L') (he : EL f k) {m : Nat} {cs : List Value} (hg : GS L k u m cs) (hm : m = ys.length) (hcs : cs = ys.flatMap f) (hb : (xs.length + ys.length) * (bytes + 1) ≤ 140737488355328)
    (h : ∀ v', C (sl v') (ownT e f k (sl v') (xs ++ ys) :: L')) : AC o l L n C := fun G a w F M => by
  subst hat; subst hm; subst hcs
  have hb1 : (xs.length + ys.length) * bytes ≤ 140737488355328 := Nat.le_trans (Nat.mul_le_mul_left _ (Nat.le_succ _)) hb
  have hb2 : xs.length + ys.length ≤ 140737488355328 := Nat.le_trans (Nat.le_mul_of_pos_right _ (Nat.succ_pos _)) hb
  obtain ⟨v', w', hr, hM⟩ := append_run (ty := o.type) ht (M.pull (hp.app G)) (hg w M.drop_app) (flat_one ys) (by simp only [maxLen]; omega) hb1
  have : (execOp a.eval o).run Tryz.prog w = .ok (.value v') w' := by
    unfold execOp
    rw [ho]
    simp [resolve, invoke, builtin, F.eval hx, F.eval hy, hr]
  rw [this]
  obtain ⟨h', rfl⟩ := own_sl hM
  have := h h'
  rw [ownT, List.length_append, List.flatMap_append] at this
  exact ⟨_, this, hM⟩
end
end Go.Proofs.YtopbohbkhljjgaaGreat
end
section
namespace Go.Proofs.YtopbohbkhljjgaaGreat
open Go.RowKit
set_option linter.unusedVariables false
set_option maxRecDepth 100000
set_option maxHeartbeats 1000000
section
variable {o : Oper} {n : Nat} {l : List (Nat × Value)} {L : List Asn} {C : Value → List Asn → Prop}
theorem own_set {w : World} {e : TypeId} {size m : Nat} {v : Value} {xs : List Value} {s : List Nat} (h : Ok (own e size v m xs) s w) {p : Nat} {u : Value} (hp : p < xs.length) : ∃ b, v = .slice (some ⟨b, 0, none⟩) m (match v with | .slice _ _ c => c | _ => 0) ∧ (∃ z, w.cell? ⟨b, p, none⟩ = some z) ∧ w.frozen? ⟨b, p, none⟩ = false ∧ Chg s w (w.setCell ⟨b, p, none⟩ u) ∧ Ok (own e size v m (xs.set p u)) s (w.setCell ⟨b, p, none⟩ u) := by
  obtain ⟨h1, h2⟩ := h.now
  rcases h2 with ⟨_, rfl, _⟩ | ⟨g, cap, cur, rfl, rfl, hg, hn, hc, hs, ht⟩
  · omega
  · have hpc : p < cur.size := by
      have : (cur.toList.take (m * size)).length = xs.length := by rw [ht]
      rw [List.length_take, Array.length_toList] at this; omega
    have e1 : w.setCell ⟨g, p, none⟩ u = w.setRow g (cur.toList.set p u).toArray := setCell_row (cs := cur.toList) (by simpa using hg)
    refine ⟨g, rfl, ⟨cur[p], by simp [World.cell?, hg, hpc]⟩, by simp [World.frozen?, hg], ?_, ?_⟩
    · rw [e1]; exact chg_setRow
    · rw [e1]
      refine ok_own (by simpa using h1) (setRow_heap w g _ _ e _ hg) hn hc (by simpa using hs) ?_
      simp only [List.toList_toArray]
      rw [List.take_set, ht]
theorem Mem.ok {A : Asn} {L : List Asn} {w : World} (M : Mem w (A :: L)) : ∃ s, Ok A s w := by
  obtain ⟨s, hs⟩ := M
  cases hs with
  | cons h1 _ _ => exact ⟨_, h1⟩
theorem flat_lenE {α : Type} {f : α → List Value} {k : Nat} (he : EL f k) : ∀ xs : List α, (xs.flatMap f).length = xs.length * k
  | [] => by simp
  | x :: r => by rw [List.flatMap_cons, List.length_append, he.len, flat_lenE he r, List.length_cons, Nat.succ_mul]; omega
/-- Store a cell of an element. -/
theorem ac_storeE {α : Type} {f : α → List Value} {t : TypeId} {x y : Operand} (ho : o.op = .store t x y) {v : Value} {j k i : Nat} (hx : evl l x = some (.pointer (some ⟨vb v, vo v + j * k + i, none⟩))) (hkt : KT t none) {u : Value} (hy : evl l y = some u) (hu : u.oneCell' = true)
    {e : TypeId} {xs : List α} {L2 : List Asn} {z : α} (hz : xs[j]? = some z) (he : EL f k) (hi : Nat.ble (i + 1) k = true) (y' : α) (hf : f y' = (f z).set i u) (hp : Rep L (ownT e f k v xs) (ownT e f k v (xs.set j y')) L2) (h : C undef L2) : AC o l L n C := fun G a w F M => by
  have hi' : i < k := Nat.le_of_ble_eq_true hi
  obtain ⟨L', h1, h2⟩ := hp.both
  have hj : j < xs.length := (List.getElem?_eq_some_iff.1 hz).1
  have hlen := flat_lenE he xs
  have hpl : j * k + i < (xs.flatMap f).length := by
    rw [hlen]
    have : (j + 1) * k ≤ xs.length * k := Nat.mul_le_mul_right k hj
    rw [Nat.succ_mul] at this; omega
  obtain ⟨s, hs⟩ := (M.pull (h1.app G)).ok
  obtain ⟨b, hv, ⟨c, hc⟩, hfz, _, _⟩ := own_set (u := u) hs hpl
  have hvb : vb v = b ∧ vo v = 0 := by rw [hv]; exact ⟨rfl, rfl⟩
  rw [hvb.1, hvb.2, Nat.zero_add] at hx
  have : (execOp a.eval o).run Tryz.prog w = .ok .skip (w.setCell ⟨b, j * k + i, none⟩ u) := by
    unfold execOp
    rw [ho]
    simp [F.eval hx, F.eval hy, Instr.storeAt, Instr.sureAddr, run_storeVar_one hc hfz hu]
  rw [this]
  refine ⟨L2, h, M.rep (hp.app G) fun s hs => ?_⟩
  obtain ⟨b', hv', _, _, hcg, hok⟩ := own_set (u := u) hs hpl
  obtain rfl : b' = b := by
    have := hv.symm.trans hv'
    simp at this
    exact this.1.symm
  refine ⟨hcg, s, ?_, fun b hb => .inl hb⟩
  rw [flat_set he.len xs j i z u hz hi' y' hf] at hok
  unfold ownT
  rw [List.length_set]
  exact hok
end
end Go.Proofs.YtopbohbkhljjgaaGreat
end
section
namespace Go.Proofs.YtopbohbkhljjgaaGreat
open Go.RowKit Go.Maps
open Go.ChangeMaps (setBlock)
def pairs (es : Array MapEntry) : List (Value × Value) := es.toList.map fun e => (e.key, e.val)
/-- The stamps of a map's entries. -/
def BornOK (es : Array MapEntry) (clk : Nat) : Prop := (es.toList.map (·.born)).Nodup ∧ ∀ e ∈ es.toList, e.born < clk
theorem BornOK.nil (clk : Nat) : BornOK #[] clk := ⟨by simp, by simp⟩
/-- Block b is a map with keys of type K that holds just the pairs L. -/
def MapIs (P : Program) (K : TypeId) (w : World) (b : Nat) (L : List (Value × Value)) : Prop :=
  ∃ es clk, w.heap[b]? = some (.map es clk) ∧ (pairs es).Perm L ∧ (∀ p ∈ L, ∃ l, keyOf P K p.1 = some l) ∧ (L.map (·.1)).Nodup ∧ BornOK es clk
theorem MapIs.perm {P : Program} {K : TypeId} {w : World} {b : Nat} {L L' : List (Value × Value)} (h : MapIs P K w b L) (hp : L.Perm L') : MapIs P K w b L' := by
  obtain ⟨es, clk, h1, h2, h3, h4⟩ := h
  exact ⟨es, clk, h1, h2.trans hp, fun p hm => h3 p (hp.mem_iff.2 hm), (hp.map _).nodup_iff.1 h4.1, h4.2⟩
theorem MapIs.of_block {P : Program} {K : TypeId} {w w' : World} {b : Nat} {L : List (Value × Value)} (h : MapIs P K w b L) (e : w'.heap[b]? = w.heap[b]?) : MapIs P K w' b L := by
  obtain ⟨es, clk, h1, h2⟩ := h
  exact ⟨es, clk, e.trans h1, h2⟩
theorem MapIs.lt {P : Program} {K : TypeId} {w : World} {b : Nat} {L : List (Value × Value)} (h : MapIs P K w b L) : b < w.heap.size := by
  obtain ⟨es, clk, h1, _⟩ := h
  exact (Array.getElem?_eq_some_iff.1 h1).1
/-- The world but for block b. -/
structure Touch (b : Nat) (w w' : World) : Prop where
  os : w'.os = w.os
  tape : w'.tape = w.tape
  output : w'.output = w.output
  drawn : w'.drawn = w.drawn
  size : w'.heap.size = w.heap.size
  block : ∀ k, k ≠ b → w'.heap[k]? = w.heap[k]?
theorem touch_setBlock (w : World) (b : Nat) (o : Obj) : Touch b w (setBlock w b o) := by
  refine ⟨rfl, rfl, rfl, rfl, by simp [setBlock], fun k hk => ?_⟩
  simp [setBlock, Array.getElem?_setIfInBounds, Ne.symm hk]
theorem nodup_val {L : List (Value × Value)} (hn : (L.map (·.1)).Nodup) {k v v' : Value} (h : (k, v) ∈ L) (h' : (k, v') ∈ L) : v = v' := by
  induction L with
  | nil => cases h
  | cons p L ih =>
    rw [List.map_cons, List.nodup_cons] at hn
    rcases List.mem_cons.1 h with h4 | h4 <;> rcases List.mem_cons.1 h' with h5 | h5
    · rw [← h4] at h5; exact (congrArg Prod.snd h5).symm
    · exfalso; apply hn.1; rw [← h4]; exact List.mem_map.2 ⟨_, h5, rfl⟩
    · exfalso; apply hn.1; rw [← h5]; exact List.mem_map.2 ⟨_, h4, rfl⟩
    · exact ih hn.2 h4 h5
section
variable {P : Program} {w : World} {b : Nat} {L : List (Value × Value)} {T K E : TypeId}
theorem run_mapUpdate_new (hT : P.underlying T = some (.map K E)) (hK : Keyed P K) {k v : Value} {l : Lit} (hk : keyOf P K k = some l) (hm : MapIs P K w b L) (hnew : ∀ p ∈ L, p.1 ≠ k) :
    ∃ w', (Instr.mapUpdate T (.map (some b)) k v).run P w = .ok () w' ∧ MapIs P K w' b ((k, v) :: L) ∧ Touch b w w' := by
  obtain ⟨es, clk, hb, hp, hl, hn⟩ := hm
  have hkeys : ∀ e ∈ es.toList, ∃ l, keyOf P K e.key = some l := fun e he => hl (e.key, e.val) (hp.mem_iff.1 (List.mem_map.2 ⟨e, he, rfl⟩))
  rcases hK.find w hk es.toList hkeys with ⟨h1, _⟩ | ⟨j, e, _, h2, h3⟩
  · refine ⟨setBlock w b (.map (es.push { key := k, val := v, born := clk }) (clk + 1)), ?_, ⟨es.push { key := k, val := v, born := clk }, clk + 1, ?_, ?_, ?_, ?_, ?_⟩, touch_setBlock w b _⟩
    · simp [Instr.mapUpdate, run_underlying hT, MapKept.run_getObj_map hb, hK.check w false hk, h1, MapKept.run_setObj_map _ hb, Result.andThen, setBlock]
    · have := (Array.getElem?_eq_some_iff.1 hb).1
      simp [setBlock, this]
    · simp only [pairs, Array.toList_push, List.map_append, List.map_cons, List.map_nil]
      exact (List.perm_append_singleton _ _).trans (List.Perm.cons _ hp)
    · intro p hp'
      rcases List.mem_cons.1 hp' with rfl | hp'
      · exact ⟨l, hk⟩
      · exact hl p hp'
    · rw [List.map_cons, List.nodup_cons]
      exact ⟨fun hmem => by obtain ⟨p, hp1, hp2⟩ := List.mem_map.1 hmem; exact hnew p hp1 hp2, hn.1⟩
    · refine ⟨?_, ?_⟩
      · simp only [Array.toList_push, List.map_append, List.map_cons, List.map_nil]
        refine List.nodup_append.2 ⟨hn.2.1, by simp, fun x hx y hy => ?_⟩
        obtain ⟨e, he, rfl⟩ := List.mem_map.1 hx
        have := hn.2.2 e he
        simp at hy
        omega
      · intro e he
        rw [Array.toList_push, List.mem_append] at he
        rcases he with he | he
        · have := hn.2.2 e he; omega
        · simp at he; subst he; exact Nat.lt_succ_self _
  · exfalso
    exact hnew (e.key, e.val) (hp.mem_iff.1 (List.mem_map.2 ⟨e, List.mem_of_getElem? h2, rfl⟩)) h3
/-- 'v, ok := m[k]' -/
theorem run_lookup_hit (hT : P.underlying T = some (.map K E)) (hK : Keyed P K) {k v : Value} {l : Lit} (hk : keyOf P K k = some l) (hm : MapIs P K w b L) (hin : (k, v) ∈ L) (ok : Bool) :
    (Instr.lookup T (.map (some b)) k ok).run P w = .ok (if ok then .tuple #[v, .bool true] else v) w := by
  obtain ⟨es, clk, hb, hp, hl, hn⟩ := hm
  have hkeys : ∀ e ∈ es.toList, ∃ l, keyOf P K e.key = some l := fun e he => hl (e.key, e.val) (hp.mem_iff.1 (List.mem_map.2 ⟨e, he, rfl⟩))
  rcases hK.find w hk es.toList hkeys with ⟨_, h1⟩ | ⟨j, e, h1, h2, h3⟩
  · exfalso
    obtain ⟨e, he, hkv⟩ := List.mem_map.1 (hp.mem_iff.2 hin)
    exact h1 e he (congrArg Prod.fst hkv)
  · have hv : e.val = v := by
      have hmem : (e.key, e.val) ∈ L := hp.mem_iff.1 (List.mem_map.2 ⟨e, List.mem_of_getElem? h2, rfl⟩)
      rw [h3] at hmem
      exact nodup_val hn.1 hmem hin
    cases ok <;> simp [Instr.lookup, run_underlying hT, MapKept.run_getObj_map hb, hK.check w _ hk, h1, hv, Result.andThen]
theorem run_lookup_miss (hT : P.underlying T = some (.map K E)) (hK : Keyed P K) {k z : Value} {l : Lit} (hk : keyOf P K k = some l) (hm : MapIs P K w b L) (hno : ∀ p ∈ L, p.1 ≠ k) (hz : (zeroValue E).run P w = .ok z w) (ok : Bool) :
    (Instr.lookup T (.map (some b)) k ok).run P w = .ok (if ok then .tuple #[z, .bool false] else z) w := by
  obtain ⟨es, clk, hb, hp, hl, hn⟩ := hm
  have hkeys : ∀ e ∈ es.toList, ∃ l, keyOf P K e.key = some l := fun e he => hl (e.key, e.val) (hp.mem_iff.1 (List.mem_map.2 ⟨e, he, rfl⟩))
  rcases hK.find w hk es.toList hkeys with ⟨h1, _⟩ | ⟨j, e, _, h2, h3⟩
  · cases ok <;> simp [Instr.lookup, run_underlying hT, MapKept.run_getObj_map hb, hK.check w _ hk, h1, hz, Result.andThen]
  · exfalso
    exact hno (e.key, e.val) (hp.mem_iff.1 (List.mem_map.2 ⟨e, List.mem_of_getElem? h2, rfl⟩)) h3
end
/-! ### A map literal -/
inductive Lk where
  | make
  | ins (k v : Value)
  | val
def Lk.entry : Lk → Option (Value × Value)
  | .ins k v => some (k, v)
  | _ => none
/-- One operation of the literal. -/
def LitOp (P : Program) (A : Act) (m : Tmp) (mt K : TypeId) (m0 : Nat) (o : Oper) : Lk → Prop
  | .make => o.op = .makeMap mt none ∧ o.dst = some m ∧ o.guard = none
  | .ins k v => ∃ kx vx, o.op = .insert mt (.tmp m) kx vx ∧ o.dst = none ∧ o.guard = none ∧ A.eval kx = k ∧ A.eval vx = v ∧ (o.after.toList.any fun e => Region.binds .any e && e.on == m0) = true ∧ ∃ l, keyOf P K k = some l
  | .val => o.guard = none ∧ ∃ v, (∀ d, o.dst = some d → v = A.tmps.getD d undef) ∧ ∀ w', (execOp A.eval o).run P w' = .ok (.value v) w'
def LitAll (P : Program) (A : Act) (m : Tmp) (mt K : TypeId) (m0 : Nat) : List Oper → List Lk → Nat → Prop
  | [], [], _ => True
  | o :: os, k :: ks, i => (LitOp P A m mt K m0 o k ∧ (k = .make ↔ i = m0)) ∧ LitAll P A m mt K m0 os ks (i + 1)
  | _, _, _ => False
theorem litAll_at {P : Program} {A : Act} {m : Tmp} {mt K : TypeId} {m0 : Nat} : ∀ {os : List Oper} {ks : List Lk} {i : Nat}, LitAll P A m mt K m0 os ks i → ks.length = os.length ∧ ∀ j o, os[j]? = some o → ∃ k, ks[j]? = some k ∧ LitOp P A m mt K m0 o k ∧ (k = .make ↔ i + j = m0)
  | [], [], _, _ => ⟨rfl, by simp⟩
  | o :: os, k :: ks, i, h => by
    obtain ⟨h1, h2⟩ := litAll_at h.2
    refine ⟨by simp [h1], fun j p hp => ?_⟩
    cases j with
    | zero => simp at hp; subst hp; exact ⟨k, rfl, h.1.1, by simpa using h.1.2⟩
    | succ j =>
      obtain ⟨k', e1, e2, e3⟩ := h2 j p (by simpa using hp)
      exact ⟨k', by simpa using e1, e2, by rw [e3]; omega⟩
  | [], _ :: _, _, h => h.elim
  | _ :: _, [], _, h => h.elim
/-- The entries of the operations that have been carried out. -/
def done (ks : List Lk) (listed : Array Bool) : List (Value × Value) :=
  (ks.zip listed.toList).filterMap fun p => if p.2 then p.1.entry else none
theorem done_none (ks : List Lk) (n : Nat) : done ks (Array.replicate n false) = [] := by
  unfold done
  rw [List.filterMap_eq_nil_iff]
  rintro ⟨k, b⟩ hp
  have := (List.of_mem_zip hp).2
  simp at this
  simp [this]
theorem done_all (ks : List Lk) : done ks (Array.replicate ks.length true) = ks.filterMap Lk.entry := by
  unfold done
  induction ks with
  | nil => rfl
  | cons k ks ih =>
    simp only [Array.toList_replicate, List.length_cons, List.replicate_succ, List.zip_cons_cons, List.filterMap_cons] at ih ⊢
    rw [ih]
    rfl
theorem done_set {ks : List Lk} {listed : Array Bool} (hl : listed.size = ks.length) {i : Nat} {k : Lk} (hk : ks[i]? = some k) (hf : listed.getD i true = false) :
    (done ks (listed.setIfInBounds i true)).Perm (k.entry.toList ++ done ks listed) := by
  have hlt : i < ks.length := (List.getElem?_eq_some_iff.1 hk).1
  have hf' : listed.toList[i]? = some false := by
    have : listed[i]'(by omega) = false := by simpa [hl, hlt] using hf
    simp [hl, hlt, this]
  have hl' : listed.toList.length = ks.length := by simpa using hl
  unfold done
  rw [Array.toList_setIfInBounds]
  generalize listed.toList = l at *
  clear hf hl hlt
  induction ks generalizing i l with
  | nil => simp at hk
  | cons k' ks ih =>
    cases l with
    | nil => simp at hl'
    | cons b l =>
      cases i with
      | zero =>
        simp at hk hf'
        subst hk; subst hf'
        simp only [List.set_cons_zero, List.zip_cons_cons, List.filterMap_cons]
        cases k'.entry <;> simp
      | succ i =>
        simp only [List.set_cons_succ, List.zip_cons_cons, List.filterMap_cons]
        have h1 := ih (by simpa using hk) l (by simpa using hf') (by simpa using hl')
        cases (if b = true then k'.entry else none) with
        | none => exact h1
        | some x =>
          simp only []
          refine (List.Perm.cons x h1).trans ?_
          exact (List.perm_middle (a := x) (l₁ := k.entry.toList)).symm
theorem done_mem {ks : List Lk} {listed : Array Bool} (hl : listed.size = ks.length) {p : Value × Value} (h : p ∈ done ks listed) : ∃ j k, ks[j]? = some k ∧ k.entry = some p ∧ listed.getD j true = true := by
  unfold done at h
  obtain ⟨⟨k, b⟩, h1, h2⟩ := List.mem_filterMap.1 h
  obtain ⟨j, hj⟩ := List.getElem?_of_mem h1
  rw [List.getElem?_zip_eq_some] at hj
  obtain ⟨h3, h4⟩ := hj
  cases b with
  | false => simp at h2
  | true =>
    refine ⟨j, k, h3, by simpa using h2, ?_⟩
    have hlt : j < listed.size := by
      have := (List.getElem?_eq_some_iff.1 h4).1; simpa using this
    simp only [Array.getElem?_toList] at h4
    rw [Array.getElem?_eq_getElem hlt] at h4
    simp [hlt, Option.some.inj h4]
theorem run_makeMap_none {P : Program} {mt K E : TypeId} (hT : P.underlying mt = some (.map K E)) (w : World) : (Instr.makeMap mt none).run P w = .ok (.map (some w.heap.size)) (w.alloc (.map #[] 0)) := by
  simp [Instr.makeMap]
theorem rest_of {ops : Array Oper} {a0 : Act} {T : Array Value} (vals : List (Tmp × Value)) (h : vals.foldl (fun a p => a.setIfInBounds p.1 p.2) a0.tmps = T) (slots : List Tmp) (hs : vals.map (·.1) = slots) (hw' : (slots.all fun d => ops.toList.any fun o => o.dst == some d) = true) :
    ∀ t, (∀ (j : Nat) (o : Oper), ops[j]? = some o → o.dst ≠ some t) → T.getD t undef = a0.tmps.getD t undef := by
  intro t ht
  subst h
  have hw : (vals.all fun p => ops.toList.any fun o => o.dst == some p.1) = true := by rw [← hw', ← hs, List.all_map]; rfl
  clear hw' hs
  generalize a0.tmps = tm
  induction vals generalizing tm with
  | nil => rfl
  | cons p vals ih =>
    simp only [List.all_cons, Bool.and_eq_true] at hw
    rw [List.foldl_cons, ih hw.2]
    obtain ⟨o, ho, hd⟩ := List.any_eq_true.1 hw.1
    obtain ⟨j, hj⟩ := List.getElem?_of_mem ho
    have hne : p.1 ≠ t := fun e => ht j o (by simpa using hj) (by rw [← e]; simpa using hd)
    simp [Array.getElem?_setIfInBounds, hne]
theorem wp_region_map {P : Program} {ops : Array Oper} {a0 : Act} {id : Nat} {Q : Exit → Act → World → Prop} {w : World} {mt K E : TypeId} (hT : P.underlying mt = some (.map K E)) (hK : Keyed P K) (m : Tmp) (m0 : Nat) (ks : List Lk) (T : Array Value)
    (hm : P.follows .mixedOrders = true) (hB : fixB ops = true) (hd : (ops.toList.all fun o => match o.dst with | none => true | some d => decide (d < a0.tmps.size)) = true) (hsz : T.size = a0.tmps.size)
    (hrest : ∀ t, (∀ (j : Nat) (o : Oper), ops[j]? = some o → o.dst ≠ some t) → T.getD t undef = a0.tmps.getD t undef) (hTm : T.getD m undef = .map (some w.heap.size))
    (hall : LitAll P ⟨T, a0.defers⟩ m mt K m0 ops.toList ks 0) (hnd : ((ks.filterMap Lk.entry).map (·.1)).Nodup) (hm0 : m0 < ops.size)
    (hQ : ∀ w', Below w.heap.size w w' → w'.heap.size = w.heap.size + 1 → MapIs P K w' w.heap.size (ks.filterMap Lk.entry) → Q .normal ⟨T, a0.defers⟩ w') : (Code.region id ops true).wp P Q a0 w := by
  obtain ⟨hlen, hat⟩ := litAll_at hall
  have hlen' : ks.length = ops.size := by simpa using hlen
  have hat' : ∀ (j : Nat) (o : Oper), ops[j]? = some o → ∃ k, ks[j]? = some k ∧ LitOp P ⟨T, a0.defers⟩ m mt K m0 o k ∧ (k = .make ↔ j = m0) := fun j o ho => by
    have := hat j o (by simpa using ho)
    simpa using this
  have hkeys : ∀ p ∈ ks.filterMap Lk.entry, ∃ l, keyOf P K p.1 = some l := fun p hp => by
    obtain ⟨k, hk, he⟩ := List.mem_filterMap.1 hp
    obtain ⟨j, hj⟩ := List.getElem?_of_mem hk
    have hlt : j < ops.size := by rw [← hlen']; exact (List.getElem?_eq_some_iff.1 hj).1
    obtain ⟨k', e1, e2, _⟩ := hat' j ops[j] (Array.getElem?_eq_getElem hlt)
    rw [hj] at e1; cases e1
    cases k with
    | ins kk vv =>
      simp [Lk.entry] at he
      subst he
      obtain ⟨_, _, _, _, _, _, _, _, h⟩ := e2
      exact h
    | make => simp [Lk.entry] at he
    | val => simp [Lk.entry] at he

  have hone : ∀ (i j : Nat) (k v v' : Value), ks[i]? = some (Lk.ins k v) → ks[j]? = some (Lk.ins k v') → i = j := by
    clear hat' hat hall hlen hlen' hkeys hQ
    intro i j k v v' hi hj
    induction ks generalizing i j with
    | nil => simp at hi
    | cons x ks ih =>
      have hnd' : ((ks.filterMap Lk.entry).map (·.1)).Nodup := by
        cases hx : x.entry with
        | none => simpa [List.filterMap_cons, hx] using hnd
        | some p => simp only [List.filterMap_cons, hx, List.map_cons, List.nodup_cons] at hnd; exact hnd.2
      have hin : ∀ {n : Nat} {u : Value}, ks[n]? = some (Lk.ins k u) → k ∈ (ks.filterMap Lk.entry).map (·.1) := fun {n u} h =>
        List.mem_map.2 ⟨(k, u), List.mem_filterMap.2 ⟨_, List.mem_of_getElem? h, rfl⟩, rfl⟩
      cases i with
      | zero =>
        cases j with
        | zero => rfl
        | succ j =>
          exfalso
          simp at hi hj
          subst hi
          simp only [List.filterMap_cons, Lk.entry, List.map_cons, List.nodup_cons] at hnd
          exact hnd.1 (hin hj)
      | succ i =>
        cases j with
        | zero =>
          exfalso
          simp at hi hj
          subst hj
          simp only [List.filterMap_cons, Lk.entry, List.map_cons, List.nodup_cons] at hnd
          exact hnd.1 (hin hi)
        | succ j => rw [ih hnd' i j (by simpa using hi) (by simpa using hj)]
  refine wp_region_fix (fun listed w' => Below w.heap.size w w' ∧ (listed.getD m0 false = false → w'.heap.size = w.heap.size ∧ done ks listed = []) ∧
      (listed.getD m0 false = true → w'.heap.size = w.heap.size + 1 ∧ MapIs P K w' w.heap.size (done ks listed))) T hm hB (fun i o d ho hdd => ?_) hsz hrest ?_ ?_ (fun w' hJ => ?_)
  · have h1 := List.all_eq_true.1 hd o (by simpa using Array.mem_of_getElem? ho)
    rw [hdd] at h1
    simpa using h1
  · refine ⟨⟨rfl, rfl, rfl, Nat.le_refl _, fun _ _ => rfl⟩, fun _ => ⟨rfl, done_none _ _⟩, fun h => ?_⟩
    simp [hm0] at h
  · intro i o listed w1 ho hls hun hedge ⟨hb, hJ1, hJ2⟩
    have hlt : i < ops.size := (Array.getElem?_eq_some_iff.1 ho).1
    obtain ⟨k, hk, hop, hmk⟩ := hat' i o ho
    have hperm := done_set (by rw [hls, hlen']) hk hun
    have hset : ∀ j, j ≠ i → (listed.setIfInBounds i true).getD j false = listed.getD j false := fun j hj => getD_set_ne false (Ne.symm hj)
    cases k with
    | make =>
      obtain ⟨h1, h2, h3⟩ := hop
      have hi0 := hmk.1 rfl
      subst hi0
      have hfalse : listed.getD i false = false := by simpa [hls, hlt] using hun
      obtain ⟨hs, hdn⟩ := hJ1 hfalse
      rw [if_pos (by simp [Region.wanted, h3])]
      refine ⟨.map (some w.heap.size), fun d hdd => ?_, ?_⟩
      · rw [h2] at hdd; cases hdd; exact hTm.symm
      · have hrun : (execOp (⟨T, a0.defers⟩ : Act).eval o).run P w1 = .ok (.value (.map (some w.heap.size))) (w1.alloc (.map #[] 0)) := by
          unfold execOp
          simp only [h1, Option.map_none]
          simp [run_makeMap_none hT, hs]
        rw [hrun]
        refine ⟨rfl, hb.alloc (by omega) _, fun h => ?_, fun _ => ⟨by simp [hs], ?_⟩⟩
        · simp [hls, hlt] at h
        · have hd0 : done ks (listed.setIfInBounds i true) = [] := by
            rw [hdn] at hperm
            simpa [Lk.entry] using hperm
          rw [hd0]
          refine ⟨#[], 0, ?_, List.Perm.refl _, by simp, by simp, BornOK.nil 0⟩
          rw [← hs]; exact heap_alloc_new w1 _
    | ins kk vv =>
      obtain ⟨kx, vx, h1, h2, h3, h4, h5, h6, l, h7⟩ := hop
      have hne : m0 ≠ i := fun e => by have := hmk.2 e.symm; cases this
      have hmade : listed.getD m0 false = true := by
        obtain ⟨e, he, hbb⟩ := List.any_eq_true.1 h6
        simp only [Bool.and_eq_true, beq_iff_eq] at hbb
        rw [← hbb.2]
        exact hedge e (by simpa using he) hbb.1
      obtain ⟨hs, hM⟩ := hJ2 hmade
      rw [if_pos (by simp [Region.wanted, h3])]
      obtain ⟨w2, hr, hM2, ht⟩ := run_mapUpdate_new (v := vv) hT hK h7 hM (fun p hp hpk => by
        obtain ⟨j, k', e1, e2, e3⟩ := done_mem (by rw [hls, hlen']) hp
        cases k' with
        | ins k2 v2 =>
          simp [Lk.entry] at e2
          subst e2
          simp only at hpk
          subst hpk
          have := hone _ _ _ _ _ hk e1
          subst this
          rw [hun] at e3; cases e3
        | make => simp [Lk.entry] at e2
        | val => simp [Lk.entry] at e2)
      refine ⟨undef, fun d hdd => (by rw [h2] at hdd; cases hdd), ?_⟩
      have hrun : (execOp (⟨T, a0.defers⟩ : Act).eval o).run P w1 = .ok .skip w2 := by
        unfold execOp
        simp only [h1]
        have hev : (⟨T, a0.defers⟩ : Act).eval (.tmp m) = .map (some w.heap.size) := hTm
        rw [hev, h4, h5]
        simp [hr]
      rw [hrun]
      refine ⟨rfl, hb.trans ⟨ht.os, ht.tape, ht.output, Nat.le_of_eq ht.size.symm, fun k hk' => ht.block k (by omega)⟩, fun h => ?_, fun _ => ⟨by rw [ht.size]; exact hs, hM2.perm ?_⟩⟩
      · rw [hset m0 hne, hmade] at h; cases h
      · exact hperm.symm
    | val =>
      obtain ⟨h1, v, h2, h3⟩ := hop
      have hne : m0 ≠ i := fun e => by have := hmk.2 e.symm; cases this
      rw [if_pos (by simp [Region.wanted, h1])]
      refine ⟨v, h2, ?_⟩
      rw [h3 w1]
      have hp' : (done ks (listed.setIfInBounds i true)).Perm (done ks listed) := by simpa [Lk.entry] using hperm
      refine ⟨rfl, hb, fun h => ?_, fun h => ?_⟩
      · rw [hset m0 hne] at h
        obtain ⟨e1, e2⟩ := hJ1 h
        rw [e2] at hp'
        exact ⟨e1, hp'.eq_nil⟩
      · rw [hset m0 hne] at h
        obtain ⟨e1, e2⟩ := hJ2 h
        exact ⟨e1, e2.perm hp'.symm⟩
  · obtain ⟨hb, _, hJ2⟩ := hJ
    obtain ⟨h1, h2⟩ := hJ2 (by simp [hm0])
    rw [← hlen', done_all] at h2
    exact hQ w' hb h1 h2
end Go.Proofs.YtopbohbkhljjgaaGreat
end
section
namespace Go.Proofs.YtopbohbkhljjgaaGreat
open Go.RowKit Go.Maps
open Go.ChangeMaps (setBlock)
set_option linter.unusedVariables false
set_option maxRecDepth 100000
set_option linter.unusedSimpArgs false
set_option maxHeartbeats 1000000
section
variable {w w' : World} {L L' : List Asn}
theorem Sat.agree' {L : List Asn} {s : List Nat} {w w' : World} (h : Sat L s w) (hw : Agree s w w') : Sat L s w' := by
  induction h with
  | nil => exact .nil w'
  | @cons A L s r w h1 _ h3 ih =>
    refine .cons ⟨fun b hb => ?_, fun w'' hw'' => h1.all w'' ((hw.sub fun x hx => by simp [hx]).trans hw'')⟩ (ih (hw.sub fun x hx => by simp [hx])) h3
    have e := hw.2.2.2 b (by simp [hb])
    have := h1.lt b hb
    rw [Array.getElem?_eq_getElem this] at e
    exact (Array.getElem?_eq_some_iff.1 e).1
theorem Sat.append {L R : List Asn} {s r : List Nat} {w : World} (h : Sat L s w) (k : Sat R r w) (hd : ∀ b ∈ s, b ∉ r) : ∃ t, Sat (L ++ R) t w ∧ ∀ b, b ∈ t ↔ b ∈ s ∨ b ∈ r := by
  induction h with
  | nil => exact ⟨r, k, by simp⟩
  | @cons A L s1 r1 w h1 h2 h3 ih =>
    obtain ⟨t, k1, k2⟩ := ih k fun b hb => hd b (by simp [hb])
    refine ⟨s1 ++ t, .cons h1 k1 fun b hb ht => ?_, fun b => by simp [k2, or_assoc]⟩
    rcases (k2 b).1 ht with h | h
    · exact h3 b hb h
    · exact hd b (by simp [hb]) h
theorem Sat.split {R : List Asn} {w : World} : ∀ {L : List Asn} {t : List Nat}, Sat (L ++ R) t w → ∃ s r, Sat L s w ∧ Sat R r w ∧ (∀ b ∈ s, b ∉ r) ∧ ∀ b, b ∈ t ↔ b ∈ s ∨ b ∈ r
  | [], t, h => ⟨[], t, .nil w, h, by simp, by simp⟩
  | A :: L, t, h => by
    cases h with
    | @cons _ _ s1 r1 _ h1 h2 h3 =>
      obtain ⟨s, r, k1, k2, k3, k4⟩ := Sat.split h2
      refine ⟨s1 ++ s, r, .cons h1 k1 fun b hb hs => h3 b hb ((k4 b).2 (.inl hs)), k2, fun b hb hr => ?_, fun b => by simp [k4, or_assoc]⟩
      rcases List.mem_append.1 hb with hb | hb
      · exact h3 b hb ((k4 b).2 (.inr hr))
      · exact k3 b hb hr
/-- Parts that lie in memory for some x. -/
def exA {α : Type} (f : α → List Asn) : Asn := fun s w => ∃ x, ∃ t, Sat (f x) t w ∧ ∀ b, b ∈ s ↔ b ∈ t
theorem Mem.exo {α : Type} {f : α → List Asn} (M : Mem w (exA f :: L)) : ∃ x, Mem w (f x ++ L) := by
  obtain ⟨s, hs⟩ := M
  cases hs with
  | cons h1 h2 h3 =>
    obtain ⟨x, t, k1, k2⟩ := h1.now
    obtain ⟨u, j, _⟩ := k1.append h2 fun b hb => h3 b ((k2 b).2 hb)
    exact ⟨x, u, j⟩
theorem Mem.exc {α : Type} {f : α → List Asn} (x : α) (M : Mem w (f x ++ L)) : Mem w (exA f :: L) := by
  obtain ⟨s, hs⟩ := M
  obtain ⟨s1, r, k1, k2, k3, _⟩ := hs.split
  exact ⟨s1 ++ r, .cons ⟨k1.lt, fun w' hw => ⟨x, s1, k1.agree' hw, fun _ => Iff.rfl⟩⟩ k2 k3⟩
theorem Mem.open {α : Type} {f : α → List Asn} (M : Mem w L) (h : Pull L (exA f) L') : ∃ x, Mem w (f x ++ L') := (M.pull h).exo
/-- The parts in another order. -/
theorem Pull.mid {A : Asn} : ∀ (X R : List Asn), Pull (X ++ A :: R) A (X ++ R)
  | [], R => .here
  | x :: X, R => .there (Pull.mid X R)
theorem Mem.front {A : Asn} {X R : List Asn} (M : Mem w (X ++ A :: R)) : Mem w (A :: (X ++ R)) := M.pull (.mid X R)
theorem Mem.back {A : Asn} {X R : List Asn} (M : Mem w (A :: (X ++ R))) : Mem w (X ++ A :: R) := M.push (.mid X R)
/-- A plain fact among the parts. -/
def factA (p : Prop) : Asn := fun s _ => s = [] ∧ p
theorem Mem.fact {p : Prop} (h : p) (M : Mem w L) : Mem w (factA p :: L) := M.new ⟨rfl, rfl, rfl, Nat.le_refl _, fun _ _ _ => rfl⟩ ⟨[], ⟨by simp, fun w' _ => ⟨rfl, h⟩⟩, by simp⟩
theorem Mem.factO {p : Prop} (M : Mem w (factA p :: L)) : p ∧ Mem w L := by
  obtain ⟨s, hs, _⟩ := M.head
  exact ⟨hs.2, M.drop⟩
/-- A map. -/
def mp (b : Nat) (K : TypeId) (P : List (Value × Value)) : Asn := fun s w => s = [b] ∧ MapIs Tryz.prog K w b P
theorem ok_mp {b : Nat} {K : TypeId} {P : List (Value × Value)} (h : MapIs Tryz.prog K w b P) : Ok (mp b K P) [b] w :=
  ⟨fun x hx => (show x = b by simpa using hx) ▸ h.lt, fun w' hw => ⟨rfl, h.of_block (hw.2.2.2 b (by simp))⟩⟩
theorem gives_mp {b : Nat} {K : TypeId} {P : List (Value × Value)} (h : Pull L (mp b K P) L') : Gives L fun w => MapIs Tryz.prog K w b P := fun w M => by
  obtain ⟨s, hs, _⟩ := (M.pull h).head
  exact hs.2
theorem mapIs_new (K : TypeId) (w : World) : MapIs Tryz.prog K (w.alloc (.map #[] 0)) w.heap.size [] := ⟨#[], 0, heap_alloc_new w _, by simp [pairs], by simp, by simp, BornOK.nil 0⟩
theorem Touch.chg {b : Nat} (h : Touch b w w') : Chg [b] w w' := ⟨h.os, h.tape, h.output, Nat.le_of_eq h.size.symm, fun k _ hk => h.block k (by simpa using hk)⟩
end
/-- Map types. -/
class MT (t : TypeId) (K E : outParam TypeId) : Prop where
  k : Tryz.prog.underlying t = some (.map K E)
  h : Keyed Tryz.prog K
/-- A type's zero value. -/
class ZV (t : TypeId) (z : outParam Value) : Prop where
  k : (Tryz.prog.info? t).bind (·.zero) = some z
theorem ZV.run {t : TypeId} {z : Value} (h : ZV t z) (w : World) : (zeroValue t).run Tryz.prog w = .ok z w := by
  have := h.k
  cases hi : Tryz.prog.info? t with
  | none => rw [hi] at this; cases this
  | some i =>
    rw [hi] at this
    have : i.zero = some z := this
    simp [zeroValue, typeInfo, hi, this]
section
variable {o : Oper} {n : Nat} {l : List (Nat × Value)} {L : List Asn} {C : Value → List Asn → Prop}
theorem rt_hit {t : TypeId} {x y : Operand} {ok : Bool} (ho : o.op = .lookup t x y ok) {b : Nat} (hx : evl l x = some (.map (some b))) {k : Value} (hy : evl l y = some k) {K E : TypeId} (ht : MT t K E) {P : List (Value × Value)} (hg : Gives L fun w => MapIs Tryz.prog K w b P) {q : Lit} (hk : keyOf Tryz.prog K k = some q) {v : Value} (hin : (k, v) ∈ P) {r : Value} (hr : (if ok = true then .tuple #[v, .bool true] else v) = r) : RT o l L n r := fun a w F M => by
  subst hr
  unfold execOp
  rw [ho]
  simp only [F.eval hx, F.eval hy]
  have := run_lookup_hit ht.k ht.h hk (hg w M) hin ok
  simp [this]
theorem rt_miss {t : TypeId} {x y : Operand} {ok : Bool} (ho : o.op = .lookup t x y ok) {b : Nat} (hx : evl l x = some (.map (some b))) {k : Value} (hy : evl l y = some k) {K E : TypeId} (ht : MT t K E) {P : List (Value × Value)} (hg : Gives L fun w => MapIs Tryz.prog K w b P) {q : Lit} (hk : keyOf Tryz.prog K k = some q) (hno : ∀ p ∈ P, p.1 ≠ k) {z : Value} (hz : ZV E z) {r : Value} (hr : (if ok = true then .tuple #[z, .bool false] else z) = r) : RT o l L n r := fun a w F M => by
  subst hr
  unfold execOp
  rw [ho]
  simp only [F.eval hx, F.eval hy]
  have := run_lookup_miss ht.k ht.h hk (hg w M) hno (hz.run w) ok
  simp [this]
theorem rt_hit1 {t : TypeId} {x y : Operand} (ho : o.op = .lookup t x y false) {b : Nat} (hx : evl l x = some (.map (some b))) {k : Value} (hy : evl l y = some k) {K E : TypeId} (ht : MT t K E) {P : List (Value × Value)} (hg : Gives L fun w => MapIs Tryz.prog K w b P) {q : Lit} (hk : keyOf Tryz.prog K k = some q) {v : Value} (hin : (k, v) ∈ P) : RT o l L n v := rt_hit ho hx hy ht hg hk hin rfl
theorem rt_miss1 {t : TypeId} {x y : Operand} (ho : o.op = .lookup t x y false) {b : Nat} (hx : evl l x = some (.map (some b))) {k : Value} (hy : evl l y = some k) {K E : TypeId} (ht : MT t K E) {P : List (Value × Value)} (hg : Gives L fun w => MapIs Tryz.prog K w b P) {q : Lit} (hk : keyOf Tryz.prog K k = some q) (hno : ∀ p ∈ P, p.1 ≠ k) {z : Value} (hz : ZV E z) : RT o l L n z := rt_miss ho hx hy ht hg hk hno hz rfl
theorem ac_makeMap {t : TypeId} (ho : o.op = .makeMap t none) {K E : TypeId} (ht : MT t K E) (h : ∀ b, C (.map (some b)) (mp b K [] :: L)) : AC o l L n C := fun G a w F M => by
  have : (execOp a.eval o).run Tryz.prog w = .ok (.value (.map (some w.heap.size))) (w.alloc (.map #[] 0)) := by
    unfold execOp
    rw [ho]
    have := run_makeMap_none ht.k w
    simp [this]
  rw [this]
  exact ⟨_, h _, M.new ⟨rfl, rfl, rfl, by simp, fun k hk _ => (((Below.refl _ _).alloc (Nat.le_refl _) _).block k hk)⟩ ⟨[w.heap.size], ok_mp (mapIs_new K w), by simp⟩⟩
theorem ac_mapNew {t : TypeId} {x y z : Operand} (ho : o.op = .mapUpdate t x y z) {b : Nat} (hx : evl l x = some (.map (some b))) {k v : Value} (hy : evl l y = some k) (hz : evl l z = some v) {K E : TypeId} (ht : MT t K E) {q : Lit} (hk : keyOf Tryz.prog K k = some q) {P P' : List (Value × Value)} {L2 : List Asn} (hp : Rep L (mp b K P) (mp b K P') L2) (hno : ∀ p ∈ P, p.1 ≠ k) (hP : ((k, v) :: P).Perm P') (h : C undef L2) : AC o l L n C := fun G a w F M => by
  obtain ⟨L', h1, h2⟩ := hp.both
  obtain ⟨w', e, hm, ht'⟩ := run_mapUpdate_new (v := v) ht.k ht.h hk (gives_mp (h1.app G) w M) hno
  have : (execOp a.eval o).run Tryz.prog w = .ok .skip w' := by
    unfold execOp
    rw [ho]
    simp [F.eval hx, F.eval hy, F.eval hz, e]
  rw [this]
  refine ⟨L2, h, M.rep (hp.app G) fun s hs => ?_⟩
  obtain ⟨rfl, _⟩ := hs.now
  exact ⟨ht'.chg, [b], ok_mp (hm.perm hP), fun x hx => .inl hx⟩
/-- A call that leaves memory as it was. -/
abbrev Keeps (k : FuncId) (us : List Value) (v : Value) (L : List Asn) : Prop := Spec k us L fun u L' => u = v ∧ L' = L
theorem Keeps.head {k : FuncId} {us : List Value} {v : Value} {L : List Asn} (h : Keeps k us v L) (A : Asn) : Keeps k us v (A :: L) := fun G w M => by
  have M : Mem w (L ++ A :: G) := Mem.back M
  refine (h (A :: G) w M).mono ?_
  rintro e w' ⟨u, L', h1, ⟨h2, rfl⟩, M'⟩
  exact ⟨u, _, h1, ⟨h2, rfl⟩, M'.front⟩
end
end Go.Proofs.YtopbohbkhljjgaaGreat
end
section
namespace Go.Proofs.YtopbohbkhljjgaaGreat
instance : TT 9 := ⟨by kernel_rfl⟩
instance : TT 10 := ⟨by kernel_rfl⟩
instance : TT 11 := ⟨by kernel_rfl⟩
instance : PT 15 381 := ⟨by kernel_rfl, by kernel_rfl⟩
instance : PT 16 384 := ⟨by kernel_rfl, by kernel_rfl⟩
instance : PT 17 393 := ⟨by kernel_rfl, by kernel_rfl⟩
instance : PT 52 132 := ⟨by kernel_rfl, by kernel_rfl⟩
instance : PT 81 97 := ⟨by kernel_rfl, by kernel_rfl⟩
instance : PT 92 156 := ⟨by kernel_rfl, by kernel_rfl⟩
instance : PT 93 158 := ⟨by kernel_rfl, by kernel_rfl⟩
instance : PT 95 160 := ⟨by kernel_rfl, by kernel_rfl⟩
instance : PT 109 180 := ⟨by kernel_rfl, by kernel_rfl⟩
instance : PT 113 184 := ⟨by kernel_rfl, by kernel_rfl⟩
instance : PT 115 188 := ⟨by kernel_rfl, by kernel_rfl⟩
instance : PT 117 191 := ⟨by kernel_rfl, by kernel_rfl⟩
instance : PT 119 193 := ⟨by kernel_rfl, by kernel_rfl⟩
instance : PT 121 199 := ⟨by kernel_rfl, by kernel_rfl⟩
instance : PT 123 204 := ⟨by kernel_rfl, by kernel_rfl⟩
instance : PT 125 206 := ⟨by kernel_rfl, by kernel_rfl⟩
instance : PT 127 208 := ⟨by kernel_rfl, by kernel_rfl⟩
instance : PT 129 210 := ⟨by kernel_rfl, by kernel_rfl⟩
instance : PT 284 48 := ⟨by kernel_rfl, by kernel_rfl⟩
instance : PT 292 23 := ⟨by kernel_rfl, by kernel_rfl⟩
instance : PT 293 295 := ⟨by kernel_rfl, by kernel_rfl⟩
instance : PT 299 182 := ⟨by kernel_rfl, by kernel_rfl⟩
instance : PT 300 197 := ⟨by kernel_rfl, by kernel_rfl⟩
instance : PT 333 186 := ⟨by kernel_rfl, by kernel_rfl⟩
instance : PT 344 202 := ⟨by kernel_rfl, by kernel_rfl⟩
instance : PT 378 395 := ⟨by kernel_rfl, by kernel_rfl⟩
instance : PT 389 5 := ⟨by kernel_rfl, by kernel_rfl⟩
end Go.Proofs.YtopbohbkhljjgaaGreat
end
section
namespace Go.Proofs.YtopbohbkhljjgaaGreat
open Go.RowKit Go.WideShapes Go.ChangeShapes
/-- The shape of a type: numbers, bools, strings, slices (of elements of so many cells), and structs and arrays. -/
inductive Sh where
  | int (k : IntKind)
  | bool
  | str
  | slice (size : Nat) (e : Sh)
  | agg (fs : List Sh)
/-- The cells cs have the shape. -/
inductive HasSh (w : World) : Sh → List Value → Prop where
  | int (k : IntKind) (n : Int) : (Lit.int k n).wf = true → HasSh w (.int k) [.int k n]
  | bool (b : Bool) : HasSh w .bool [.bool b]
  | str (s : ByteArray) : s.size ≤ maxLen → HasSh w .str [.string s]
  | slice (size : Nat) (e : Sh) (a : Option Addr) (n cap : Nat) (xss : List (List Value)) : xss.length = n → (∀ x ∈ xss, x.length = size) → (∀ x ∈ xss, HasSh w e x) → n ≤ cap → cap ≤ maxLen →
      SlR w size (.slice a n cap) n xss.flatten → HasSh w (.slice size e) [.slice a n cap]
  | nil : HasSh w (.agg []) []
  | cons (s : Sh) (ss : List Sh) (c r : List Value) : HasSh w s c → HasSh w (.agg ss) r → HasSh w (.agg (s :: ss)) (c ++ r)
def shapeFields (P : Program) (g : TypeId → Option Sh) : Nat → List Field → Option (List Sh × Nat)
  | o, [] => some ([], o)
  | o, f :: r =>
    if f.offset = o then
      match g f.type, shapeFields P g (o + P.cellsOf f.type) r with
      | some s, some (ss, e) => some (s :: ss, e)
      | _, _ => none
    else none
def shapeOf (P : Program) : Nat → TypeId → Option Sh
  | 0, _ => none
  | d + 1, t =>
    match P.underlying t with
    | some .bool => some .bool
    | some (.int k) => some (.int k)
    | some .string => some .str
    | some (.slice e) => if P.cellsOf e = 0 then none else (shapeOf P d e).map (.slice (P.cellsOf e))
    | some (.struct fs) =>
      match shapeFields P (shapeOf P d) 0 fs.toList with
      | some (ss, e) => if e = P.cellsOf t then some (.agg ss) else none
      | none => none
    | some (.array n e) => if n * P.cellsOf e = P.cellsOf t then (shapeOf P d e).map fun s => .agg (List.replicate n s) else none
    | _ => none
theorem flatten_at {α : Type} {sz : Nat} : ∀ {L : List (List α)}, (∀ x ∈ L, x.length = sz) → ∀ {j : Nat} {u : α}, L.flatten[j]? = some u → ∃ i r x, j = i * sz + r ∧ r < sz ∧ L[i]? = some x ∧ x[r]? = some u
  | [], _, j, u, h => by simp at h
  | y :: L, hl, j, u, h => by
    have hy := hl y (by simp)
    rw [List.flatten_cons, List.getElem?_append] at h
    split at h
    · exact ⟨0, j, y, by omega, by omega, rfl, h⟩
    · rename_i hge
      obtain ⟨i, r, x, e1, e2, e3, e4⟩ := flatten_at (fun x hx => hl x (by simp [hx])) h
      refine ⟨i + 1, r, x, ?_, e2, by simpa using e3, e4⟩
      rw [Nat.add_mul]; omega
theorem flatten_len {α : Type} {sz : Nat} : ∀ {L : List (List α)}, (∀ x ∈ L, x.length = sz) → L.flatten.length = L.length * sz
  | [], _ => by simp
  | y :: L, hl => by
    rw [List.flatten_cons, List.length_append, flatten_len (fun x hx => hl x (by simp [hx])), hl y (by simp), List.length_cons, Nat.add_mul]; omega
section
variable {H : Type} {enc : TypeId × Value → H} {P : Program} {w : World}
theorem cells?_spec {a : Addr} {n : Nat} {cs : List Value} (h : w.cells? 0 a n = some cs) : cs.length = n ∧ ∀ r u, cs[r]? = some u → w.cell? (a.add r) = some u := by
  unfold World.cells? at h
  rw [if_pos (Nat.zero_le _)] at h
  have hl := mapM_some_length h
  refine ⟨by simpa using hl, fun r u hu => ?_⟩
  have hr : r < n := by
    have := (List.getElem?_eq_some_iff.1 hu).1
    rw [hl] at this; simpa using this
  rw [mapM_some_get h r r (by simp [hr])]
  exact hu
theorem hasSh_fields {d : Nat} (ih : ∀ t sh fuel cs x, shapeOf P d t = some sh → DataW.trod enc P w 0 (fun _ => true) true fuel t cs = some x → HasSh w sh cs) {fuel : Nat} {cs : List Value} :
    ∀ (fs : List Field) (o : Nat) (ss : List Sh), (∀ f ∈ fs, ∃ x, DataW.trod enc P w 0 (fun _ => true) true fuel f.type ((cs.drop f.offset).take (P.cellsOf f.type)) = some x) →
      shapeFields P (shapeOf P d) o fs = some (ss, cs.length) → HasSh w (.agg ss) (cs.drop o)
  | [], o, ss, _, h => by
    simp only [shapeFields, Option.some.injEq, Prod.mk.injEq] at h
    obtain ⟨rfl, rfl⟩ := h
    rw [List.drop_of_length_le (Nat.le_refl _)]
    exact .nil
  | f :: r, o, ss, hx, h => by
    simp only [shapeFields] at h
    split at h
    · rename_i ho
      split at h
      · rename_i s ss' e hs hss
        simp only [Option.some.injEq, Prod.mk.injEq] at h
        obtain ⟨rfl, rfl⟩ := h
        obtain ⟨x, hx0⟩ := hx f (by simp)
        have h1 := ih _ _ _ _ _ hs hx0
        have h2 := hasSh_fields ih r (o + P.cellsOf f.type) ss' (fun g hg => hx g (by simp [hg])) hss
        rw [ho] at h1
        have := HasSh.cons _ _ _ _ h1 h2
        rwa [← List.drop_drop, List.take_append_drop] at this
      · cases h
    · cases h
theorem hasSh_elems {d : Nat} {e : TypeId} {s : Sh} (ih : ∀ t sh fuel cs x, shapeOf P d t = some sh → DataW.trod enc P w 0 (fun _ => true) true fuel t cs = some x → HasSh w sh cs) (hs : shapeOf P d e = some s) {fuel n : Nat} {cs : List Value}
    (hx : ∀ i, i < n → ∃ x, DataW.trod enc P w 0 (fun _ => true) true fuel e ((cs.drop (i * P.cellsOf e)).take (P.cellsOf e)) = some x) (hl : cs.length = n * P.cellsOf e) :
    ∀ k, k ≤ n → HasSh w (.agg (List.replicate k s)) (cs.drop ((n - k) * P.cellsOf e))
  | 0, _ => by
    rw [List.drop_of_length_le (by rw [hl]; exact Nat.le_refl _)]
    exact .nil
  | k + 1, hk => by
    obtain ⟨x, hx0⟩ := hx (n - (k + 1)) (by omega)
    have h1 := ih _ _ _ _ _ hs hx0
    have h2 := hasSh_elems ih hs hx hl k (by omega)
    have := HasSh.cons _ _ _ _ h1 h2
    have e1 : (n - k) * P.cellsOf e = (n - (k + 1)) * P.cellsOf e + P.cellsOf e := by
      rw [← Nat.succ_mul]; congr 1; omega
    rw [e1, ← List.drop_drop, List.take_append_drop] at this
    exact this
theorem hasSh_of_trod : ∀ (d : Nat) (t : TypeId) (sh : Sh) (fuel : Nat) (cs : List Value) (x : DataW H × List MemPlace), shapeOf P d t = some sh →
    DataW.trod enc P w 0 (fun _ => true) true fuel t cs = some x → HasSh w sh cs
  | 0, _, _, _, _, _, h, _ => by simp [shapeOf] at h
  | d + 1, t, sh, fuel, cs, x, h, hx => by
    have ih := hasSh_of_trod d
    unfold shapeOf at h
    split at h
    · rename_i ht
      simp only [Option.some.injEq] at h; subst h
      obtain ⟨b, rfl, _⟩ := DataW.trod_bool ht hx
      exact .bool b
    · rename_i k ht
      simp only [Option.some.injEq] at h; subst h
      obtain ⟨n, rfl, _, hw⟩ := DataW.trod_int ht hx
      exact .int k n hw
    · rename_i ht
      simp only [Option.some.injEq] at h; subst h
      obtain ⟨s, rfl, _, hs⟩ := DataW.trod_string ht hx
      exact .str s hs
    · rename_i e ht
      split at h
      · cases h
      · rename_i hsz
        simp only [Option.map_eq_some_iff] at h
        obtain ⟨s, hs, rfl⟩ := h
        rcases DataW.trod_slice ht hx with ⟨rfl, _⟩ | ⟨a, len, cap, elems, rest, n, _, rfl, _, _, hl, hc, hel, hcells, _, _⟩
        · exact .slice _ _ _ _ _ [] rfl (by simp) (by simp) (Nat.le_refl _) (Nat.zero_le _) (SlR.nil _ _)
        · have hcs : ∀ i, i < len → ∃ ci x, w.cells? 0 (a.add (i * P.cellsOf e)) (P.cellsOf e) = some ci ∧ DataW.trod enc P w 0 (fun _ => true) true n e ci = some x := fun i hi => by
            have h1 := hcells i hi
            rw [List.getElem?_eq_getElem (by omega : i < elems.length)] at h1
            obtain ⟨ci, h2, h3⟩ := Option.bind_eq_some_iff.1 h1
            exact ⟨ci, _, h2, h3⟩
          let f : Nat → List Value := fun i => (w.cells? 0 (a.add (i * P.cellsOf e)) (P.cellsOf e)).getD []
          have hf : ∀ i, i < len → (w.cells? 0 (a.add (i * P.cellsOf e)) (P.cellsOf e)) = some (f i) := fun i hi => by
            obtain ⟨ci, _, h1, _⟩ := hcs i hi
            show _ = some ((w.cells? 0 (a.add (i * P.cellsOf e)) (P.cellsOf e)).getD [])
            rw [h1]; rfl
          have hlen : ∀ x ∈ (List.range len).map f, x.length = P.cellsOf e := fun x hx => by
            obtain ⟨i, hi, rfl⟩ := List.mem_map.1 hx
            exact (cells?_spec (hf i (by simpa using hi))).1
          refine .slice _ _ _ _ _ ((List.range len).map f) (by simp) hlen (fun x hx => ?_) hl hc ⟨by rw [flatten_len hlen]; simp, ?_⟩
          · obtain ⟨i, hi, rfl⟩ := List.mem_map.1 hx
            obtain ⟨ci, x, h1, h2⟩ := hcs i (by simpa using hi)
            have := (hf i (by simpa using hi)).symm.trans h1
            rw [Option.some.inj this]
            exact ih _ _ _ _ _ hs h2
          · by_cases h0 : len = 0
            · subst h0; exact .inl ⟨⟨_, _, rfl⟩, rfl⟩
            · have hspot : a.spot = none := by
                have h1 := cells?_spec (hf 0 (by omega))
                have h2 := h1.2 0 ((f 0)[0]'(by rw [h1.1]; omega)) (by rw [List.getElem?_eq_getElem])
                by_cases hsp : a.spot = none
                · exact hsp
                · exfalso
                  unfold World.cell? at h2
                  have : ((a.add (0 * P.cellsOf e)).add 0).spot.isSome = true := by
                    cases hs' : a.spot with
                    | none => exact absurd hs' hsp
                    | some v => unfold Addr.add; simp [hs']
                  split at h2
                  · rw [if_pos this] at h2; cases h2
                  · cases h2
              obtain ⟨b, off, sp⟩ := a
              simp only at hspot
              subst hspot
              have hadd : ∀ j, (⟨b, off, none⟩ : Addr).add j = ⟨b, off + j, none⟩ := fun j => by unfold Addr.add; split <;> simp_all
              have hadd' : ∀ o j, (⟨b, o, none⟩ : Addr).add j = ⟨b, o + j, none⟩ := fun o j => by unfold Addr.add; split <;> simp_all
              have hcell : ∀ j u, ((List.range len).map f).flatten[j]? = some u → w.cell? ⟨b, off + j, none⟩ = some u := fun j u hu => by
                obtain ⟨i, r, x, rfl, hr, hxi, hxr⟩ := flatten_at hlen hu
                have hi : i < len := by
                  have := (List.getElem?_eq_some_iff.1 hxi).1; simpa using this
                have hx' : x = f i := by
                  rw [List.getElem?_map, List.getElem?_range hi] at hxi
                  exact (Option.some.inj hxi).symm
                subst hx'
                have h3 := (cells?_spec (hf i hi)).2 r u hxr
                rw [hadd, hadd', Nat.add_assoc] at h3
                exact h3
              refine .inr ⟨b, off, cap, rfl, ?_, by omega, hcell⟩
              have h1 := cells?_spec (hf 0 (by omega))
              obtain ⟨u, hu⟩ : ∃ u, (f 0)[0]? = some u := ⟨_, List.getElem?_eq_getElem (by rw [h1.1]; omega)⟩
              have h2 := h1.2 0 u hu
              rw [hadd, hadd'] at h2
              exact World.block_lt_of_cell? w _ h2
    · rename_i fs ht
      split at h
      · rename_i ss e hss
        split at h
        · rename_i he
          simp only [Option.some.injEq] at h; subst h
          obtain ⟨xs, n, _, _, hl, hxl, hfs⟩ := DataW.trod_struct ht hx
          have := hasSh_fields (P := P) (enc := enc) ih (fuel := n) (cs := cs) fs.toList 0 ss (fun f hf => by
            obtain ⟨i, hi, rfl⟩ := List.getElem_of_mem hf
            have h1 := hfs i _ (by simpa using Array.getElem?_eq_getElem (by simpa using hi))
            rw [List.getElem?_eq_getElem (by rw [hxl]; simpa using hi)] at h1
            exact ⟨_, by simpa using h1⟩) (by rw [hss, hl, he])
          simpa using this
        · cases h
      · cases h
    · rename_i n e ht
      split at h
      · rename_i hn
        simp only [Option.map_eq_some_iff] at h
        obtain ⟨s, hs, rfl⟩ := h
        obtain ⟨xs, m, _, _, hl, hxl, hfs⟩ := DataW.trod_array ht hx
        have := hasSh_elems (P := P) (enc := enc) ih hs (fuel := m) (n := n) (cs := cs) (fun i hi => by
          have h1 := hfs i hi
          rw [List.getElem?_eq_getElem (by omega)] at h1
          exact ⟨_, h1⟩) (by rw [hl, hn]) n (Nat.le_refl _)
        simpa using this
      · cases h
    · cases h
end
end Go.Proofs.YtopbohbkhljjgaaGreat
end
section
namespace Go.Proofs.YtopbohbkhljjgaaGreat
open Go.RowKit
theorem shb_cons {w : World} {s : Sh} {ss : List Sh} {l : List Value} (h : HasSh w (.agg (s :: ss)) l) : ∃ c r, l = c ++ r ∧ HasSh w s c ∧ HasSh w (.agg ss) r := by
  cases h with
  | cons s ss c r h1 h2 => exact ⟨c, r, rfl, h1, h2⟩
theorem shb_nil {w : World} {l : List Value} (h : HasSh w (.agg []) l) : l = [] := by cases h; rfl
theorem shb_int {w : World} {k : IntKind} {l : List Value} (h : HasSh w (.int k) l) : ∃ n, l = [.int k n] ∧ (Lit.int k n).wf = true := by cases h with | int _ n hn => exact ⟨n, rfl, hn⟩
theorem shb_bool {w : World} {l : List Value} (h : HasSh w .bool l) : ∃ b, l = [.bool b] := by cases h with | bool b => exact ⟨b, rfl⟩
theorem i64_wf {n : Int} (h : (Lit.int .i64 n).wf = true) : -9223372036854775808 ≤ n ∧ n ≤ 9223372036854775807 := by
  simp [Lit.wf, IntKind.min, IntKind.max, IntKind.signed, IntKind.bits] at h
  omega
theorem u64_wf {n : Int} (h : (Lit.int .u64 n).wf = true) : 0 ≤ n ∧ n ≤ 18446744073709551615 := by
  simp [Lit.wf, IntKind.min, IntKind.max, IntKind.signed, IntKind.bits] at h
  omega
/-- The elements of a slice that can be read. -/
theorem slice_of_sh {α : Type} {f : α → List Value} {P : α → Prop} {w : World} {size : Nat} {e : Sh} (hd : ∀ cs, HasSh w e cs → ∃ x, cs = f x ∧ P x) {v : Value} (h : HasSh w (.slice size e) [v]) : ∃ xs : List α, SlT w f size v xs ∧ ∀ x ∈ xs, P x := by
  cases h with
  | slice size e sa n cap xss hl h1 h2 h3 h4 hr =>
    have key : ∀ (xss : List (List Value)), (∀ x ∈ xss, HasSh w e x) → ∃ xs : List α, xss.flatten = xs.flatMap f ∧ xss.length = xs.length ∧ ∀ x ∈ xs, P x := by
      intro xss
      induction xss with
      | nil => exact fun _ => ⟨[], rfl, rfl, by simp⟩
      | cons c r ih =>
        intro hx
        obtain ⟨xs, e1, e2, e3⟩ := ih fun x hx' => hx x (by simp [hx'])
        obtain ⟨m, rfl, hm⟩ := hd c (hx c (by simp))
        refine ⟨m :: xs, by simp [e1], by simp [e2], ?_⟩
        intro z hz
        rcases List.mem_cons.1 hz with rfl | hz
        · exact hm
        · exact e3 z hz
    obtain ⟨xs, e1, e2, e3⟩ := key xss h2
    refine ⟨xs, ?_, e3⟩
    unfold SlT
    rw [← e1, ← e2, hl]; exact hr
end Go.Proofs.YtopbohbkhljjgaaGreat
end
section
namespace Go.Proofs.YtopbohbkhljjgaaGreat
open Go.RowKit
set_option linter.unusedVariables false
set_option maxRecDepth 100000
set_option linter.unusedSimpArgs false
set_option maxHeartbeats 2000000
/-- An int, as a cell. -/
def intL (z : Int) : List Value := [.int .i64 z]
instance : EL intL 1 := ⟨fun _ => rfl, fun x u h => by simp [intL] at h; subst h; rfl⟩
abbrev ptr (b : Nat) : Value := .pointer (some ⟨b, 0, none⟩)
/-- A number of 64 bits, as a cell. -/
def u64L (z : Int) : List Value := [.int .u64 z]
instance : EL u64L 1 := ⟨fun _ => rfl, fun x u h => by simp [u64L] at h; subst h; rfl⟩
def U64 (z : Int) : Prop := 0 ≤ z ∧ z ≤ 18446744073709551615
theorem drop_cons {α : Type} {l : List α} {k : Nat} {x : α} (h : l[k]? = some x) : l.drop k = x :: l.drop (k + 1) := by
  obtain ⟨h1, h2⟩ := List.getElem?_eq_some_iff.1 h
  rw [List.drop_eq_getElem_cons h1, h2]
def I64 (m : Int) : Prop := -9223372036854775808 ≤ m ∧ m ≤ 9223372036854775807
theorem take_map {α β : Type} {f : α → β} {l : List α} {j : Nat} {y : α} (h : l[j]? = some y) : (l.take (j + 1)).map f = (l.take j).map f ++ [f y] := by
  rw [List.take_add_one, h]; simp
theorem arr_eq {cs : Array Value} {l : List Value} (h : cs.toList = l) : cs = l.toArray := by apply Array.toList_inj.1; simpa using h
end Go.Proofs.YtopbohbkhljjgaaGreat
end
section
namespace Go.Proofs.YtopbohbkhljjgaaGreat
open Go.RowKit
set_option linter.unusedVariables false
set_option maxRecDepth 100000
set_option linter.unusedSimpArgs false
set_option maxHeartbeats 1000000
section
variable {o : Oper} {n : Nat} {l : List (Nat × Value)} {L : List Asn} {C : Value → List Asn → Prop}
/-- The rest of a slice from j on. -/
abbrev fromH (h : SlH) (j size : Nat) : SlH := ⟨if h.c = j then h.a else h.a.map (·.add (j * size)), h.n - j, h.c - j⟩
theorem rt_to {t : TypeId} {x y : Operand} (ho : o.op = .slice t x none (some y) none) {h : SlH} (hx : evl l x = some (sl h)) {k : IntKind} {j : Nat} (hy : evl l y = some (.int k (j : Int))) {e : TypeId} {z : Value} {size bytes : Nat} (ht : ST t e z size bytes) (h1 : j ≤ h.c) : RT o l L n (sl ⟨h.a, j, h.c⟩) := fun a w F M => by
  unfold execOp
  rw [ho]
  obtain ⟨hu, _⟩ := ht.k
  have e2 : Tryz.prog.elem t = e := by simp [Program.elem, hu]
  have ht' : Tryz.prog.underlying t = some (.slice (Tryz.prog.elem t)) := by rw [e2]; exact hu
  have hr := run_sliceAt_slice (P := Tryz.prog) w t (sl h) none (some (.int k j)) none ht'
  have hs := run_slice_h (P := Tryz.prog) w t h.a h.n h.c ht' k j (by omega) (by omega)
  rw [e2, st_size ht] at hs
  simp only [Result.andThen_ok, sliced, Int.toNat_natCast] at hs
  have : (if h.c = 0 then h.a else h.a.map (·.add (0 * size))) = h.a := by
    split
    · rfl
    · cases h.a with
      | none => rfl
      | some q => obtain ⟨pb, po, pn⟩ := q; simp [Addr.add]
  rw [this] at hs
  simp [F.eval hx, F.eval hy, hr, hs, sl]
theorem own_cut {w : World} {L : List Asn} {e : TypeId} {size m j : Nat} {h : SlH} {xs : List Value} (M : Mem w (own e size (sl h) m xs :: L)) (hj : j ≤ m) : Mem w (own e size (sl ⟨h.a, j, h.c⟩) j (xs.take (j * size)) :: L) := by
  refine M.imp fun s w' hs => ?_
  obtain ⟨h1, h2⟩ := hs
  have hle : j * size ≤ m * size := Nat.mul_le_mul_right _ hj
  refine ⟨by rw [List.length_take]; omega, ?_⟩
  rcases h2 with ⟨h2, h3, h4⟩ | ⟨g, cap, cur, h2, hs, h3, h4, h5, h6, h7⟩
  · obtain ⟨a, n', c⟩ := h
    simp only [sl, Value.slice.injEq] at h2
    obtain ⟨rfl, rfl, rfl⟩ := h2
    obtain rfl : j = 0 := by omega
    exact .inl ⟨rfl, rfl, h4⟩
  · obtain ⟨a, n', c⟩ := h
    simp only [sl, Value.slice.injEq] at h2
    obtain ⟨rfl, rfl, rfl⟩ := h2
    exact .inr ⟨g, c, cur, rfl, hs, h3, by omega, h5, h6, by rw [← h7, List.take_take, Nat.min_eq_left hle]⟩
/-- Store a whole element. -/
theorem ac_storeEA {α : Type} {f : α → List Value} {t : TypeId} {x y : Operand} (ho : o.op = .store t x y) {v : Value} {j k : Nat} (hx : evl l x = some (.pointer (some ⟨vb v, vo v + j * k, none⟩))) (hkt : KT t (some k)) (y' : α) (hy : evl l y = some (.agg (f y').toArray))
    {e : TypeId} {xs : List α} {L2 : List Asn} {z : α} (hz : xs[j]? = some z) (he : EL f k) (hp : Rep L (ownT e f k v xs) (ownT e f k v (xs.set j y')) L2) (h : C undef L2) : AC o l L n C := fun G a w F M => by
  obtain ⟨L', h1, h2⟩ := hp.both
  have hj : j < xs.length := (List.getElem?_eq_some_iff.1 hz).1
  have hlen := flat_lenE he xs
  have hjk : j * k + k ≤ xs.length * k := by
    have : (j + 1) * k ≤ xs.length * k := Nat.mul_le_mul_right k hj
    rw [Nat.succ_mul] at this; omega
  have hfl : (f y').length = k := he.len y'
  have hset : (xs.set j y').flatMap f = (xs.flatMap f).take (j * k) ++ f y' ++ (xs.flatMap f).drop (j * k + k) := by
    rw [flat_take he.len, show j * k + k = (j + 1) * k by rw [Nat.succ_mul], flat_drop he.len, List.set_eq_take_append_cons_drop, if_pos hj]
    simp
  obtain ⟨s, hs, hlt⟩ := (M.pull (h1.app G)).head
  rcases hs.2 with ⟨_, h0, _⟩ | ⟨g, cap, cur, hv, _, hg, hn, hc, hsz, ht⟩
  · omega
  · have hvb : vb v = g ∧ vo v = 0 := by rw [hv]; exact ⟨rfl, rfl⟩
    rw [hvb.1, hvb.2, Nat.zero_add] at hx
    have hle : xs.length * k ≤ cap * k := Nat.mul_le_mul_right k hn
    have h3 := run_storeCells_at (P := Tryz.prog) g (j * k) e (f y') 0 cur w hg (by omega) (fun u hu => he.one y' u hu)
    simp only [Nat.add_zero] at h3
    have hcs : (Value.agg (f y').toArray).cells.size = k := by simp [Value.cells, hfl]
    have : (execOp a.eval o).run Tryz.prog w = .ok .skip (w.setRow g (cur.toList.take (j * k) ++ f y' ++ cur.toList.drop (j * k + k)).toArray) := by
      unfold execOp
      rw [ho]
      simp only [F.eval hx, F.eval hy, Instr.storeAt, Instr.sureAddr, storeVar, Sem.run_bind, Sem.run_pure, Result.andThen_ok, (run_isAgg (t := t) w).2, hcs]
      simp [Value.cells, h3, hfl]
    rw [this]
    refine ⟨L2, h, M.rep (hp.app G) fun s' hs' => ?_⟩
    obtain ⟨_, h8 | ⟨g2, cap2, cur2, h8, rfl, _⟩⟩ := hs'.now
    · rw [hv] at h8; simp at h8
    rw [hv] at h8
    simp only [Value.slice.injEq, Option.some.injEq, Addr.mk.injEq] at h8
    obtain ⟨⟨rfl, _⟩, _⟩ := h8
    refine ⟨chg_setRow, [g], ?_, fun x hx => .inl hx⟩
    rw [hv]
    unfold ownT
    rw [List.length_set]
    refine ok_own (by rw [flat_lenE he, List.length_set]) (setRow_heap w g cur _ e _ hg) hn hc ?_ ?_
    · simp only [List.size_toArray, List.length_append, List.length_take, List.length_drop, Array.length_toList, hfl]
      omega
    · rw [hset]
      simp only [List.toList_toArray]
      have e1 : (xs.flatMap f).take (j * k) = cur.toList.take (j * k) := by rw [← ht, List.take_take, Nat.min_eq_left (by omega)]
      have e2 : (xs.flatMap f).drop (j * k + k) = (cur.toList.drop (j * k + k)).take (xs.length * k - (j * k + k)) := by rw [← ht, List.drop_take]
      rw [e1, e2, List.take_append, List.take_append]
      have l1 : (cur.toList.take (j * k)).length = j * k := by rw [List.length_take, Array.length_toList]; omega
      rw [List.take_of_length_le (l := cur.toList.take (j * k)) (by omega), l1, List.take_of_length_le (l := f y') (by omega), List.length_append, l1, hfl]
/-- Where a property first holds. -/
def idxP {α : Type} (p : α → Bool) : List α → Nat → Int
  | [], _ => -1
  | x :: r, i => if p x = true then (i : Int) else idxP p r (i + 1)
theorem idxP_spec {α : Type} (p : α → Bool) : ∀ (xs : List α) (k : Nat), (idxP p xs k = -1 ∧ ∀ x ∈ xs, p x = false) ∨ ∃ i x, xs[i]? = some x ∧ idxP p xs k = ((k + i : Nat) : Int) ∧ (∀ y ∈ xs.take i, p y = false) ∧ p x = true
  | [], k => .inl ⟨rfl, by simp⟩
  | x :: r, k => by
    cases hp : p x
    · rcases idxP_spec p r (k + 1) with ⟨h1, h2⟩ | ⟨i, y, h1, h2, h3, h4⟩
      · exact .inl ⟨by simp [idxP, hp, h1], by simpa [hp] using h2⟩
      · refine .inr ⟨i + 1, y, by simpa using h1, ?_, ?_, h4⟩
        · simp only [idxP, hp, Bool.false_eq_true, if_false]
          rw [h2]; congr 1; omega
        · simpa [hp] using h3
    · exact .inr ⟨0, x, rfl, by simp [idxP, hp], by simp, hp⟩
end
end Go.Proofs.YtopbohbkhljjgaaGreat
end
section
namespace Go.Proofs.YtopbohbkhljjgaaGreat
open Go.RowKit
set_option linter.unusedVariables false
set_option maxRecDepth 100000
set_option maxHeartbeats 1000000
section
variable {o : Oper} {n : Nat} {l : List (Nat × Value)} {L : List Asn} {C : Value → List Asn → Prop}
theorem ac_makeSlice {t : TypeId} {x y : Operand} (ho : o.op = .makeSlice t x y) {e : TypeId} {z : Value} {size bytes : Nat} (ht : ST t e z size bytes) {kl kc : IntKind} {m : Nat} (hx : evl l x = some (.int kl (m : Int))) (hy : evl l y = some (.int kc (m : Int))) (hb : bytes * m ≤ 281474976710656) (hm : m ≤ 140737488355328)
    (h : ∀ b, C (sl ⟨some ⟨b, 0, none⟩, m, m⟩) (own e size (sl ⟨some ⟨b, 0, none⟩, m, m⟩) m (madeCells z.cells (m * size)).toList :: L)) : AC o l L n C := fun G a w F M => by
  obtain ⟨i, hu, hi, hzi, hsz, hby, hzs, hpos⟩ := st_info ht
  have hb' : (i.bytes : Int) * (m : Int) ≤ 281474976710656 := by
    rw [hby]
    have h : ((bytes * m : Nat) : Int) ≤ 281474976710656 := by omega
    rwa [Int.natCast_mul] at h
  have hr := run_make (P := Tryz.prog) w t e i z hu hi hzi kl kc m m (by omega) (by omega) hb' (by omega)
  simp only [Int.toNat_natCast, hsz] at hr
  have : (execOp a.eval o).run Tryz.prog w = .ok (.value (sl ⟨some ⟨w.heap.size, 0, none⟩, m, m⟩)) (w.alloc (.cells (madeCells z.cells (m * size)) e)) := by
    unfold execOp
    rw [ho]
    simp [F.eval hx, F.eval hy, hr, sl]
  rw [this]
  refine ⟨_, h w.heap.size, ?_⟩
  have M1 := M.alloc (madeCells z.cells (m * size)).toList e
  simp only [Array.toArray_toList] at M1
  exact Mem.own_pt M1 (by rw [Array.length_toList, size_madeCells]) (by simp only [maxLen]; omega)
end
end Go.Proofs.YtopbohbkhljjgaaGreat
end
section
namespace Go.Proofs.YtopbohbkhljjgaaGreat
open Go.RowKit
set_option linter.unusedVariables false
set_option maxRecDepth 100000
set_option linter.unusedSimpArgs false
set_option maxHeartbeats 1000000
section
variable {ops : Array Oper} {Q : Exit → Act → World → Prop} {o : Oper} {a : Act} {w : World} {n : Nat} {l : List (Nat × Value)} {L : List Asn} {C : Value → List Asn → Prop}
theorem isW {rest : List Oper} (h : wpList Tryz.prog ops Q rest a w) : wpList Tryz.prog ops Q rest a w := h
theorem isP {E Fl : List Nat} {S : List (Nat × List Nat)} {σ done : List Nat} (h : PW Tryz.prog ops n Q E Fl S σ done l L) : PW Tryz.prog ops n Q E Fl S σ done l L := h
theorem isK {c : Operand} {x y : Code} (h : (Code.cond c x y).wp Tryz.prog Q a w) : (Code.cond c x y).wp Tryz.prog Q a w := h
theorem isL {c : Code} (h : (Code.loop c).wp Tryz.prog Q a w) : (Code.loop c).wp Tryz.prog Q a w := h
theorem isD {id : Nat} (h : (Code.region id ops true).wp Tryz.prog Q a w) : (Code.region id ops true).wp Tryz.prog Q a w := h
/-- A call with a contract over parts of memory. -/
theorem acK {f : Operand} {xs : Array Operand} {ats : Array TypeId} {k : FuncId} {caps : Array Value} {vs us : List Value} {L1 : List Asn} {D : Value → List Asn → Prop} (hs : Spec k us L1 D) (hi : ∀ v L', D v L' → C v L')
    (ho : o.op = .call { callee := .value f, args := xs, argTypes := ats } := by exact rfl) (hf : evl l f = some (.func (.func k) #[] caps) := by exact rfl) (hfk : FK k := by exact inferInstance) (hx : evls l xs.toList = some vs := by exact rfl) (hu : vs ++ caps.toList = us := by exact rfl) (hp : Perms L L1 := by exact permsA) : AC o l L n C :=
  ac_call ho hf hfk hx hu ((hs.mono hi).pre hp)
/-- A call with a contract over all of memory. -/
theorem acW {f : Operand} {xs : Array Operand} {ats : Array TypeId} {k : FuncId} {caps : Array Value} {vs us : List Value} {D : Value → List Asn → Prop} (hs : Spec k us L D) (hi : ∀ v L', D v L' → C v L')
    (ho : o.op = .call { callee := .value f, args := xs, argTypes := ats } := by exact rfl) (hf : evl l f = some (.func (.func k) #[] caps) := by exact rfl) (hfk : FK k := by exact inferInstance) (hx : evls l xs.toList = some vs := by exact rfl) (hu : vs ++ caps.toList = us := by exact rfl) : AC o l L n C :=
  ac_call ho hf hfk hx hu (hs.mono hi)
/-- An element of an array value. -/
theorem rt_idxA {t : TypeId} {x y : Operand} (ho : o.op = .index t x y) {cs : List Value} (hx : evl l x = some (.agg cs.toArray)) {kd : IntKind} {j : Int} (hy : evl l y = some (.int kd j)) {len e size k : Nat} (ht : AT t len e size) (hkt : KT e (some k)) (h0 : 0 ≤ j) (h1 : j < len) {ds : List Value} (hd : (cs.drop (j.toNat * size)).take k = ds) : RT o l L n (.agg ds.toArray) := fun a w F M => by
  subst hd
  obtain ⟨hu, hs⟩ := ht.k
  have hz : (sizeOf e).run Tryz.prog w = .ok size w := by
    cases hi : Tryz.prog.info? e with
    | none => rw [hi] at hs; cases hs
    | some ie =>
      rw [hi] at hs
      have hs := Option.some.inj hs
      simp [sizeOf, typeInfo, hi, hs]
  have hk : size = k := by
    have h2 := (run_isAgg (t := e) w).2
    rw [hz] at h2
    simpa using h2
  unfold execOp
  rw [ho]
  have hr : (Instr.index t (.agg cs.toArray) (.int kd j)).run Tryz.prog w = .ok (.agg ((cs.drop (j.toNat * size)).take k).toArray) w := by
    subst hk
    simp [Instr.index, asIntOf, run_underlying hu w, h0, h1, hz, part, (run_isAgg (t := e) w).1, List.extract_eq_take_drop]
  simp [F.eval hx, F.eval hy, hr]
end
end Go.Proofs.YtopbohbkhljjgaaGreat
end
section
namespace Go.Proofs.YtopbohbkhljjgaaGreat
open Go.RowKit
set_option linter.unusedVariables false
set_option maxRecDepth 100000
set_option linter.unusedSimpArgs false
set_option maxHeartbeats 1000000
theorem SlR.from {w : World} {size : Nat} {h : SlH} {m : Nat} {xs : List Value} (hs : SlR w size (sl h) m xs) {j : Nat} (hj : j ≤ m) (hc : m ≤ h.c) : SlR w size (sl (fromH h j size)) (m - j) (xs.drop (j * size)) := by
  obtain ⟨hl, h2⟩ := hs
  obtain ⟨a, n, c⟩ := h
  refine ⟨by rw [List.length_drop, hl, Nat.mul_sub_right_distrib], ?_⟩
  rcases h2 with ⟨⟨p, q, h3⟩, h4⟩ | ⟨b, off, cap, h3, hb, hm, hcell⟩
  · simp only [sl, Value.slice.injEq] at h3
    obtain ⟨rfl, rfl, rfl⟩ := h3
    subst h4
    obtain rfl : j = 0 := by omega
    exact .inl ⟨⟨_, _, rfl⟩, rfl⟩
  · simp only [sl, Value.slice.injEq] at h3
    obtain ⟨rfl, rfl, rfl⟩ := h3
    by_cases hjm : j = n
    · subst hjm
      simp only [fromH, Nat.sub_self]
      exact .inl ⟨⟨_, _, rfl⟩, trivial⟩
    · have hcj : ¬ c = j := by simp only at hc; omega
      refine .inr ⟨b, off + j * size, c - j, ?_, hb, by omega, fun i u hu => ?_⟩
      · simp only [fromH, if_neg hcj, Option.map_some, add0]
      · rw [List.getElem?_drop] at hu
        have := hcell (j * size + i) u hu
        rw [Nat.add_assoc]; exact this
section
variable {o : Oper} {n : Nat} {l : List (Nat × Value)} {L : List Asn} {C : Value → List Asn → Prop}
theorem madeCells_get (z : Array Value) (n i : Nat) (hi : i < n) (hz : 0 < z.size) : (madeCells z n).toList[i]? = z.toList[i % z.size]? := by
  have := Nat.mod_lt i hz
  simp [madeCells, hi, getElem!_pos z (i % z.size) this, this]
theorem made_flat {α : Type} {f : α → List Value} {k : Nat} (he : EL f k) (z0 : α) (m : Nat) (hk : 0 < k) : (madeCells (f z0).toArray (m * k)).toList = (List.replicate m z0).flatMap f := by
  apply List.ext_getElem?
  intro i
  by_cases hi : i < m * k
  · have hd : i / k < m := (Nat.div_lt_iff_lt_mul hk).2 hi
    have hm := Nat.mod_lt i hk
    have e : i = i / k * k + i % k := by rw [Nat.mul_comm]; exact (Nat.div_add_mod i k).symm
    rw [madeCells_get _ _ _ hi (by simp [he.len, hk])]
    have h2 := flat_get he.len (List.replicate m z0) (i / k) (i % k) z0 (by simp [hd]) hm
    rw [← e] at h2
    rw [h2]
    simp [he.len]
  · have h1 : (madeCells (f z0).toArray (m * k)).toList.length = m * k := by rw [Array.length_toList, size_madeCells]
    have h2 := flat_lenE he (List.replicate m z0)
    rw [List.getElem?_eq_none (by omega), List.getElem?_eq_none (by rw [h2, List.length_replicate]; omega)]
/-- make of elements. -/
theorem ac_makeT {α : Type} {f : α → List Value} {k : Nat} (he : EL f k) (z0 : α) (hk : Nat.ble 1 k = true) {t : TypeId} {x y : Operand} (ho : o.op = .makeSlice t x y) {e : TypeId} {z : Value} {bytes : Nat} (ht : ST t e z k bytes) (hz : z.cells = (f z0).toArray) {kl kc : IntKind} {m : Nat} (hx : evl l x = some (.int kl (m : Int))) (hy : evl l y = some (.int kc (m : Int))) (hb : bytes * m ≤ 281474976710656) (hm : m ≤ 140737488355328)
    (h : ∀ b, C (sl ⟨some ⟨b, 0, none⟩, m, m⟩) (ownT e f k (sl ⟨some ⟨b, 0, none⟩, m, m⟩) (List.replicate m z0) :: L)) : AC o l L n C :=
  ac_makeSlice ho ht hx hy hb hm fun b => by
    have := h b
    rw [hz, made_flat he z0 m (Nat.le_of_ble_eq_true hk)]
    unfold ownT at this
    rw [List.length_replicate] at this
    exact this
end
end Go.Proofs.YtopbohbkhljjgaaGreat
end
section
namespace Go.Proofs.YtopbohbkhljjgaaGreat
open Go.RowKit
set_option linter.unusedVariables false
set_option maxRecDepth 100000
set_option linter.unusedSimpArgs false
set_option maxHeartbeats 4000000
def natL (z : Nat) : List Value := [.int .i64 (z : Int)]
instance : EL natL 1 := ⟨fun _ => rfl, fun x u h => by simp [natL] at h; subst h; rfl⟩
abbrev natV (z : Nat) : Value := .int .i64 (z : Int)
/-- A ring's queue: rgn the names' head, [int] the instance, natL the elements' cells, 1 so many cells, Nat the elements, int their type, natV an element as a value, 0 the zero element. -/
structure rgnH where
  h : SlH
  S : List (Nat)
  f : Nat
/-- The slots hold the queue. -/
structure rgnOk (size : Nat) (q : List (Nat)) (z : rgnH) : Prop where
  n : q.length ≤ z.S.length
  s : z.S.length ≤ size
  p : 1 ≤ size ∧ size ≤ 4096
  f : z.f < z.S.length ∨ (z.f = 0 ∧ z.S = [])
  g : ∀ i, i < q.length → z.S[(z.f + i) % z.S.length]? = q[i]?
abbrev rgnP (b size : Nat) (q : List (Nat)) (z : rgnH) : List Asn := [pt b [sl z.h, .int .i64 size, .int .i64 z.f, .int .i64 q.length] 206, ownT 3 natL 1 (sl z.h) z.S]
def rgnA (b size : Nat) (q : List (Nat)) : Asn := exA fun z : rgnH => factA (rgnOk size q z) :: rgnP b size q z
theorem rgn_open {w : World} {L : List Asn} {b size : Nat} {q : List (Nat)} (M : Mem w (rgnA b size q :: L)) : ∃ z, rgnOk size q z ∧ Mem w (rgnP b size q z ++ L) := by
  obtain ⟨z, M⟩ := M.exo
  obtain ⟨h, M⟩ := Mem.factO M
  exact ⟨z, h, M⟩
theorem rgn_close {w : World} {L : List Asn} {b size : Nat} {q : List (Nat)} {z : rgnH} (h : rgnOk size q z) (M : Mem w (rgnP b size q z ++ L)) : Mem w (rgnA b size q :: L) := Mem.exc z (Mem.fact h M)
theorem rgn_len (b size : Nat) (q : List (Nat)) (R : List Asn) : Spec 159 [ptr b] (rgnA b size q :: R) fun u L' => u = .int .i64 q.length ∧ L' = rgnA b size q :: R := by
  (intro G w M; obtain ⟨z, hz, M2⟩ := rgn_open (L := R ++ G) M; clear M; have M := M2; clear M2; have h1 := hz.n; have h2 := hz.s; have h3 := hz.p; simp only [List.cons_append, List.nil_append] at M)
  (refine sx_enter (vs := ([ptr b] : List Value)) Tryz.func159 (n := 9) rfl rfl rfl rfl ?_; intro a F; (try simp only [List.cons_append, List.nil_append] at M))
  (repeat' (first | (refine sx_nil ?_; (try (replace F := F.filt [0, 2, 4] rfl))) | (refine sv1 F M (h := ?_); clear F a; intro a F) | refine pv1 (h := ?_) | (refine sv3 F M (h := ?_); clear M; intro w M) | (refine sv2 F M (h := ?_); clear F M a; intro nb a w F M) | refine pv3 (h := ?_) | (refine pv2 (h := ?_); intro nb) | ((first | refine svC F M (h := ?_) | refine svC0 F M (h := ?_) | refine pvC (h := ?_) | refine pvC0 (h := ?_)); (fail); (first | refine ⟨rvsA, ?_⟩ | (clear F M a; intro a w F M) | (clear M; intro w M))) | (refine svK F (h := ?_); clear F a; intro a F) | refine svK0 F (h := ?_) | ((refine sx_guardb F rfl (fun hg => ?_) (fun hg => ?_)) <;> (rw [hg] at F; (try (exact no hg)))) | (refine pvF (h := ?_); intro nb) | refine pvK (h := ?_) | refine pvK0 (h := ?_) | (refine pv_nil ?_; intro a w F M; (try (replace F := F.filt [0, 2, 4] rfl))) | ((fail_if_success (with_reducible first | refine isW ?_ | refine isP ?_ | refine isL ?_)); (first | with_reducible refine sx_region ?_ | ((with_reducible refine isK ?_); (first | refine svT F (h := ?_) | refine svF F (h := ?_) | ((refine svB F (fun hc => ?_) (fun hc => ?_)) <;> (try (exact no hc))))) | ((with_reducible refine isD ?_); fail) | with_reducible refine wp_scope_straight ?_ | with_reducible refine wp_label ?_ | go_step))))
  (all_goals ((first | refine svEnd F M ?_ | refine svRet F M ?_); exact ⟨_, _, rfl, ⟨rfl, rfl⟩, rgn_close hz (M.perms permsA)⟩))
theorem rgn_len0 (b : Nat) (v0 v1 v2 : Value) (n : Int) (R : List Asn) : Spec 159 [ptr b] (pt b [v0, v1, v2, .int .i64 n] 206 :: R) fun u L' => u = .int .i64 n ∧ L' = pt b [v0, v1, v2, .int .i64 n] 206 :: R := by
  (intro G w M; refine sx_enter (vs := ([ptr b] : List Value)) Tryz.func159 (n := 9) rfl rfl rfl rfl ?_; intro a F; (try simp only [List.cons_append, List.nil_append] at M))
  (repeat' (first | (refine sx_nil ?_; (try (replace F := F.filt [0, 2, 4] rfl))) | (refine sv1 F M (h := ?_); clear F a; intro a F) | refine pv1 (h := ?_) | (refine sv3 F M (h := ?_); clear M; intro w M) | (refine sv2 F M (h := ?_); clear F M a; intro nb a w F M) | refine pv3 (h := ?_) | (refine pv2 (h := ?_); intro nb) | ((first | refine svC F M (h := ?_) | refine svC0 F M (h := ?_) | refine pvC (h := ?_) | refine pvC0 (h := ?_)); (fail); (first | refine ⟨rvsA, ?_⟩ | (clear F M a; intro a w F M) | (clear M; intro w M))) | (refine svK F (h := ?_); clear F a; intro a F) | refine svK0 F (h := ?_) | ((refine sx_guardb F rfl (fun hg => ?_) (fun hg => ?_)) <;> (rw [hg] at F; (try (exact no hg)))) | (refine pvF (h := ?_); intro nb) | refine pvK (h := ?_) | refine pvK0 (h := ?_) | (refine pv_nil ?_; intro a w F M; (try (replace F := F.filt [0, 2, 4] rfl))) | ((fail_if_success (with_reducible first | refine isW ?_ | refine isP ?_ | refine isL ?_)); (first | with_reducible refine sx_region ?_ | ((with_reducible refine isK ?_); (first | refine svT F (h := ?_) | refine svF F (h := ?_) | ((refine svB F (fun hc => ?_) (fun hc => ?_)) <;> (try (exact no hc))))) | ((with_reducible refine isD ?_); fail) | with_reducible refine wp_scope_straight ?_ | with_reducible refine wp_label ?_ | go_step))))
  (all_goals ((first | refine svEnd F M ?_ | refine svRet F M ?_); exact ⟨_, _, rfl, ⟨rfl, rfl⟩, M.perms permsA⟩))
theorem rgn_peekO (b size : Nat) (q : List (Nat)) (z : rgnH) (hz : rgnOk size q z) (i : Nat) (x : Nat) (hx : q[i]? = some x) (R : List Asn) : Spec 160 [ptr b, .int .i64 i] (rgnP b size q z ++ R) fun u L' => u = .tuple [natV x, .bool true].toArray ∧ L' = rgnP b size q z ++ R := by
  intro G w M
  have h1 := hz.n
  have h2 := hz.s
  have h3 := hz.p
  have hi : i < q.length := (List.getElem?_eq_some_iff.1 hx).1
  have hg := hz.g i hi
  rw [hx] at hg
  have hzf : z.f < z.S.length := by rcases hz.f with h | ⟨_, h⟩; (· exact h); (exfalso; rw [h, List.length_nil] at h1; omega)
  have hmod : (((z.f : Int) + (i : Int)) % (z.S.length : Int)).toNat = (z.f + i) % z.S.length := by
    rw [show (z.f : Int) + (i : Int) = ((z.f + i : Nat) : Int) by omega, ← Int.natCast_emod, Int.toNat_natCast]
  have hg' : z.S[(((z.f : Int) + (i : Int)) % (z.S.length : Int)).toNat]? = some x := by rw [hmod]; exact hg
  have hm0 : 0 ≤ ((z.f : Int) + (i : Int)) % (z.S.length : Int) := Int.emod_nonneg _ (by omega)
  have hm1 : ((z.f : Int) + (i : Int)) % (z.S.length : Int) < (z.S.length : Int) := Int.emod_lt_of_pos _ (by omega)
  simp only [List.cons_append, List.nil_append] at M
  (refine sx_enter (vs := ([ptr b, .int .i64 i] : List Value)) Tryz.func160 (n := 34) rfl rfl rfl rfl ?_; intro a F; (try simp only [List.cons_append, List.nil_append] at M))
  (repeat' (first | (refine sx_nil ?_; (try (replace F := F.filt [0, 1, 4, 5, 6, 14] rfl))) | (refine sv1 F M (h := ?_); clear F a; intro a F) | refine pv1 (h := ?_) | (refine sv3 F M (h := ?_); clear M; intro w M) | (refine sv2 F M (h := ?_); clear F M a; intro nb a w F M) | refine pv3 (h := ?_) | (refine pv2 (h := ?_); intro nb) | ((first | refine svC F M (h := ?_) | refine svC0 F M (h := ?_) | refine pvC (h := ?_) | refine pvC0 (h := ?_)); (((refine acK (k := 159) (rgn_len0 _ _ _ _ _ _) ?_); rintro u L' ⟨rfl, rfl⟩)); (first | refine ⟨rvsA, ?_⟩ | (clear F M a; intro a w F M) | (clear M; intro w M))) | (refine svK F (h := ?_); clear F a; intro a F) | refine svK0 F (h := ?_) | ((refine sx_guardb F rfl (fun hg => ?_) (fun hg => ?_)) <;> (rw [hg] at F; (try (exact no hg)))) | (refine pvF (h := ?_); intro nb) | refine pvK (h := ?_) | refine pvK0 (h := ?_) | (refine pv_nil ?_; intro a w F M; (try (replace F := F.filt [0, 1, 4, 5, 6, 14] rfl))) | ((fail_if_success (with_reducible first | refine isW ?_ | refine isP ?_ | refine isL ?_)); (first | with_reducible refine sx_region ?_ | ((with_reducible refine isK ?_); (first | refine svT F (h := ?_) | refine svF F (h := ?_) | ((refine svB F (fun hc => ?_) (fun hc => ?_)) <;> (try (exact no hc))))) | ((with_reducible refine isD ?_); (first | (refine svDraw (id := 4) [] [] [] [0, 1, 2, 3, 4, 5, 6, 7, 8, 9, 10, 11, 12, 13, 14, 15, 16, 17, 18, 19] F M (h := ?_); clear F M a w))) | with_reducible refine wp_scope_straight ?_ | with_reducible refine wp_label ?_ | go_step))))
  (all_goals ((first | refine svEnd F M ?_ | refine svRet F M ?_); exact ⟨_, _, rfl, ⟨rfl, rfl⟩, M.perms permsA⟩))
theorem rgn_peek (b size : Nat) (q : List (Nat)) (i : Nat) (x : Nat) (hx : q[i]? = some x) (R : List Asn) : Spec 160 [ptr b, .int .i64 i] (rgnA b size q :: R) fun u L' => u = .tuple [natV x, .bool true].toArray ∧ L' = rgnA b size q :: R := by
  intro G w M
  obtain ⟨z, hz, M⟩ := rgn_open M
  refine (rgn_peekO b size q z hz i x hx R G w (by simpa using M)).mono ?_
  rintro e w' ⟨u, L', k1, ⟨k2, rfl⟩, k3⟩
  exact ⟨u, _, k1, ⟨k2, rfl⟩, rgn_close hz (by simpa using k3)⟩
theorem rgn_all (b size : Nat) (q : List (Nat)) (hq : q.length ≤ 4096) (R : List Asn) : Spec 80 [ptr b] (rgnA b size q :: R) fun u L' => ∃ h, u = sl h ∧ L' = ownT 3 natL 1 (sl h) q :: rgnA b size q :: R := by
  (intro G w M; refine sx_enter (vs := ([ptr b] : List Value)) Tryz.func80 (n := 24) rfl rfl rfl rfl ?_; intro a F; (try simp only [List.cons_append, List.nil_append] at M))
  replace M := M.own_nil 3 1
  (repeat' (first | (refine sx_nil ?_; (try (replace F := F.filt [0, 2, 3, 4, 5, 8, 9, 10] rfl))) | (refine sv1 F M (h := ?_); clear F a; intro a F) | refine pv1 (h := ?_) | (refine sv3 F M (h := ?_); clear M; intro w M) | (refine sv2 F M (h := ?_); clear F M a; intro nb a w F M) | refine pv3 (h := ?_) | (refine pv2 (h := ?_); intro nb) | ((first | refine svC F M (h := ?_) | refine svC0 F M (h := ?_) | refine pvC (h := ?_) | refine pvC0 (h := ?_)); (((refine acK (k := 159) (rgn_len b size q _) ?_); rintro u L' ⟨rfl, rfl⟩)); (first | refine ⟨rvsA, ?_⟩ | (clear F M a; intro a w F M) | (clear M; intro w M))) | (refine svK F (h := ?_); clear F a; intro a F) | refine svK0 F (h := ?_) | ((refine sx_guardb F rfl (fun hg => ?_) (fun hg => ?_)) <;> (rw [hg] at F; (try (exact no hg)))) | (refine pvF (h := ?_); intro nb) | refine pvK (h := ?_) | refine pvK0 (h := ?_) | (refine pv_nil ?_; intro a w F M; (try (replace F := F.filt [0, 2, 3, 4, 5, 8, 9, 10] rfl))) | ((fail_if_success (with_reducible first | refine isW ?_ | refine isP ?_ | refine isL ?_)); (first | with_reducible refine sx_region ?_ | ((with_reducible refine isK ?_); (first | refine svT F (h := ?_) | refine svF F (h := ?_) | ((refine svB F (fun hc => ?_) (fun hc => ?_)) <;> (try (exact no hc))))) | ((with_reducible refine isD ?_); fail) | with_reducible refine wp_scope_straight ?_ | with_reducible refine wp_label ?_ | go_step))))
  refine svLoop F M ((0, ⟨none, 0, 0⟩) : Nat × SlH) (fun z => [(9, .int .i64 z.1), (3, sl z.2)]) (fun z => [ownT 3 natL 1 (sl z.2) (q.take z.1)]) (fun z => z.1 ≤ q.length) (fun z => q.length - z.1) [4, 5, 6] (by simp) ?_
  (rintro ⟨k, v⟩ q1 a w F M; (try simp only [List.cons_append, List.nil_append] at F M q1 ⊢))
  try simp only at q1
  by_cases hlt : k < q.length
  · obtain ⟨x, hx⟩ : ∃ x, q[k]? = some x := ⟨q[k], by simp [hlt]⟩
    have htk : q.take (k + 1) = q.take k ++ [x] := by rw [List.take_add_one, hx]; rfl
    (repeat' (first | (refine sx_nil ?_; (try (replace F := F.filt [0, 2, 3, 4, 5, 8, 9, 10] rfl))) | (refine sv1 F M (h := ?_); clear F a; intro a F) | refine pv1 (h := ?_) | (refine sv3 F M (h := ?_); clear M; intro w M) | (refine sv2 F M (h := ?_); clear F M a; intro nb a w F M) | refine pv3 (h := ?_) | (refine pv2 (h := ?_); intro nb) | ((first | refine svC F M (h := ?_) | refine svC0 F M (h := ?_) | refine pvC (h := ?_) | refine pvC0 (h := ?_)); ((first | ((refine acK (k := 160) (rgn_peek b size q k x hx _) ?_); rintro u L' ⟨rfl, rfl⟩) | (refine ac_appendH (f := natL) (xs := q.take k) (ys := [x]) rfl rfl inferInstance rfl rfl (by (focus ((repeat (first | exact Pull.here | apply Pull.there)); done))) inferInstance (gs_own (by (focus ((repeat (first | exact Pull.here | apply Pull.there)); done)))) rfl rfl (by simp; omega) ?_; intro v3))); (first | refine ⟨rvsA, ?_⟩ | (clear F M a; intro a w F M) | (clear M; intro w M))) | (refine svK F (h := ?_); clear F a; intro a F) | refine svK0 F (h := ?_) | ((refine sx_guardb F rfl (fun hg => ?_) (fun hg => ?_)) <;> (rw [hg] at F; (try (exact no hg)))) | (refine pvF (h := ?_); intro nb) | refine pvK (h := ?_) | refine pvK0 (h := ?_) | (refine pv_nil ?_; intro a w F M; (try (replace F := F.filt [0, 2, 3, 4, 5, 8, 9, 10] rfl))) | ((fail_if_success (with_reducible first | refine isW ?_ | refine isP ?_ | refine isL ?_)); (first | with_reducible refine sx_region ?_ | ((with_reducible refine isK ?_); (first | refine svT F (h := ?_) | refine svF F (h := ?_) | ((refine svB F (fun hc => ?_) (fun hc => ?_)) <;> (try (exact no hc))))) | ((with_reducible refine isD ?_); fail) | with_reducible refine wp_scope_straight ?_ | with_reducible refine wp_label ?_ | go_step))))
    exact sv_again F M (k + 1, v3) kpA (by simp only; rw [htk]; exact permsA) (by simp only; omega) (by simp only; omega)
  · rw [List.take_of_length_le (by omega)] at M
    (repeat' (first | (refine sx_nil ?_; (try (replace F := F.filt [0, 2, 3, 4, 5, 8, 9, 10] rfl))) | (refine sv1 F M (h := ?_); clear F a; intro a F) | refine pv1 (h := ?_) | (refine sv3 F M (h := ?_); clear M; intro w M) | (refine sv2 F M (h := ?_); clear F M a; intro nb a w F M) | refine pv3 (h := ?_) | (refine pv2 (h := ?_); intro nb) | ((first | refine svC F M (h := ?_) | refine svC0 F M (h := ?_) | refine pvC (h := ?_) | refine pvC0 (h := ?_)); (fail); (first | refine ⟨rvsA, ?_⟩ | (clear F M a; intro a w F M) | (clear M; intro w M))) | (refine svK F (h := ?_); clear F a; intro a F) | refine svK0 F (h := ?_) | ((refine sx_guardb F rfl (fun hg => ?_) (fun hg => ?_)) <;> (rw [hg] at F; (try (exact no hg)))) | (refine pvF (h := ?_); intro nb) | refine pvK (h := ?_) | refine pvK0 (h := ?_) | (refine pv_nil ?_; intro a w F M; (try (replace F := F.filt [0, 2, 3, 4, 5, 8, 9, 10] rfl))) | ((fail_if_success (with_reducible first | refine isW ?_ | refine isP ?_ | refine isL ?_)); (first | with_reducible refine sx_region ?_ | ((with_reducible refine isK ?_); (first | refine svT F (h := ?_) | refine svF F (h := ?_) | ((refine svB F (fun hc => ?_) (fun hc => ?_)) <;> (try (exact no hc))))) | ((with_reducible refine isD ?_); fail) | with_reducible refine wp_scope_straight ?_ | with_reducible refine wp_label ?_ | go_step))))
    (all_goals ((first | refine svEnd F M ?_ | refine svRet F M ?_); exact ⟨_, _, rfl, ⟨v, rfl, rfl⟩, M.perms permsA⟩))
theorem rgn_new (size : Nat) (h : 1 ≤ size ∧ size ≤ 4096) (R : List Asn) : Spec 60 [.int .i64 size] R fun u L' => ∃ b, u = ptr b ∧ L' = rgnA b size [] :: R := by
  obtain ⟨h1, h2⟩ := h
  (intro G w M; refine sx_enter (vs := ([.int .i64 size] : List Value)) Tryz.func60 (n := 12) rfl rfl rfl rfl ?_; intro a F; (try simp only [List.cons_append, List.nil_append] at M))
  (repeat' (first | (refine sx_nil ?_; (try (replace F := F.filt [0, 2, 8] rfl))) | (refine sv1 F M (h := ?_); clear F a; intro a F) | refine pv1 (h := ?_) | (refine sv3 F M (h := ?_); clear M; intro w M) | (refine sv2 F M (h := ?_); clear F M a; intro nb a w F M) | refine pv3 (h := ?_) | (refine pv2 (h := ?_); intro nb) | ((first | refine svC F M (h := ?_) | refine svC0 F M (h := ?_) | refine pvC (h := ?_) | refine pvC0 (h := ?_)); (fail); (first | refine ⟨rvsA, ?_⟩ | (clear F M a; intro a w F M) | (clear M; intro w M))) | (refine svK F (h := ?_); clear F a; intro a F) | refine svK0 F (h := ?_) | ((refine sx_guardb F rfl (fun hg => ?_) (fun hg => ?_)) <;> (rw [hg] at F; (try (exact no hg)))) | (refine pvF (h := ?_); intro nb) | refine pvK (h := ?_) | refine pvK0 (h := ?_) | (refine pv_nil ?_; intro a w F M; (try (replace F := F.filt [0, 2, 8] rfl))) | ((fail_if_success (with_reducible first | refine isW ?_ | refine isP ?_ | refine isL ?_)); (first | with_reducible refine sx_region ?_ | ((with_reducible refine isK ?_); (first | refine svT F (h := ?_) | refine svF F (h := ?_) | ((refine svB F (fun hc => ?_) (fun hc => ?_)) <;> (try (exact no hc))))) | ((with_reducible refine isD ?_); fail) | with_reducible refine wp_scope_straight ?_ | with_reducible refine wp_label ?_ | go_step))))
  all_goals (first | refine svEnd F M ?_ | refine svRet F M ?_)
  refine ⟨_, _, rfl, ⟨nb, rfl, rfl⟩, ?_⟩
  replace M := M.own_nil 3 1
  exact rgn_close (z := ⟨⟨none, 0, 0⟩, [], 0⟩) ⟨by simp, by simp, ⟨h1, h2⟩, .inr ⟨rfl, rfl⟩, fun i hi => by simp at hi⟩ (M.perms permsA)
end Go.Proofs.YtopbohbkhljjgaaGreat
end
section
namespace Go.Proofs.YtopbohbkhljjgaaGreat
open Go.RowKit
set_option linter.unusedVariables false
set_option maxRecDepth 100000
set_option linter.unusedSimpArgs false
set_option maxHeartbeats 4000000
section
variable {w : World} {L : List Asn} {α : Type}
/-- A list of owned things. -/
def arrA (f : α → Asn) (l : List α) : Asn := exA fun _ : Unit => l.map f
theorem arr_close {f : α → Asn} {l1 l2 : List α} {x : α} (M : Mem w (f x :: arrA f (l1 ++ l2) :: L)) : Mem w (arrA f (l1 ++ x :: l2) :: L) := by
  obtain ⟨_, M⟩ := M.swap.exo
  have M := M.front
  rw [List.map_append, List.append_assoc] at M
  have M := M.back
  refine Mem.exc (f := fun _ : Unit => (l1 ++ x :: l2).map f) () ?_
  simp only [List.map_append, List.map_cons, List.append_assoc, List.cons_append]
  exact M
theorem arr_nil {f : α → Asn} (M : Mem w L) : Mem w (arrA f [] :: L) := Mem.exc (f := fun _ : Unit => ([] : List α).map f) () M
theorem arr_rep {f : α → Asn} {x : α} (h : ∀ {L : List Asn}, Mem w L → Mem w (f x :: L)) (M : Mem w L) : ∀ n, Mem w (arrA f (List.replicate n x) :: L)
  | 0 => arr_nil M
  | n + 1 => by
    have := arr_close (l1 := []) (x := x) (l2 := List.replicate n x) (h (arr_rep h M n))
    simpa [List.replicate_succ] using this
end
def enL (e : Int × Nat) : List Value := [.int .i64 e.1, .int .i64 (e.2 : Int)]
instance : EL enL 2 := ⟨fun _ => rfl, fun x u h => by simp [enL] at h; rcases h with rfl | rfl <;> rfl⟩
def shL (h : SlH) : List Value := [sl h]
instance : EL shL 1 := ⟨fun _ => rfl, fun x u h => by simp [shL] at h; subst h; rfl⟩
end Go.Proofs.YtopbohbkhljjgaaGreat
end
section
namespace Go.Proofs.YtopbohbkhljjgaaGreat
open Go.RowKit
set_option linter.unusedVariables false
set_option maxRecDepth 100000
set_option linter.unusedSimpArgs false
set_option maxHeartbeats 4000000
section
variable {o : Oper} {n : Nat} {l : List (Nat × Value)} {L : List Asn} {C : Value → List Asn → Prop}
/-- append(nil, make([]T, k)...) -/
theorem ac_appendZ {x y : Operand} {t tn : TypeId} {ats : Array TypeId} (ho : o.op = .call { callee := .builtin .append, args := #[x, y], argTypes := ats }) (hat : ats = #[t, tn]) {e : TypeId} {z : Value} {size bytes : Nat} (ht : ST t e z size bytes) {kn : IntKind} (htn : Tryz.prog.underlying tn = some (.int kn)) (hx : evl l x = some (.slice none 0 0)) {kd : IntKind} {k : Nat} (hy : evl l y = some (.int kd (k : Int)))
    (h0 : 0 < k) (hm : k ≤ maxLen) (hb : k * bytes ≤ 281474976710656) (h : ∀ b c xs, C (sl ⟨some ⟨b, 0, none⟩, k, c⟩) (own e size (sl ⟨some ⟨b, 0, none⟩, k, c⟩) k xs :: L)) : AC o l L n C := fun G a w F M => by
  obtain ⟨i, hu, hi, hz, hsize, hby, hzs, hsz⟩ := st_info ht
  subst hat; subst hsize; subst hby
  have hr := Lib.run_append_nil_zeros (P := Tryz.prog) w t tn o.type e i z kd kn hu htn hi hz k h0 hsz (by simp only [maxLen] at hm; omega) hb
  have : (execOp a.eval o).run Tryz.prog w = .ok (.value (sl ⟨some ⟨w.heap.size, 0, none⟩, k, grownCap w k 0 e⟩)) (w.drew.alloc (.cells (Builtin.zeroCells z.cells k ++ Builtin.zeroCells z.cells (grownCap w k 0 e - k)) e)) := by
    unfold execOp
    rw [ho]
    simp [resolve, invoke, builtin, F.eval hx, F.eval hy, hr, sl]
  rw [this]
  have hge := grownCap_ge w k 0 e
  have hcm : grownCap w k 0 e ≤ maxLen := grownCap_le_maxLen w k 0 e hm
  refine ⟨_, h _ _ (Builtin.zeroCells z.cells k).toList, M.new ⟨rfl, rfl, rfl, by simp, fun k hk _ => ((Below.refl w.drew.heap.size w.drew).alloc (Nat.le_refl _) _).block k hk⟩ ⟨[w.heap.size], ok_own (by rw [Array.length_toList, size_zeroCells, hzs]) (heap_alloc_new w.drew _) hge hcm ?_ ?_, by simp⟩⟩
  · simp only [Array.size_append, size_zeroCells, hzs, ← Nat.add_mul]
    congr 1
    omega
  · rw [Array.toList_append]
    have : k * i.size = (Builtin.zeroCells z.cells k).toList.length := by rw [Array.length_toList, size_zeroCells, hzs]
    rw [this]
    exact List.take_left
theorem rt_capS {x : Operand} {ats : Array TypeId} {t : TypeId} (ho : o.op = .call { callee := .builtin .cap, args := #[x], argTypes := ats }) (hat : ats = #[t]) {p : Option Addr} {m c : Nat} (hx : evl l x = some (.slice p m c)) {e : TypeId} {z : Value} {size bytes : Nat} (ht : ST t e z size bytes) : RT o l L n (.int .i64 c) := fun a w F M => by
  unfold execOp
  rw [ho]
  subst hat
  simp [resolve, invoke, builtin, Builtin.cap_, F.eval hx, run_underlying ht.k.1 w, goInt]
end
theorem growI_spec (k : Nat) (hk : k ≤ 1000000) (R : List Asn) : Spec 246 [.slice none 0 0, .int .i64 k] R fun u L' => ∃ h, u = sl h ∧ L' = ownT 3 intL 1 (sl h) [] :: R := by
  (intro G w M; refine sx_enter (vs := ([.slice none 0 0, .int .i64 k] : List Value)) Tryz.func246 (n := 27) rfl rfl rfl rfl ?_; intro a F; (try simp only [List.cons_append, List.nil_append] at M))
  by_cases h0 : k = 0
  · subst h0
    (repeat' (first | ((first | refine sv1 F M (h := ?_) (hr := by ((apply rt_capS; (exact rfl); (exact rfl); (exact rfl); (exact inferInstance)))) | refine pv1 (h := ?_) (hr := by ((apply rt_capS; (exact rfl); (exact rfl); (exact rfl); (exact inferInstance))))); (try (clear F a; intro a F))) | (refine sx_nil ?_; (try (replace F := F.filt [0, 1, 4, 6, 16] rfl))) | (refine sv1 F M (h := ?_); clear F a; intro a F) | refine pv1 (h := ?_) | (refine sv3 F M (h := ?_); clear M; intro w M) | (refine sv2 F M (h := ?_); clear F M a; intro nb a w F M) | refine pv3 (h := ?_) | (refine pv2 (h := ?_); intro nb) | ((first | refine svC F M (h := ?_) | refine svC0 F M (h := ?_) | refine pvC (h := ?_) | refine pvC0 (h := ?_)); (fail); (first | refine ⟨rvsA, ?_⟩ | (clear F M a; intro a w F M) | (clear M; intro w M))) | (refine svK F (h := ?_); clear F a; intro a F) | refine svK0 F (h := ?_) | ((refine sx_guardb F rfl (fun hg => ?_) (fun hg => ?_)) <;> (rw [hg] at F; (try (exact no hg)))) | (refine pvF (h := ?_); intro nb) | refine pvK (h := ?_) | refine pvK0 (h := ?_) | (refine pv_nil ?_; intro a w F M; (try (replace F := F.filt [0, 1, 4, 6, 16] rfl))) | ((fail_if_success (with_reducible first | refine isW ?_ | refine isP ?_ | refine isL ?_)); (first | with_reducible refine sx_region ?_ | ((with_reducible refine isK ?_); (first | refine svT F (h := ?_) | refine svF F (h := ?_) | ((refine svB F (fun hc => ?_) (fun hc => ?_)) <;> (try (exact no hc))))) | ((with_reducible refine isD ?_); fail) | with_reducible refine wp_scope_straight ?_ | with_reducible refine wp_label ?_ | go_step))))
    (first | refine svEnd F M ?_ | refine svRet F M ?_)
    exact ⟨_, _, rfl, ⟨⟨none, 0, 0⟩, rfl, rfl⟩, (M.own_nil 3 1).perms permsA⟩
  · have h1 : 0 < k := by omega
    (repeat' (first | ((first | refine sv1 F M (h := ?_) (hr := by ((first | (apply rt_capS; (exact rfl); (exact rfl); (exact rfl); (exact inferInstance)) | (apply rt_to (h := ⟨none, 0, 0⟩) (k := .i64) (j := 0); (exact rfl); (exact rfl); (exact rfl); (exact inferInstance); (exact Nat.le_refl _)) | (apply rt_to (h := ⟨some ⟨nb, 0, none⟩, k, nc⟩) (k := .i64) (j := 0); (exact rfl); (exact rfl); (exact rfl); (exact inferInstance); (exact Nat.zero_le _))))) | refine pv1 (h := ?_) (hr := by ((first | (apply rt_capS; (exact rfl); (exact rfl); (exact rfl); (exact inferInstance)) | (apply rt_to (h := ⟨none, 0, 0⟩) (k := .i64) (j := 0); (exact rfl); (exact rfl); (exact rfl); (exact inferInstance); (exact Nat.le_refl _)) | (apply rt_to (h := ⟨some ⟨nb, 0, none⟩, k, nc⟩) (k := .i64) (j := 0); (exact rfl); (exact rfl); (exact rfl); (exact inferInstance); (exact Nat.zero_le _)))))); (try (clear F a; intro a F))) | (refine sx_nil ?_; (try (replace F := F.filt [0, 1, 4, 6, 16] rfl))) | (refine sv1 F M (h := ?_); clear F a; intro a F) | refine pv1 (h := ?_) | (refine sv3 F M (h := ?_); clear M; intro w M) | (refine sv2 F M (h := ?_); clear F M a; intro nb a w F M) | refine pv3 (h := ?_) | (refine pv2 (h := ?_); intro nb) | ((first | refine svC F M (h := ?_) | refine svC0 F M (h := ?_) | refine pvC (h := ?_) | refine pvC0 (h := ?_)); ((refine ac_appendZ rfl rfl inferInstance (k := k) (kn := .i64) (by kernel_rfl) rfl rfl h1 (by simp only [maxLen]; omega) (by omega) ?_; intro nb nc nx)); (first | refine ⟨rvsA, ?_⟩ | (clear F M a; intro a w F M) | (clear M; intro w M))) | (refine svK F (h := ?_); clear F a; intro a F) | refine svK0 F (h := ?_) | ((refine sx_guardb F rfl (fun hg => ?_) (fun hg => ?_)) <;> (rw [hg] at F; (try (exact no hg)))) | (refine pvF (h := ?_); intro nb) | refine pvK (h := ?_) | refine pvK0 (h := ?_) | (refine pv_nil ?_; intro a w F M; (try (replace F := F.filt [0, 1, 4, 6, 16] rfl))) | ((fail_if_success (with_reducible first | refine isW ?_ | refine isP ?_ | refine isL ?_)); (first | with_reducible refine sx_region ?_ | ((with_reducible refine isK ?_); (first | refine svT F (h := ?_) | refine svF F (h := ?_) | ((refine svB F (fun hc => ?_) (fun hc => ?_)) <;> (try (exact no hc))))) | ((with_reducible refine isD ?_); fail) | with_reducible refine wp_scope_straight ?_ | with_reducible refine wp_label ?_ | go_step))))
    all_goals (first | refine svEnd F M ?_ | refine svRet F M ?_)
    have M2 := own_cut (j := 0) M (Nat.zero_le _)
    rw [Nat.zero_mul, List.take_zero] at M2
    exact ⟨_, _, rfl, ⟨⟨some ⟨nb, 0, none⟩, 0, nc⟩, rfl, rfl⟩, M2.perms permsA⟩
/-- The slices that are joined, and what they hold. -/
abbrev qsL (Q : List (SlH × List Int)) : List SlH := Q.map (·.1)
def catQ (Q : List (SlH × List Int)) : List Int := Q.flatMap (·.2)
theorem catQ_take {Q : List (SlH × List Int)} {k : Nat} {p : SlH × List Int} (h : Q[k]? = some p) : catQ (Q.take (k + 1)) = catQ (Q.take k) ++ p.2 := by
  unfold catQ
  rw [List.take_add_one, h, List.flatMap_append]
  simp
theorem catQ_le (Q : List (SlH × List Int)) (k : Nat) : (catQ (Q.take k)).length ≤ (catQ Q).length := by
  have : catQ Q = catQ (Q.take k) ++ catQ (Q.drop k) := by unfold catQ; rw [← List.flatMap_append, List.take_append_drop]
  rw [this, List.length_append]; omega
theorem concatI_spec (hq : SlH) (Q : List (SlH × List Int)) (hl : (catQ Q).length ≤ 1000000) (hn : Q.length ≤ 1000) (R : List Asn) (hG : ∀ p ∈ Q, GS R 1 (sl p.1) p.2.length (p.2.flatMap intL)) :
    Spec 185 [sl hq] (ownT 24 shL 1 (sl hq) (qsL Q) :: R) fun u L' => ∃ h, u = sl h ∧ L' = ownT 3 intL 1 (sl h) (catQ Q) :: ownT 24 shL 1 (sl hq) (qsL Q) :: R := by
  (intro G w M; refine sx_enter (vs := ([sl hq] : List Value)) Tryz.func185 (n := 36) rfl rfl rfl rfl ?_; intro a F; (try simp only [List.cons_append, List.nil_append] at M))
  have hG' : ∀ p ∈ Q, GS (R ++ G) 1 (sl p.1) p.2.length (p.2.flatMap intL) := fun p hp => Gives.app (hG p hp)
  have hql : (qsL Q).length = Q.length := by simp
  (repeat' (first | (refine sx_nil ?_; (try (replace F := F.filt [0, 2, 3, 5, 6, 8, 9, 10, 11, 12, 20, 25, 26, 27, 28] rfl))) | (refine sv1 F M (h := ?_); clear F a; intro a F) | refine pv1 (h := ?_) | (refine sv3 F M (h := ?_); clear M; intro w M) | (refine sv2 F M (h := ?_); clear F M a; intro nb a w F M) | refine pv3 (h := ?_) | (refine pv2 (h := ?_); intro nb) | ((first | refine svC F M (h := ?_) | refine svC0 F M (h := ?_) | refine pvC (h := ?_) | refine pvC0 (h := ?_)); (fail); (first | refine ⟨rvsA, ?_⟩ | (clear F M a; intro a w F M) | (clear M; intro w M))) | (refine svK F (h := ?_); clear F a; intro a F) | refine svK0 F (h := ?_) | ((refine sx_guardb F rfl (fun hg => ?_) (fun hg => ?_)) <;> (rw [hg] at F; (try (exact no hg)))) | (refine pvF (h := ?_); intro nb) | refine pvK (h := ?_) | refine pvK0 (h := ?_) | (refine pv_nil ?_; intro a w F M; (try (replace F := F.filt [0, 2, 3, 5, 6, 8, 9, 10, 11, 12, 20, 25, 26, 27, 28] rfl))) | ((fail_if_success (with_reducible first | refine isW ?_ | refine isP ?_ | refine isL ?_)); (first | with_reducible refine sx_region ?_ | ((with_reducible refine isK ?_); (first | refine svT F (h := ?_) | refine svF F (h := ?_) | ((refine svB F (fun hc => ?_) (fun hc => ?_)) <;> (try (exact no hc))))) | ((with_reducible refine isD ?_); fail) | with_reducible refine wp_scope_straight ?_ | with_reducible refine wp_label ?_ | go_step))))
  refine svLoop F M (0 : Nat) (fun k => [(11, .int .i64 k), (3, .int .i64 (catQ (Q.take k)).length)]) (fun _ => []) (fun k => k ≤ Q.length) (fun k => Q.length - k) [5] (Nat.zero_le _) ?_
  (rintro k q1 a w F M; (try simp only [List.cons_append, List.nil_append] at F M q1 ⊢))
  have hle := catQ_le Q k
  by_cases hlt : k < Q.length
  · obtain ⟨p, hp⟩ : ∃ p, Q[k]? = some p := ⟨Q[k], by simp [hlt]⟩
    have hpm := List.mem_of_getElem? hp
    have hpg := hG' p hpm
    have hle2 := catQ_le Q (k + 1)
    have hcat := catQ_take hp
    have hcl := congrArg List.length hcat
    rw [List.length_append] at hcl
    have hq1 : (qsL Q)[k]? = some p.1 := by simp [hp]
    (repeat' (first | (refine sx_nil ?_; (try (replace F := F.filt [0, 2, 3, 5, 6, 8, 9, 10, 11, 12, 20, 25, 26, 27, 28] rfl))) | (refine sv1 F M (h := ?_); clear F a; intro a F) | refine pv1 (h := ?_) | (refine sv3 F M (h := ?_); clear M; intro w M) | (refine sv2 F M (h := ?_); clear F M a; intro nb a w F M) | refine pv3 (h := ?_) | (refine pv2 (h := ?_); intro nb) | ((first | refine svC F M (h := ?_) | refine svC0 F M (h := ?_) | refine pvC (h := ?_) | refine pvC0 (h := ?_)); (fail); (first | refine ⟨rvsA, ?_⟩ | (clear F M a; intro a w F M) | (clear M; intro w M))) | (refine svK F (h := ?_); clear F a; intro a F) | refine svK0 F (h := ?_) | ((refine sx_guardb F rfl (fun hg => ?_) (fun hg => ?_)) <;> (rw [hg] at F; (try (exact no hg)))) | (refine pvF (h := ?_); intro nb) | refine pvK (h := ?_) | refine pvK0 (h := ?_) | (refine pv_nil ?_; intro a w F M; (try (replace F := F.filt [0, 2, 3, 5, 6, 8, 9, 10, 11, 12, 20, 25, 26, 27, 28] rfl))) | ((fail_if_success (with_reducible first | refine isW ?_ | refine isP ?_ | refine isL ?_)); (first | with_reducible refine sx_region ?_ | ((with_reducible refine isK ?_); (first | refine svT F (h := ?_) | refine svF F (h := ?_) | ((refine svB F (fun hc => ?_) (fun hc => ?_)) <;> (try (exact no hc))))) | ((with_reducible refine isD ?_); fail) | with_reducible refine wp_scope_straight ?_ | with_reducible refine wp_label ?_ | go_step))))
    have e3 : ((catQ (Q.take (k + 1))).length : Int) = (catQ (Q.take k)).length + p.2.length := by omega
    rw [← e3] at F
    refine sv_again F M (k + 1) kpA permsA (by omega) (by omega)
  · obtain rfl : k = Q.length := by omega
    have hcat : catQ (Q.take Q.length) = catQ Q := by rw [List.take_length]
    rw [hcat] at F
    (repeat' (first | (refine sx_nil ?_; (try (replace F := F.filt [0, 2, 3, 5, 6, 8, 9, 10, 11, 12, 20, 25, 26, 27, 28] rfl))) | (refine sv1 F M (h := ?_); clear F a; intro a F) | refine pv1 (h := ?_) | (refine sv3 F M (h := ?_); clear M; intro w M) | (refine sv2 F M (h := ?_); clear F M a; intro nb a w F M) | refine pv3 (h := ?_) | (refine pv2 (h := ?_); intro nb) | ((first | refine svC F M (h := ?_) | refine svC0 F M (h := ?_) | refine pvC (h := ?_) | refine pvC0 (h := ?_)); (((refine acW (k := 246) (growI_spec (catQ Q).length hl _) ?_); rintro u L' ⟨h, rfl, rfl⟩)); (first | refine ⟨rvsA, ?_⟩ | (clear F M a; intro a w F M) | (clear M; intro w M))) | (refine svK F (h := ?_); clear F a; intro a F) | refine svK0 F (h := ?_) | ((refine sx_guardb F rfl (fun hg => ?_) (fun hg => ?_)) <;> (rw [hg] at F; (try (exact no hg)))) | (refine pvF (h := ?_); intro nb) | refine pvK (h := ?_) | refine pvK0 (h := ?_) | (refine pv_nil ?_; intro a w F M; (try (replace F := F.filt [0, 2, 3, 5, 6, 8, 9, 10, 11, 12, 20, 25, 26, 27, 28] rfl))) | ((fail_if_success (with_reducible first | refine isW ?_ | refine isP ?_ | refine isL ?_)); (first | with_reducible refine sx_region ?_ | ((with_reducible refine isK ?_); (first | refine svT F (h := ?_) | refine svF F (h := ?_) | ((refine svB F (fun hc => ?_) (fun hc => ?_)) <;> (try (exact no hc))))) | ((with_reducible refine isD ?_); fail) | with_reducible refine wp_scope_straight ?_ | with_reducible refine wp_label ?_ | go_step))))
    refine svLoop F M ((0, h) : Nat × SlH) (fun s => [(27, .int .i64 s.1), (6, sl s.2)]) (fun s => [ownT 3 intL 1 (sl s.2) (catQ (Q.take s.1))]) (fun s => s.1 ≤ Q.length) (fun s => Q.length - s.1) [8] (Nat.zero_le _) ?_ (hR := by rw [List.take_zero]; exact .cons .here .nil)
    (rintro ⟨k, h⟩ q1 a w F M; (try simp only [List.cons_append, List.nil_append] at F M q1 ⊢))
    have hle := catQ_le Q k
    by_cases hlt : k < Q.length
    · obtain ⟨p, hp⟩ : ∃ p, Q[k]? = some p := ⟨Q[k], by simp [hlt]⟩
      have hpm := List.mem_of_getElem? hp
      have hpg := hG' p hpm
      have hle2 := catQ_le Q (k + 1)
      have hcat := catQ_take hp
      have hcl := congrArg List.length hcat
      rw [List.length_append] at hcl
      have hq1 : (qsL Q)[k]? = some p.1 := by simp [hp]
      (repeat' (first | (refine sx_nil ?_; (try (replace F := F.filt [0, 2, 3, 5, 6, 8, 9, 10, 11, 12, 20, 25, 26, 27, 28] rfl))) | (refine sv1 F M (h := ?_); clear F a; intro a F) | refine pv1 (h := ?_) | (refine sv3 F M (h := ?_); clear M; intro w M) | (refine sv2 F M (h := ?_); clear F M a; intro nb a w F M) | refine pv3 (h := ?_) | (refine pv2 (h := ?_); intro nb) | ((first | refine svC F M (h := ?_) | refine svC0 F M (h := ?_) | refine pvC (h := ?_) | refine pvC0 (h := ?_)); ((refine ac_appendH rfl rfl inferInstance rfl rfl pullA inferInstance (ys := p.2) gsA rfl rfl (by omega) ?_; intro nv)); (first | refine ⟨rvsA, ?_⟩ | (clear F M a; intro a w F M) | (clear M; intro w M))) | (refine svK F (h := ?_); clear F a; intro a F) | refine svK0 F (h := ?_) | ((refine sx_guardb F rfl (fun hg => ?_) (fun hg => ?_)) <;> (rw [hg] at F; (try (exact no hg)))) | (refine pvF (h := ?_); intro nb) | refine pvK (h := ?_) | refine pvK0 (h := ?_) | (refine pv_nil ?_; intro a w F M; (try (replace F := F.filt [0, 2, 3, 5, 6, 8, 9, 10, 11, 12, 20, 25, 26, 27, 28] rfl))) | ((fail_if_success (with_reducible first | refine isW ?_ | refine isP ?_ | refine isL ?_)); (first | with_reducible refine sx_region ?_ | ((with_reducible refine isK ?_); (first | refine svT F (h := ?_) | refine svF F (h := ?_) | ((refine svB F (fun hc => ?_) (fun hc => ?_)) <;> (try (exact no hc))))) | ((with_reducible refine isD ?_); fail) | with_reducible refine wp_scope_straight ?_ | with_reducible refine wp_label ?_ | go_step))))
      rw [← hcat] at M
      refine sv_again F M (k + 1, nv) kpA permsA (by simp only; omega) (by simp only; omega)
    · obtain rfl : k = Q.length := by omega
      have hcat : catQ (Q.take Q.length) = catQ Q := by rw [List.take_length]
      rw [hcat] at M
      (repeat' (first | (refine sx_nil ?_; (try (replace F := F.filt [0, 2, 3, 5, 6, 8, 9, 10, 11, 12, 20, 25, 26, 27, 28] rfl))) | (refine sv1 F M (h := ?_); clear F a; intro a F) | refine pv1 (h := ?_) | (refine sv3 F M (h := ?_); clear M; intro w M) | (refine sv2 F M (h := ?_); clear F M a; intro nb a w F M) | refine pv3 (h := ?_) | (refine pv2 (h := ?_); intro nb) | ((first | refine svC F M (h := ?_) | refine svC0 F M (h := ?_) | refine pvC (h := ?_) | refine pvC0 (h := ?_)); (fail); (first | refine ⟨rvsA, ?_⟩ | (clear F M a; intro a w F M) | (clear M; intro w M))) | (refine svK F (h := ?_); clear F a; intro a F) | refine svK0 F (h := ?_) | ((refine sx_guardb F rfl (fun hg => ?_) (fun hg => ?_)) <;> (rw [hg] at F; (try (exact no hg)))) | (refine pvF (h := ?_); intro nb) | refine pvK (h := ?_) | refine pvK0 (h := ?_) | (refine pv_nil ?_; intro a w F M; (try (replace F := F.filt [0, 2, 3, 5, 6, 8, 9, 10, 11, 12, 20, 25, 26, 27, 28] rfl))) | ((fail_if_success (with_reducible first | refine isW ?_ | refine isP ?_ | refine isL ?_)); (first | with_reducible refine sx_region ?_ | ((with_reducible refine isK ?_); (first | refine svT F (h := ?_) | refine svF F (h := ?_) | ((refine svB F (fun hc => ?_) (fun hc => ?_)) <;> (try (exact no hc))))) | ((with_reducible refine isD ?_); fail) | with_reducible refine wp_scope_straight ?_ | with_reducible refine wp_label ?_ | go_step))))
      all_goals (first | refine svEnd F M ?_ | refine svRet F M ?_)
      exact ⟨_, _, rfl, ⟨h, rfl, rfl⟩, M.perms permsA⟩
end Go.Proofs.YtopbohbkhljjgaaGreat
end
section
namespace Go.Proofs.YtopbohbkhljjgaaGreat
open Go.RowKit Go.Maps
open Go.ChangeMaps (setBlock)
set_option linter.unusedVariables false
set_option maxRecDepth 100000
set_option linter.unusedSimpArgs false
set_option maxHeartbeats 1000000
def updF (k : Int) (v : Value) (p : Value × Value) : Value × Value := match p.1 with
  | .int .i64 x => if x = k then (.int .i64 k, v) else p
  | _ => p
theorem updF_hit (k : Int) (v u : Value) : updF k v (.int .i64 k, u) = (.int .i64 k, v) := by simp [updF]
theorem updF_miss {k : Int} {v : Value} {p : Value × Value} (h : p.1 ≠ .int .i64 k) : updF k v p = p := by
  unfold updF
  split
  · rename_i x hx
    rw [if_neg]
    intro e
    exact h (by rw [hx, e])
  · rfl
theorem updF_key (k : Int) (v : Value) (p : Value × Value) : (updF k v p).1 = p.1 := by
  unfold updF
  split
  · rename_i x hx
    split
    · rename_i e; rw [hx, e]
    · rfl
  · rfl
def updP (k : Int) (v : Value) (L : List (Value × Value)) : List (Value × Value) := L.map (updF k v)
theorem updP_keys (k : Int) (v : Value) (L : List (Value × Value)) : (updP k v L).map (·.1) = L.map (·.1) := by
  unfold updP
  rw [List.map_map]
  apply List.map_congr_left
  intro p _
  exact updF_key k v p
theorem nodup_at {α : Type} {l : List α} (h : l.Nodup) {i j : Nat} {x : α} (hi : l[i]? = some x) (hj : l[j]? = some x) : i = j := by
  rw [List.nodup_iff_pairwise_ne, List.pairwise_iff_getElem] at h
  obtain ⟨h1, h2⟩ := List.getElem?_eq_some_iff.1 hi
  obtain ⟨h3, h4⟩ := List.getElem?_eq_some_iff.1 hj
  rcases Nat.lt_trichotomy i j with hlt | rfl | hlt
  · exact absurd (h2.trans h4.symm) (h i j h1 h3 hlt)
  · rfl
  · exact absurd (h4.trans h2.symm) (h j i h3 h1 hlt)
section
variable {P : Program} {w : World} {b : Nat} {L : List (Value × Value)} {T K E : TypeId}
theorem run_mapUpdate_hit (hT : P.underlying T = some (.map K E)) (hK : Keyed P K) {k : Int} {v0 v : Value} {l : Lit} (hk : keyOf P K (.int .i64 k) = some l) (hm : MapIs P K w b L) (hin : (.int .i64 k, v0) ∈ L) :
    ∃ w', (Instr.mapUpdate T (.map (some b)) (.int .i64 k) v).run P w = .ok () w' ∧ MapIs P K w' b (updP k v L) ∧ Touch b w w' := by
  obtain ⟨es, clk, hb, hp, hl, hn⟩ := hm
  have hkeys : ∀ e ∈ es.toList, ∃ l, keyOf P K e.key = some l := fun e he => hl (e.key, e.val) (hp.mem_iff.1 (List.mem_map.2 ⟨e, he, rfl⟩))
  rcases hK.find w hk es.toList hkeys with ⟨_, h1⟩ | ⟨j, e, h1, h2, h3⟩
  · exfalso
    obtain ⟨e, he, hkv⟩ := List.mem_map.1 (hp.mem_iff.2 hin)
    exact h1 e he (congrArg Prod.fst hkv)
  · have hj : es[j]? = some e := by simpa using h2
    have hnd : (es.toList.map (·.key)).Nodup := by
      have := (hp.map (·.1)).nodup_iff.2 hn.1
      simpa [pairs, Function.comp_def] using this
    have hpairs : pairs (es.modify j fun e => { e with key := .int .i64 k, val := v }) = updP k v (pairs es) := by
      simp only [pairs, updP, Array.toList_modify, List.map_map]
      apply List.ext_getElem?
      intro i
      simp only [List.getElem?_map, List.getElem?_modify, Function.comp_def]
      by_cases hij : j = i
      · subst hij
        rw [h2]
        simp only [if_true, Option.map_some, h3, updF_hit]
        rfl
      · cases he : es.toList[i]? with
        | none => simp
        | some e' =>
          have hne : e'.key ≠ .int .i64 k := fun hh => by
            rw [← h3] at hh
            have i1 := (List.getElem?_eq_some_iff.1 he).1
            have i2 := (List.getElem?_eq_some_iff.1 h2).1
            exact hij (nodup_at hnd (by rw [List.getElem?_map, h2]; rfl) (by rw [List.getElem?_map, he]; simp [hh]))
          simp only [hij, if_false, Option.map_some]
          show some (e'.key, e'.val) = _
          rw [updF_miss (p := (e'.key, e'.val)) hne]
    refine ⟨setBlock w b (.map (es.modify j fun e => { e with key := .int .i64 k, val := v }) clk), ?_, ⟨es.modify j fun e => { e with key := .int .i64 k, val := v }, clk, ?_, ?_, ?_, ?_, ?_⟩, touch_setBlock w b _⟩
    · have hkt : (Instr.keyThatStays (.int .i64 k) (.int .i64 k)).run P w = .ok (.int .i64 k) w := by simp [Instr.keyThatStays, Instr.sameBits]
      simp [Instr.mapUpdate, run_underlying hT, MapKept.run_getObj_map hb, hK.check w false hk, h1, hj, h3, hkt, MapKept.run_setObj_map _ hb, Result.andThen, setBlock]
    · have := (Array.getElem?_eq_some_iff.1 hb).1
      simp [setBlock, this]
    · rw [hpairs]; exact hp.map _
    · intro p hp'
      obtain ⟨q, hq, rfl⟩ := List.mem_map.1 hp'
      rw [updF_key]
      exact hl q hq
    · rw [updP_keys]; exact hn.1
    · have hb1 : (es.modify j fun e => { e with key := .int .i64 k, val := v }).toList.map (·.born) = es.toList.map (·.born) := by
        apply List.ext_getElem?
        intro i
        simp only [Array.toList_modify, List.getElem?_map, List.getElem?_modify]
        by_cases hij : j = i
        · subst hij; rw [h2]; simp
        · simp [hij]
      refine ⟨by rw [hb1]; exact hn.2.1, fun e' he' => ?_⟩
      have : e'.born ∈ es.toList.map (·.born) := by rw [← hb1]; exact List.mem_map.2 ⟨e', he', rfl⟩
      obtain ⟨e2, he2, hbe⟩ := List.mem_map.1 this
      rw [← hbe]; exact hn.2.2 e2 he2
end
section
variable {o : Oper} {n : Nat} {l : List (Nat × Value)} {L : List Asn} {C : Value → List Asn → Prop}
theorem ac_mapHit {t : TypeId} {x y z : Operand} (ho : o.op = .mapUpdate t x y z) {b : Nat} (hx : evl l x = some (.map (some b))) {k : Int} {v0 v : Value} (hy : evl l y = some (.int .i64 k)) (hz : evl l z = some v) {K E : TypeId} (ht : MT t K E) {q : Lit} (hk : keyOf Tryz.prog K (.int .i64 k) = some q) {P : List (Value × Value)} {L2 : List Asn} (hp : Rep L (mp b K P) (mp b K (updP k v P)) L2) (hin : (.int .i64 k, v0) ∈ P) (h : C undef L2) : AC o l L n C := fun G a w F M => by
  obtain ⟨L', h1, h2⟩ := hp.both
  obtain ⟨w', e, hm, ht'⟩ := run_mapUpdate_hit (v := v) ht.k ht.h hk (gives_mp (h1.app G) w M) hin
  have : (execOp a.eval o).run Tryz.prog w = .ok .skip w' := by
    unfold execOp
    rw [ho]
    simp [F.eval hx, F.eval hy, F.eval hz, e]
  rw [this]
  refine ⟨L2, h, M.rep (hp.app G) fun s hs => ?_⟩
  obtain ⟨rfl, _⟩ := hs.now
  exact ⟨ht'.chg, [b], ok_mp hm, fun x hx => .inl hx⟩
end
end Go.Proofs.YtopbohbkhljjgaaGreat
end
section
namespace Go.Proofs.YtopbohbkhljjgaaGreat
open Go.RowKit Go.Maps
open Go.ChangeMaps (setBlock)
set_option linter.unusedVariables false
set_option maxRecDepth 100000
set_option linter.unusedSimpArgs false
set_option maxHeartbeats 1000000
def isInt (k : Int) : Value → Bool
  | .int .i64 x => decide (x = k)
  | _ => false
theorem isInt_iff {k : Int} {v : Value} : isInt k v = true ↔ v = .int .i64 k := by
  unfold isInt
  split
  · simp
  · rename_i h
    constructor
    · intro h; cases h
    · intro e; exact absurd e (h k)
def delP (k : Int) (L : List (Value × Value)) : List (Value × Value) := L.filter fun p => !isInt k p.1
theorem delP_miss {k : Int} {L : List (Value × Value)} (h : ∀ p ∈ L, p.1 ≠ .int .i64 k) : delP k L = L := by
  unfold delP
  rw [List.filter_eq_self]
  intro p hp
  cases hb : isInt k p.1 with
  | false => rfl
  | true => exact absurd (isInt_iff.1 hb) (h p hp)
theorem delP_at {k : Int} : ∀ {L : List (Value × Value)} {j : Nat} {p : Value × Value}, (L.map (·.1)).Nodup → L[j]? = some p → p.1 = .int .i64 k → L.eraseIdx j = delP k L
  | [], j, p, _, h, _ => by simp at h
  | q :: L, 0, p, hn, h, hk => by
    simp at h; subst h
    rw [List.map_cons, List.nodup_cons] at hn
    rw [List.eraseIdx_cons_zero]
    have : delP k (q :: L) = delP k L := by
      unfold delP
      rw [List.filter_cons, if_neg]
      simp [isInt_iff.2 hk]
    rw [this, delP_miss]
    intro p hp e
    exact hn.1 (by rw [hk, ← e]; exact List.mem_map.2 ⟨p, hp, rfl⟩)
  | q :: L, j + 1, p, hn, h, hk => by
    rw [List.map_cons, List.nodup_cons] at hn
    have h' : L[j]? = some p := by simpa using h
    have hq : isInt k q.1 = false := by
      cases hb : isInt k q.1 with
      | false => rfl
      | true => exact absurd (List.mem_map.2 ⟨p, List.mem_of_getElem? h', by rw [hk, ← isInt_iff.1 hb]⟩) hn.1
    rw [List.eraseIdx_cons_succ, delP_at hn.2 h' hk]
    unfold delP
    rw [List.filter_cons, if_pos (by simp [hq])]
theorem eraseIdx_mapF {α β : Type} (f : α → β) : ∀ (l : List α) (j : Nat), (l.map f).eraseIdx j = (l.eraseIdx j).map f
  | [], j => by simp
  | x :: l, 0 => by simp
  | x :: l, j + 1 => by simp [eraseIdx_mapF f l j]
section
variable {P : Program} {w : World} {b : Nat} {L : List (Value × Value)} {T K E : TypeId}
theorem run_mapDelete (hT : P.underlying T = some (.map K E)) (hK : Keyed P K) {k : Int} {l : Lit} (hk : keyOf P K (.int .i64 k) = some l) (hm : MapIs P K w b L) (X ty : TypeId) (hX : X = K) :
    ∃ w', (Builtin.delete_ #[T, X] ty #[.map (some b), .int .i64 k]).run P w = .ok (.tuple #[]) w' ∧ MapIs P K w' b (delP k L) ∧ Touch b w w' := by
  subst hX
  obtain ⟨es, clk, hb, hp, hl, hn⟩ := hm
  have hkeys : ∀ e ∈ es.toList, ∃ l, keyOf P X e.key = some l := fun e he => hl (e.key, e.val) (hp.mem_iff.1 (List.mem_map.2 ⟨e, he, rfl⟩))
  have hbs := (Array.getElem?_eq_some_iff.1 hb).1
  rcases hK.find w hk es.toList hkeys with ⟨h1, h2⟩ | ⟨j, e, h1, h2, h3⟩
  · refine ⟨setBlock w b (.map es clk), ?_, ⟨es, clk, by simp [setBlock, hbs], ?_, ?_, ?_, hn.2⟩, touch_setBlock w b _⟩
    · simp [Builtin.delete_, run_underlying hT, MapKept.run_getObj_map hb, hK.check w _ hk, h1, MapKept.run_setObj_map _ hb, Result.andThen, setBlock]
    · rw [delP_miss]
      · exact hp
      · intro p hp' e
        obtain ⟨x, hx, hxp⟩ := List.mem_map.1 (hp.mem_iff.2 hp')
        exact h2 x hx (by rw [← e, ← hxp])
    · exact fun p hp' => hl p (List.mem_filter.1 hp').1
    · exact hn.1.sublist ((List.filter_sublist).map _)
  · have hjl : j < es.toList.length := (List.getElem?_eq_some_iff.1 h2).1
    have hjs : j < es.size := by simpa using hjl
    have hsub : (es.eraseIdxIfInBounds j).toList = es.toList.eraseIdx j := by
      unfold Array.eraseIdxIfInBounds
      rw [dif_pos hjs]
      simp
    have hnd : ((pairs es).map (·.1)).Nodup := (hp.map (·.1)).nodup_iff.2 hn.1
    have he : pairs (es.eraseIdxIfInBounds j) = delP k (pairs es) := by
      rw [← delP_at (j := j) (p := (e.key, e.val)) hnd (by simp [pairs, h2]) h3]
      unfold pairs
      rw [hsub]
      exact (eraseIdx_mapF _ _ _).symm
    refine ⟨setBlock w b (.map (es.eraseIdxIfInBounds j) clk), ?_, ⟨es.eraseIdxIfInBounds j, clk, by simp [setBlock, hbs], ?_, ?_, ?_, ?_, ?_⟩, touch_setBlock w b _⟩
    · simp [Builtin.delete_, run_underlying hT, MapKept.run_getObj_map hb, hK.check w _ hk, h1, MapKept.run_setObj_map _ hb, Result.andThen, setBlock]
    · rw [he]; exact hp.filter _
    · exact fun p hp' => hl p (List.mem_filter.1 hp').1
    · exact hn.1.sublist ((List.filter_sublist).map _)
    · rw [hsub]; exact hn.2.1.sublist ((List.eraseIdx_sublist _ _).map _)
    · intro x hx
      rw [hsub] at hx
      exact hn.2.2 x ((List.eraseIdx_sublist _ _).subset hx)
end
section
variable {o : Oper} {n : Nat} {l : List (Nat × Value)} {L : List Asn} {C : Value → List Asn → Prop}
theorem ac_mapDel {x y : Operand} {ats : Array TypeId} {t X : TypeId} (ho : o.op = .call { callee := .builtin .delete, args := #[x, y], argTypes := ats }) (hat : ats = #[t, X]) {b : Nat} (hx : evl l x = some (.map (some b))) {k : Int} (hy : evl l y = some (.int .i64 k)) {K E : TypeId} (ht : MT t K E) (hXK : X = K) {q : Lit} (hk : keyOf Tryz.prog K (.int .i64 k) = some q) {P : List (Value × Value)} {L2 : List Asn} (hp : Rep L (mp b K P) (mp b K (delP k P)) L2) (h : C (.tuple #[]) L2) : AC o l L n C := fun G a w F M => by
  subst hat
  obtain ⟨L', h1, h2⟩ := hp.both
  obtain ⟨w', e, hm, ht'⟩ := run_mapDelete ht.k ht.h hk (gives_mp (h1.app G) w M) X o.type hXK
  have : (execOp a.eval o).run Tryz.prog w = .ok (.value (.tuple #[])) w' := by
    unfold execOp
    rw [ho]
    simp [resolve, invoke, builtin, F.eval hx, F.eval hy, e]
  rw [this]
  refine ⟨L2, h, M.rep (hp.app G) fun s hs => ?_⟩
  obtain ⟨rfl, _⟩ := hs.now
  exact ⟨ht'.chg, [b], ok_mp hm, fun x hx => .inl hx⟩
theorem rt_lenM {x : Operand} {ats : Array TypeId} {t : TypeId} (ho : o.op = .call { callee := .builtin .len, args := #[x], argTypes := ats }) (hat : ats = #[t]) {b : Nat} (hx : evl l x = some (.map (some b))) {K E : TypeId} (ht : MT t K E) {P : List (Value × Value)} (hg : Gives L fun w => MapIs Tryz.prog K w b P) : RT o l L n (.int .i64 P.length) := fun a w F M => by
  obtain ⟨es, clk, hb, hp, _⟩ := hg w M
  have hlen : P.length = es.size := by rw [← hp.length_eq]; simp [pairs]
  subst hat
  unfold execOp
  rw [ho]
  simp [resolve, invoke, builtin, Builtin.len_, F.eval hx, run_underlying ht.k w, goInt, MapKept.run_getObj_map hb, hlen]
end
end Go.Proofs.YtopbohbkhljjgaaGreat
end
section
namespace Go.Proofs.YtopbohbkhljjgaaGreat
open Go.RowKit Go.Maps
open Go.ChangeMaps (setBlock)
set_option linter.unusedVariables false
set_option maxRecDepth 100000
set_option linter.unusedSimpArgs false
set_option maxHeartbeats 1000000
def pairL (l : List MapEntry) : List (Value × Value) := l.map fun e => (e.key, e.val)
/-- A map and the iterator that goes over it: 'todo' is left; 'cur' came last. -/
def MapR (w : World) (b r : Nat) (K : TypeId) (P todo : List (Value × Value)) (cur : Option (Value × Value)) : Prop :=
  ∃ es clk since seen c0, w.heap[b]? = some (.map es clk) ∧ w.heap[r]? = some (.mapIter (some b) since seen c0) ∧ (pairs es).Perm P ∧ (∀ p ∈ P, ∃ l, keyOf Tryz.prog K p.1 = some l) ∧ (P.map (·.1)).Nodup ∧ BornOK es clk ∧ (since ≤ c0 ∧ since ≤ clk) ∧ (∀ e ∈ es.toList, e.born < since) ∧ (pairL (leftOf es seen).toList).Perm todo ∧
    ∀ p, cur = some p → ∃ (e : MapEntry) (seen' : Array Nat), e ∈ es.toList ∧ seen = seen'.push e.born ∧ c0 = clk ∧ p = (e.key, e.val)
def mpR (b r : Nat) (K : TypeId) (P todo : List (Value × Value)) (cur : Option (Value × Value)) : Asn := fun s w => s = [b, r] ∧ b ≠ r ∧ MapR w b r K P todo cur
theorem MapR.of_block {w w' : World} {b r : Nat} {K : TypeId} {P todo : List (Value × Value)} {cur : Option (Value × Value)} (h : MapR w b r K P todo cur) (e1 : w'.heap[b]? = w.heap[b]?) (e2 : w'.heap[r]? = w.heap[r]?) : MapR w' b r K P todo cur := by
  obtain ⟨es, clk, since, seen, c0, h1, h2, h3⟩ := h
  exact ⟨es, clk, since, seen, c0, e1.trans h1, e2.trans h2, h3⟩
theorem ok_mpR {w : World} {b r : Nat} {K : TypeId} {P todo : List (Value × Value)} {cur : Option (Value × Value)} (hne : b ≠ r) (h : MapR w b r K P todo cur) : Ok (mpR b r K P todo cur) [b, r] w :=
  ⟨fun x hx => by
    obtain ⟨es, clk, since, seen, c0, h1, h2, _⟩ := h
    simp only [List.mem_cons, List.not_mem_nil, or_false] at hx
    rcases hx with rfl | rfl
    · exact (Array.getElem?_eq_some_iff.1 h1).1
    · exact (Array.getElem?_eq_some_iff.1 h2).1, fun w' hw => ⟨rfl, hne, h.of_block (hw.2.2.2 b (by simp)) (hw.2.2.2 r (by simp))⟩⟩
theorem gives_mpR {L L' : List Asn} {b r : Nat} {K : TypeId} {P todo : List (Value × Value)} {cur : Option (Value × Value)} (h : Pull L (mpR b r K P todo cur) L') : Gives L fun w => b ≠ r ∧ MapR w b r K P todo cur := fun w M => by
  obtain ⟨s, hs, _⟩ := (M.pull h).head
  exact hs.2
theorem left_none (es : Array MapEntry) : leftOf es #[] = es := by
  unfold leftOf
  exact Array.filter_eq_self.2 fun x hx => by simp
/-- What is left behind a step. -/
theorem left_perm {es : Array MapEntry} {seen : Array Nat} {e : MapEntry} (hn : (es.toList.map (·.born)).Nodup) (he : e ∈ (leftOf es seen).toList) : (leftOf es seen).toList.Perm (e :: (leftOf es (seen.push e.born)).toList) := by
  obtain ⟨he1, he2⟩ := mem_left he
  have key : ∀ (l : List MapEntry), (l.map (·.born)).Nodup → e ∈ l → (l.filter fun x => !seen.contains x.born).Perm (e :: l.filter fun x => !(seen.push e.born).contains x.born) := by
    intro l
    induction l with
    | nil => intro _ h; cases h
    | cons x l ih =>
      intro hnd hm
      rw [List.map_cons, List.nodup_cons] at hnd
      by_cases hx : x = e
      · subst hx
        have h1 : l.filter (fun y => !(seen.push x.born).contains y.born) = l.filter fun y => !seen.contains y.born := by
          apply List.filter_congr
          intro y hy
          rw [contains_push]
          have : (y.born == x.born) = false := by
            cases hb : y.born == x.born with
            | false => rfl
            | true => exact absurd (List.mem_map.2 ⟨y, hy, beq_iff_eq.1 hb⟩) hnd.1
          rw [this, Bool.or_false]
        rw [List.filter_cons, if_pos (by rw [he2]; rfl), List.filter_cons, if_neg (by rw [contains_push]; simp), h1]
      · have hm' : e ∈ l := by
          rcases List.mem_cons.1 hm with h | h
          · exact absurd h.symm hx
          · exact h
        have hb : (x.born == e.born) = false := by
          cases hb : x.born == e.born with
          | false => rfl
          | true => exact absurd (List.mem_map.2 ⟨e, hm', (beq_iff_eq.1 hb).symm⟩) hnd.1
        rw [List.filter_cons, List.filter_cons, contains_push, hb, Bool.or_false]
        split
        · exact (List.Perm.cons x (ih hnd.2 hm')).trans (List.Perm.swap e x _)
        · exact ih hnd.2 hm'
  unfold leftOf
  rw [Array.toList_filter, Array.toList_filter]
  exact key es.toList hn he1
section
variable {o : Oper} {n : Nat} {l : List (Nat × Value)} {L : List Asn} {C : Value → List Asn → Prop}
theorem ac_range {t : TypeId} {x : Operand} (ho : o.op = .range t x) {b : Nat} (hx : evl l x = some (.map (some b))) {K E : TypeId} (ht : MT t K E) {P : List (Value × Value)} {L1 : List Asn} (hp : Pull L (mp b K P) L1) (h : ∀ r, C (.pointer (some ⟨r, 0, none⟩)) (mpR b r K P P none :: L1)) : AC o l L n C := fun G a w F M => by
  have M := M.pull (hp.app G)
  obtain ⟨s, hs, _⟩ := M.head
  obtain ⟨es, clk, hb, h1, h2, h3, h4⟩ := hs.2
  have hlt := (Array.getElem?_eq_some_iff.1 hb).1
  have : (execOp a.eval o).run Tryz.prog w = .ok (.value (.pointer (some ⟨w.heap.size, 0, none⟩))) (w.alloc (.mapIter (some b) clk #[] clk)) := by
    unfold execOp
    rw [ho]
    have := run_range_map w t K E b es clk ht.k hb
    simp [F.eval hx, this]
  rw [this]
  refine ⟨_, h _, ?_⟩
  refine M.change fun s hs => ?_
  obtain ⟨rfl, _⟩ := hs.now
  refine ⟨⟨rfl, rfl, rfl, by simp, fun k hk _ => heap_alloc_old w _ hk⟩, [b, w.heap.size], ok_mpR (by omega) ⟨es, clk, clk, #[], clk, by rw [heap_alloc_old w _ hlt, hb], heap_alloc_new w _, h1, h2, h3, h4, ⟨Nat.le_refl _, Nat.le_refl _⟩, h4.2, by rw [left_none]; exact h1, fun p h => by cases h⟩, fun x hx => ?_⟩
  simp only [List.mem_cons, List.not_mem_nil, or_false] at hx ⊢
  omega
/-- Nothing is left. -/
theorem ac_nextE {x : Operand} (ho : o.op = .next x false) {r : Nat} (hx : evl l x = some (.pointer (some ⟨r, 0, none⟩))) {b : Nat} {K : TypeId} {P : List (Value × Value)} {cur : Option (Value × Value)} {L1 : List Asn} (hp : Pull L (mpR b r K P [] cur) L1) (h : C (.tuple #[.bool false]) L) : AC o l L n C := fun G a w F M => by
  obtain ⟨hne, es, clk, since, seen, c0, h1, h2, h3, h4, h5, h6, h7, h8, h9, h10⟩ := gives_mpR (hp.app G) w M
  rcases run_next_at (P := Tryz.prog) w o.type r b since c0 seen es clk h2 h1 h8 h7.1 with ⟨_, hr⟩ | ⟨e, he, _⟩
  · have : (execOp a.eval o).run Tryz.prog w = .ok (.value (.tuple #[.bool false])) w := by
      unfold execOp
      rw [ho]
      simp [F.eval hx, hr]
    rw [this]
    exact ⟨L, h, M⟩
  · exfalso
    have : (e.key, e.val) ∈ pairL (leftOf es seen).toList := List.mem_map.2 ⟨e, he, rfl⟩
    rw [h9.mem_iff] at this
    cases this
/-- One that is left comes out. -/
theorem ac_nextC {x : Operand} (ho : o.op = .next x false) {r : Nat} (hx : evl l x = some (.pointer (some ⟨r, 0, none⟩))) {b : Nat} {K : TypeId} {P : List (Value × Value)} {p0 : Value × Value} {todo : List (Value × Value)} {cur : Option (Value × Value)} {L1 : List Asn} (hp : Pull L (mpR b r K P (p0 :: todo) cur) L1) (h : ∀ p todo', (p0 :: todo).Perm (p :: todo') → C (.tuple #[.bool true, p.1, p.2]) (mpR b r K P todo' (some p) :: L1)) : AC o l L n C := fun G a w F M => by
  have M := M.pull (hp.app G)
  obtain ⟨s, hs, _⟩ := M.head
  obtain ⟨_, hne, es, clk, since, seen, c0, h1, h2, h3, h4, h5, h6, h7, h8, h9, h10⟩ := hs
  rcases run_next_at (P := Tryz.prog) w o.type r b since c0 seen es clk h2 h1 h8 h7.1 with ⟨hz, _⟩ | ⟨e, he, w1, hw1, hr⟩
  · exfalso
    have h11 := h9.length_eq
    simp [pairL, hz] at h11
  · have : (execOp a.eval o).run Tryz.prog w = .ok (.value (.tuple #[.bool true, e.key, e.val])) (setBlock w1 r (.mapIter (some b) since (seen.push e.born) clk)) := by
      unfold execOp
      rw [ho]
      simp [F.eval hx, hr]
    rw [this]
    have hlp := left_perm h6.1 he
    have hpm : (p0 :: todo).Perm ((e.key, e.val) :: pairL (leftOf es (seen.push e.born)).toList) := h9.symm.trans (hlp.map _)
    refine ⟨_, h (e.key, e.val) _ hpm, M.change fun s hs => ?_⟩
    obtain ⟨rfl, _⟩ := hs.now
    have hrs := (Array.getElem?_eq_some_iff.1 h2).1
    have hbs := (Array.getElem?_eq_some_iff.1 h1).1
    have hee := (mem_left he).1
    obtain ⟨g1, g2, g3, g4⟩ : w1.heap = w.heap ∧ w1.os = w.os ∧ w1.tape = w.tape ∧ w1.output = w.output := by rcases hw1 with rfl | rfl <;> exact ⟨rfl, rfl, rfl, rfl⟩
    refine ⟨?_, [b, r], ok_mpR hne ⟨es, clk, since, seen.push e.born, clk, ?_, ?_, h3, h4, h5, h6, ⟨h7.2, h7.2⟩, h8, List.Perm.refl _, fun p hpe => ?_⟩, fun x hx => .inl hx⟩
    · exact ⟨g2, g3, g4, by simp [setBlock, g1], fun k hk hb => by simp only [List.mem_cons, List.not_mem_nil, or_false, not_or] at hb; simp [setBlock, g1, Array.getElem?_setIfInBounds, Ne.symm hb.2]⟩
    · simp [setBlock, g1, Array.getElem?_setIfInBounds, Ne.symm hne, h1]
    · simp [setBlock, g1, hrs]
    · cases hpe
      exact ⟨e, seen, hee, rfl, rfl, rfl⟩
theorem rt_entry {x : Operand} (ho : o.op = .entry x) {r : Nat} (hx : evl l x = some (.pointer (some ⟨r, 0, none⟩))) {b : Nat} {K : TypeId} {P todo : List (Value × Value)} {p : Value × Value} {L1 : List Asn} (hp : Pull L (mpR b r K P todo (some p)) L1) : RT o l L n (.tuple #[p.1, p.2]) := fun a w F M => by
  obtain ⟨hne, es, clk, since, seen, c0, h1, h2, h3, h4, h5, h6, h7, h8, h9, h10⟩ := gives_mpR hp w M
  obtain ⟨e, seen', he, rfl, rfl, rfl⟩ := h10 p rfl
  have := run_entry_at (P := Tryz.prog) w r b since seen' es c0 e h2 h1 he h6.1
  unfold execOp
  rw [ho]
  simp [F.eval hx, this]
end
end Go.Proofs.YtopbohbkhljjgaaGreat
end
section
namespace Go.Proofs.YtopbohbkhljjgaaGreat
open Go.RowKit Go.Maps
theorem laidOutP : laidOutB Tryz.prog = true := by kernel_rfl
theorem stepKeyed : Keyed Tryz.prog 259 := Keyed.of_law (deep_law_laid laidOutP (m := 3) (by decide) (of_decide_eq_true (by kernel_rfl)) (by kernel_rfl) (by kernel_rfl))
def stepV (a b : Int) : Value := .agg #[.int .i64 a, .int .i64 b]
theorem stepKey (a b : Int) (ha : (Lit.int .i64 a).wf = true) (hb : (Lit.int .i64 b).wf = true) : ∃ l, keyOf Tryz.prog 259 (stepV a b) = some l := by
  have h1 : Program.keyType Tryz.prog 259 = true := by kernel_rfl
  have h2 : (stepV a b).formed Tryz.prog 259 = true := by kernel_rfl
  have h3 : Tryz.prog.keyLits (Tryz.prog.types.size + 1) 259 (stepV a b).cells.toList = some [.int .i64 a, .int .i64 b] := by
    have c1 : Tryz.prog.cellsOf 259 = 2 := by kernel_rfl
    have c2 : Tryz.prog.cellsOf 3 = 1 := by kernel_rfl
    have fuel : ∃ n, Tryz.prog.types.size + 1 = n + 2 := ⟨Tryz.prog.types.size - 1, by have : Tryz.prog.types.size ≠ 0 := (by decide +kernel : Tryz.prog.types.size ≠ 0); omega⟩
    obtain ⟨n, hn⟩ := fuel
    rw [hn]
    simp [Program.keyLits, Tryz.underlying259, Tryz.underlying3, stepV, Value.cells, c1, c2, ha, hb, List.mapM_cons]
  refine ⟨.string (keyBytes [.int .i64 a, .int .i64 b]), ?_⟩
  unfold keyOf
  rw [Tryz.underlying259]
  simp only [h1, h2, h3, Bool.and_self, if_true, Option.map_some]
theorem wf_small (n : Int) (h0 : 0 ≤ n) (h1 : n ≤ 100) : (Lit.int .i64 n).wf = true := WalkArith.wf_i64 (by omega)
theorem run_build_step (A : Act) (o : Oper) (a b : Int) (ho : o.op = .build 259 #[(0, .const (.int .i64 a)), (1, .const (.int .i64 b))]) (w' : World) : (execOp A.eval o).run Tryz.prog w' = .ok (.value (stepV a b)) w' := by
  have hb : Tryz.prog.built 259 [(0, .int .i64 a), (1, .int .i64 b)] = some #[.int .i64 a, .int .i64 b] := by kernel_rfl
  unfold execOp
  simp only [ho]
  simp [Act.eval, run_build w' _ _ _ hb, stepV]
def stepMap : List (Value × Value) := [(stepV 1 1, .int .i64 2), (stepV 2 2, .int .i64 3), (stepV 3 3, .int .i64 4), (stepV 4 4, .int .i64 5), (stepV 5 5, .int .i64 6), (stepV 2 6, .int .i64 7), (stepV 2 7, .int .i64 3), (stepV 3 7, .int .i64 3), (stepV 4 7, .int .i64 4), (stepV 5 7, .int .i64 4)]
def stepKs : List Lk := .make :: (stepMap.flatMap fun p => [.val, .ins p.1 p.2]) ++ [.val, .val]
set_option maxHeartbeats 1000000 in
theorem table_any (w : World) :
    Calls Tryz.prog 189 #[] w fun e w' => e = .returned (.map (some w.heap.size)) ∧ Below w.heap.size w w' ∧ MapIs Tryz.prog 259 w' w.heap.size stepMap := by
  go_enter Tryz.func189, Tryz.ntmps189
  go_wp2_with fail
  refine wp_region_map Tryz.underlying256 stepKeyed 1 0 stepKs #[.map (some w.heap.size), .map (some w.heap.size), stepV 1 1, stepV 2 2, stepV 3 3, stepV 4 4, stepV 5 5, stepV 2 6, stepV 2 7, stepV 3 7, stepV 4 7, stepV 5 7, .map (some w.heap.size)] (by kernel_rfl) (by kernel_rfl) (by kernel_rfl) rfl ?_ rfl ?_ ?_ (by decide) ?_
  · exact rest_of [(0, .map (some w.heap.size)), (1, .map (some w.heap.size)), (2, stepV 1 1), (3, stepV 2 2), (4, stepV 3 3), (5, stepV 4 4), (6, stepV 5 5), (7, stepV 2 6), (8, stepV 2 7), (9, stepV 3 7), (10, stepV 4 7), (11, stepV 5 7), (12, .map (some w.heap.size))] (by kernel_rfl) [0, 1, 2, 3, 4, 5, 6, 7, 8, 9, 10, 11, 12] rfl (by kernel_rfl)
  · have val : ∀ {o : Oper} {v : Value} {d : Tmp} {A : Act} {i : Nat}, o.guard = none → o.dst = some d → v = A.tmps.getD d undef → (∀ w', (execOp A.eval o).run Tryz.prog w' = .ok (.value v) w') → i ≠ 0 → LitOp Tryz.prog A 1 256 259 0 o .val ∧ (Lk.val = .make ↔ i = 0) :=
      fun h1 h2 h3 h4 h5 => ⟨⟨h1, _, fun d hd => (by rw [h2] at hd; cases hd; exact h3), h4⟩, by simp [h5]⟩
    have ins : ∀ {o : Oper} {k v : Value} {kx vx : Operand} {A : Act} {i : Nat}, o.op = .insert 256 (.tmp 1) kx vx → o.dst = none → o.guard = none → A.eval kx = k → A.eval vx = v → (o.after.toList.any fun e => Region.binds .any e && e.on == 0) = true → (∃ l, keyOf Tryz.prog 259 k = some l) → i ≠ 0 →
        LitOp Tryz.prog A 1 256 259 0 o (.ins k v) ∧ (Lk.ins k v = .make ↔ i = 0) := fun h1 h2 h3 h4 h5 h6 h7 h8 => ⟨⟨_, _, h1, h2, h3, h4, h5, h6, h7⟩, by simp [h8]⟩
    refine ⟨⟨⟨rfl, rfl, rfl⟩, by simp⟩, ?_⟩
    iterate 10 refine ⟨val rfl rfl rfl (run_build_step _ _ _ _ rfl) (by omega), ⟨ins rfl rfl rfl rfl rfl (by kernel_rfl) (stepKey _ _ (wf_small _ (by omega) (by omega)) (wf_small _ (by omega) (by omega))) (by omega), ?_⟩⟩
    exact ⟨val rfl rfl rfl (fun w' => rfl) (by omega), ⟨val rfl rfl rfl (fun w' => rfl) (by omega), trivial⟩⟩
  · show (stepMap.map (·.1)).Nodup
    simp [stepMap, stepV]
  · intro w' hb hs hM
    go_wp2
    go_ret
    exact ⟨rfl, hb, hM⟩
end Go.Proofs.YtopbohbkhljjgaaGreat
end
section
namespace Go.Proofs.YtopbohbkhljjgaaGreat
open Go.RowKit
set_option linter.unusedVariables false
set_option maxRecDepth 100000
set_option linter.unusedSimpArgs false
set_option maxHeartbeats 1000000
/-- An act with more calls deferred. -/
def sh (D : List Deferred) (a : Act) : Act := { a with defers := a.defers ++ D }
section
variable {P : Program} {ops : Array Oper} {Q : Exit → Act → World → Prop} {D : List Deferred}
end
section
variable {ops : Array Oper} {Q : Exit → Act → World → Prop} {D : List Deferred} {a : Act} {w : World} {n : Nat} {l : List (Nat × Value)} {L : List Asn}
end
end Go.Proofs.YtopbohbkhljjgaaGreat
end
section
namespace Go.Proofs.YtopbohbkhljjgaaGreat.DM
theorem split_y {y yn1 yn0 q u r un1 : Nat} (hy : y = yn1 * 4294967296 + yn0) (hq : q * yn1 + r = u) :
    q * y = (q * yn1) * 4294967296 + q * yn0 ∧ u * 4294967296 + un1 = (q * yn1) * 4294967296 + r * 4294967296 + un1 := by
  constructor
  · rw [hy, Nat.mul_add, Nat.mul_assoc]
  · rw [← hq, Nat.add_mul]
/-- What the loop keeps: the guess and its remainder. -/
def Inv (y yn1 u un1 q r : Nat) : Prop := q * yn1 + r = u ∧ (u * 4294967296 + un1) / y ≤ q ∧ q ≤ 4294967297 ∧ r < 4294967296
theorem quot_lt {y u un1 : Nat} (hu : u < y) (h1 : un1 < 4294967296) : (u * 4294967296 + un1) / y < 4294967296 := by
  rw [Nat.div_lt_iff_lt_mul (by omega)]
  have : (u + 1) * 4294967296 ≤ y * 4294967296 := Nat.mul_le_mul_right _ (by omega)
  rw [Nat.mul_comm 4294967296 y]
  omega
/-- The test of the loop. -/
theorem test_iff {y yn1 yn0 u un1 q r : Nat} (hy : y = yn1 * 4294967296 + yn0) (hq : q * yn1 + r = u) : (4294967296 * r + un1 < q * yn0) ↔ u * 4294967296 + un1 < q * y := by
  obtain ⟨h1, h2⟩ := split_y (un1 := un1) hy hq
  rw [h1, h2]
  omega
theorem over {y yn1 yn0 u un1 q r : Nat} (hy : y = yn1 * 4294967296 + yn0) (hu : u < y) (h1 : un1 < 4294967296) (hI : Inv y yn1 u un1 q r) (ht : 4294967296 ≤ q ∨ 4294967296 * r + un1 < q * yn0) :
    1 ≤ q ∧ (q - 1) * yn1 + (r + yn1) = u ∧ (u * 4294967296 + un1) / y ≤ q - 1 := by
  obtain ⟨e, hle, hq, hr⟩ := hI
  have hlt : (u * 4294967296 + un1) / y < q := by
    rcases ht with ht | ht
    · exact Nat.lt_of_lt_of_le (quot_lt hu h1) ht
    · rw [test_iff hy e] at ht
      rw [Nat.div_lt_iff_lt_mul (by omega)]
      exact ht
  have hq1 : 1 ≤ q := Nat.lt_of_le_of_lt (Nat.zero_le _) hlt
  refine ⟨hq1, ?_, Nat.le_sub_one_of_lt hlt⟩
  rw [Nat.sub_mul, Nat.one_mul]
  have : yn1 ≤ q * yn1 := Nat.le_mul_of_pos_left _ hq1
  omega
theorem parts (U L : Nat) : (U * 4294967296 + L / 4294967296) * 4294967296 + L % 4294967296 = U * 18446744073709551616 + L := by omega
section
variable {y yn1 yn0 u un1 q r : Int}
end
end Go.Proofs.YtopbohbkhljjgaaGreat.DM
end
section
namespace Go.Proofs.YtopbohbkhljjgaaGreat
open Go.RowKit
/-- A validator. -/
structure Val where
  bal : Int
  st : Int
  sl : Bool
  rq : Int
  ex : Int
  wd : Int
  dl : Int
def Val.cells (v : Val) : Array Value := #[.int .u64 v.bal, .int .i64 v.st, .bool v.sl, .int .i64 v.rq, .int .i64 v.ex, .int .i64 v.wd, .int .i64 v.dl]
def Val.zero : Val := ⟨0, 0, false, 0, 0, 0, 0⟩
def Val.wf (v : Val) : Prop := (0 ≤ v.bal ∧ v.bal ≤ 18446744073709551615) ∧ (Lit.int .i64 v.st).wf = true ∧ (Lit.int .i64 v.rq).wf = true ∧ (Lit.int .i64 v.ex).wf = true ∧ (Lit.int .i64 v.wd).wf = true ∧ (Lit.int .i64 v.dl).wf = true
theorem Upd.drew {S : List Nat} {a w : World} (h : Upd S a w) : Upd S a w.drew := ⟨h.os, h.tape, h.output, h.size, h.block⟩
theorem BlockIs.drew {w : World} {b : Nat} {c : Array Value} {t : TypeId} (h : BlockIs w b c t) : BlockIs w.drew b c t := h
/-- A configuration. -/
structure Cfg where
  capacity : Int
  queueSize : Int
  minDeposit : Int
  maxDeposit : Int
  supplyCap : Int
  minBalance : Int
  maxBalance : Int
  minChurn : Int
  quotient : Int
  forcedCap : Int
  unbonding : Int
  slashDelay : Int
  ringLen : Int
  epochLen : Int
  visits : Int
  payments : Int
  partials : Int
  merges : Int
  penNum : Int
  penDen : Int
def Cfg.cells (c : Cfg) : Array Value := #[.int .i64 c.capacity, .int .i64 c.queueSize, .int .u64 c.minDeposit, .int .u64 c.maxDeposit, .int .u64 c.supplyCap, .int .u64 c.minBalance, .int .u64 c.maxBalance, .int .u64 c.minChurn, .int .u64 c.quotient, .int .u64 c.forcedCap,
  .int .i64 c.unbonding, .int .i64 c.slashDelay, .int .i64 c.ringLen, .int .i64 c.epochLen, .int .i64 c.visits, .int .i64 c.payments, .int .i64 c.partials, .int .i64 c.merges, .int .u64 c.penNum, .int .u64 c.penDen]
def Cfg.ints (c : Cfg) : List Int := [c.capacity, c.queueSize, c.unbonding, c.slashDelay, c.ringLen, c.epochLen, c.visits, c.payments, c.partials, c.merges]
def Cfg.amounts (c : Cfg) : List Int := [c.minDeposit, c.maxDeposit, c.supplyCap, c.minBalance, c.maxBalance, c.minChurn, c.quotient, c.forcedCap, c.penNum, c.penDen]
def Cfg.wf (c : Cfg) : Prop := (∀ x ∈ c.ints, (Lit.int .i64 x).wf = true) ∧ ∀ x ∈ c.amounts, 0 ≤ x ∧ x ≤ 18446744073709551615
/-! ### Whole rows -/
theorem BlockIs.below_all {w w' : World} {b : Nat} {c : Array Value} {t : TypeId} (h : BlockIs w b c t) (hu : Below w.heap.size w w') : BlockIs w' b c t := h.below hu h.lt
end Go.Proofs.YtopbohbkhljjgaaGreat
end
section
namespace Go.Proofs.YtopbohbkhljjgaaGreat
open Go.RowKit
/-- What a change does, called at a validator in block b. -/
def ChgRun {σ : Type} (N C : List Nat) (I : σ → World → Prop) (p : FuncId × Array Value) (G : Val → σ → Int × Val × σ) : Prop :=
  (∀ args w, (callFunc p.1 args).run Tryz.prog w = .ok (.enter p.1 args) w) ∧ ∀ w b v s, I s w → BlockIs w b v.cells 48 → b ∉ N → v.wf →
    ((G v s).1 = 0 → (G v s).2.1.wf) ∧ Calls Tryz.prog p.1 (#[.pointer (some ⟨b, 0, none⟩)] ++ p.2) w fun r w' => r = .returned (.int .i64 (G v s).1) ∧ Upd (b :: C) w w' ∧ I (G v s).2.2 w' ∧ ((G v s).1 = 0 → BlockIs w' b (G v s).2.1.cells 48)
def Chgs {σ : Type} (N C : List Nat) (I : σ → World → Prop) : List (FuncId × Array Value) → List (Val → σ → Int × Val × σ) → Prop
  | [], [] => True
  | p :: ps, g :: gs => ChgRun N C I p g ∧ Chgs N C I ps gs
  | _, _ => False
theorem Chgs.len {σ : Type} {N C : List Nat} {I : σ → World → Prop} : ∀ {ps : List (FuncId × Array Value)} {gs : List (Val → σ → Int × Val × σ)}, Chgs N C I ps gs → ps.length = gs.length
  | [], [], _ => rfl
  | _ :: _, _ :: _, h => by simp [Chgs.len h.2]
  | [], _ :: _, h => h.elim
  | _ :: _, [], h => h.elim
theorem Chgs.at {σ : Type} {N C : List Nat} {I : σ → World → Prop} : ∀ {ps : List (FuncId × Array Value)} {gs : List (Val → σ → Int × Val × σ)}, Chgs N C I ps gs → ∀ (k : Nat) (h1 : k < ps.length) (h2 : k < gs.length), ChgRun N C I ps[k] gs[k]
  | [], [], _, _, h1, _ => absurd h1 (Nat.not_lt_zero _)
  | _ :: _, _ :: _, h, 0, _, _ => h.1
  | _ :: _, _ :: _, h, k + 1, h1, h2 => Chgs.at h.2 k (by simpa using h1) (by simpa using h2)
  | [], _ :: _, h, _, _, _ => h.elim
  | _ :: _, [], h, _, _, _ => h.elim
end Go.Proofs.YtopbohbkhljjgaaGreat
end
section
namespace Go.Proofs.YtopbohbkhljjgaaGreat
open Go.RowKit
set_option linter.unusedVariables false
/-- Cells that are known, and the variable in which the penalty is kept. -/
def IF (F : List (Nat × Nat × Value)) (uo : Option Nat) (s : Int) (W : World) : Prop :=
  (∀ p ∈ F, W.cell? ⟨p.1, p.2.1, none⟩ = some p.2.2) ∧ ∀ u, uo = some u → W.cell? ⟨u, 0, none⟩ = some (.int .u64 s) ∧ W.frozen? ⟨u, 0, none⟩ = false
def IC (F : List (Nat × Nat × Value)) (uo : Option Nat) : List Nat := F.map (·.1) ++ uo.toList
theorem IF.below {F : List (Nat × Nat × Value)} {uo : Option Nat} {s : Int} {W W' : World} (h : IF F uo s W) (hb : Below W.heap.size W W') : IF F uo s W' :=
  ⟨fun p hp => (hb.cell (p := ⟨p.1, p.2.1, none⟩) (World.block_lt_of_cell? W _ (h.1 p hp))).trans (h.1 p hp), fun u hu =>
    have hl := World.block_lt_of_cell? W _ (h.2 u hu).1
    ⟨(hb.cell (p := ⟨u, 0, none⟩) hl).trans (h.2 u hu).1, (hb.frozen (p := ⟨u, 0, none⟩) hl).trans (h.2 u hu).2⟩⟩
theorem IF.upd {F : List (Nat × Nat × Value)} {uo : Option Nat} {s : Int} {W W' : World} {b : Nat} (h : IF F uo s W) (hb : Upd [b] W W') (hn : b ∉ IC F uo) : IF F uo s W' := by
  have key : ∀ k, k ∈ IC F uo → k < W.heap.size → W'.heap[k]? = W.heap[k]? := fun k hk hl => hb.block k hl (by simp; rintro rfl; exact hn hk)
  refine ⟨fun p hp => ?_, fun u hu => ?_⟩
  · have hl := World.block_lt_of_cell? W _ (h.1 p hp)
    rw [World.cell?_of_block (w := W) (a := ⟨p.1, p.2.1, none⟩) (key p.1 (by simp [IC]; exact .inl ⟨_, _, hp⟩) hl)]
    exact h.1 p hp
  · have hl := World.block_lt_of_cell? W _ (h.2 u hu).1
    have hk := key u (by simp [IC, hu]) hl
    exact ⟨(World.cell?_of_block (w := W) (a := ⟨u, 0, none⟩) hk).trans (h.2 u hu).1, (World.frozen?_of_block (w := W) (a := ⟨u, 0, none⟩) hk).trans (h.2 u hu).2⟩
theorem IF.set {F : List (Nat × Nat × Value)} {uo : Option Nat} {s : Int} {W : World} {b : Nat} (h : IF F uo s W) (hn : b ∉ IC F uo) (i : Nat) (x : Value) : IF F uo s (W.setCell ⟨b, i, none⟩ x) :=
  h.upd ((Upd.refl [b] W).setCell (by simp) _ _) hn
section
variable {F : List (Nat × Nat × Value)} {uo : Option Nat}
end
end Go.Proofs.YtopbohbkhljjgaaGreat
end
section
namespace Go.Proofs.YtopbohbkhljjgaaGreat
open Go.RowKit
set_option linter.unusedVariables false
def CellIs (w : World) (b i : Nat) (v : Value) : Prop := w.cell? ⟨b, i, none⟩ = some v
theorem CellIs.of {w w' : World} {b i : Nat} {v : Value} (h : CellIs w b i v) (e : w'.heap[b]? = w.heap[b]?) : CellIs w' b i v := (World.cell?_of_block (w := w) (a := ⟨b, i, none⟩) e).trans h
theorem CellIs.lt {w : World} {b i : Nat} {v : Value} (h : CellIs w b i v) : b < w.heap.size := World.block_lt_of_cell? w _ h
theorem CellIs.drew {w : World} {b i : Nat} {v : Value} (h : CellIs w b i v) : CellIs w.drew b i v := h
theorem CellIs.alloc {w : World} {b i : Nat} {v : Value} (h : CellIs w b i v) (o : Obj) : CellIs (w.alloc o) b i v := h.of (Below.heap_alloc _ _ _ h.lt)
end Go.Proofs.YtopbohbkhljjgaaGreat
end
section
namespace Go.Proofs.YtopbohbkhljjgaaGreat
open Go.RowKit
set_option linter.unusedVariables false
def Cfg.deflt : Cfg := ⟨16, 8, 16, 64, 1024, 8, 128, 32, 4, 64, 2, 5, 4, 4, 6, 4, 2, 2, 1, 4⟩
theorem built_cfg (k1 k2 k3 k4 k5 k6 k7 k8 k9 k10 k11 k12 k13 k14 k15 k16 k17 k18 k19 k20 : Int) : Tryz.prog.built 30 [(0, .int .i64 k1), (1, .int .i64 k2), (2, .int .u64 k3), (3, .int .u64 k4), (4, .int .u64 k5), (5, .int .u64 k6), (6, .int .u64 k7), (7, .int .u64 k8), (8, .int .u64 k9), (9, .int .u64 k10), (10, .int .i64 k11), (11, .int .i64 k12), (12, .int .i64 k13), (13, .int .i64 k14), (14, .int .i64 k15), (15, .int .i64 k16), (16, .int .i64 k17), (17, .int .i64 k18), (18, .int .u64 k19), (19, .int .u64 k20)] = some (Cfg.cells ⟨k1, k2, k3, k4, k5, k6, k7, k8, k9, k10, k11, k12, k13, k14, k15, k16, k17, k18, k19, k20⟩) := by kernel_rfl
theorem wpList_build' {P : Program} {ops : Array Oper} {rest : List Oper} {o : Oper} {a : Act} {w : World} {Q : Exit → Act → World → Prop} (hg : o.guard = none) (t : TypeId) (parts : Array (Nat × Operand)) (ho : o.op = .build t parts)
    (vs : List (Nat × Value)) (hv : (parts.map fun (i, x) => (i, a.eval x)).toList = vs) (cells : Array Value) (hf : P.built t vs = some cells) (h : wpList P ops Q rest (a.put o.dst (.agg cells)) w) : wpList P ops Q (o :: rest) a w :=
  wpList_build hg t parts ho (by rw [hv, hf]; rfl) (by rw [hv, hf]; exact h)
theorem cfg_size (c : Cfg) : (Tryz.prog.info? 30).map (·.size) = some c.cells.size := by
  have h : (Tryz.prog.info? 30).map (·.size) = some 20 := by kernel_rfl
  rw [h]; rfl
theorem cfg_one (c : Cfg) : c.cells.all (·.oneCell') = true := by simp [Cfg.cells, Value.oneCell']
set_option maxHeartbeats 1000000 in
theorem default_any (w : World) : Calls Tryz.prog 49 #[] w fun r w' => r = .returned (.agg Cfg.deflt.cells) ∧ Below w.heap.size w w' := by
  have HZ := Lib.hid (cfg_size Cfg.deflt)
  have H1 := Lib.hid (cfg_one Cfg.deflt)
  have HB := Lib.hid (built_cfg 16 8 16 64 1024 8 128 32 4 64 2 5 4 4 6 4 2 2 1 4)
  go_enter Tryz.func49, Tryz.ntmps49
  go_step
  go_step
  go_step
  go_step
  go_step
  go_step
  go_step
  go_step
  go_step
  go_step
  go_step
  refine wpList_build' rfl 30 _ rfl [(0, .int .i64 16), (1, .int .i64 8), (2, .int .u64 16), (3, .int .u64 64), (4, .int .u64 1024), (5, .int .u64 8), (6, .int .u64 128), (7, .int .u64 32), (8, .int .u64 4), (9, .int .u64 64), (10, .int .i64 2), (11, .int .i64 5), (12, .int .i64 4), (13, .int .i64 4), (14, .int .i64 6), (15, .int .i64 4), (16, .int .i64 2), (17, .int .i64 2), (18, .int .u64 1), (19, .int .u64 4)] ?_ Cfg.deflt.cells HB.out ?_
  · simp [Act.eval]
  refine wpList_store_row ?_ 30 (.tmp 0) (.tmp 1) ?_ w.heap.size Cfg.deflt.cells ?_ ?_ 30 ?old ?_ HZ.out ?_ H1.out ?_
  case old => exact Cfg.cells ⟨0, 0, 0, 0, 0, 0, 0, 0, 0, 0, 0, 0, 0, 0, 0, 0, 0, 0, 0, 0⟩
  · rfl
  · rfl
  · rfl
  · rfl
  · exact heap_alloc_last w _
  · rfl
  rw [World.setRow_alloc_new]
  go_wp2
  refine bodyPost_ret (v := .agg Cfg.deflt.cells) (results_cell_row rfl _ _ w.heap.size 30 _ (0, 0) _ rfl (heap_alloc_last w _) Tryz.underlying30 rfl HZ.out) rfl ⟨rfl, ?_⟩
  exact (Below.refl _ _).alloc (Nat.le_refl _) _
end Go.Proofs.YtopbohbkhljjgaaGreat
end
section
namespace Go.Proofs.YtopbohbkhljjgaaGreat
open Go.RowKit
set_option linter.unusedVariables false
def bt (n lo hi : Int) : Bool := decide (lo ≤ n) && decide (n ≤ hi)
theorem ret_b {p q : Bool} (h : p = q) : Ending.returned (.bool p) = .returned (.bool q) := by rw [h]
set_option maxHeartbeats 1000000 in
theorem between_any (n lo hi : Int) (w : World) : Calls Tryz.prog 103 #[.int .i64 n, .int .i64 lo, .int .i64 hi] w fun r w' => r = .returned (.bool (bt n lo hi)) ∧ w = w' := by
  by_cases h : lo ≤ n
  · have HI : Hid (bt n lo hi = decide (n ≤ hi)) := by simp [Hid, bt, h]
    have hd : decide (lo ≤ n) = true := by simpa using h
    go_enter Tryz.func103, Tryz.ntmps103
    go_wp2
    go_ret
    exact ⟨ret_b HI.out.symm, rfl⟩
  · have HI : Hid (bt n lo hi = false) := by simp [Hid, bt, h]
    have hd : decide (lo ≤ n) = false := by simpa using h
    go_enter Tryz.func103, Tryz.ntmps103
    go_wp2
    go_ret
    exact ⟨ret_b HI.out.symm, rfl⟩
def fieldB (c : Cfg) : Nat → Bool
  | 1 => bt c.capacity 1 4096
  | 2 => bt c.queueSize 1 4096
  | 3 => decide (1 ≤ c.minDeposit)
  | 4 => decide (c.minDeposit ≤ c.maxDeposit)
  | 5 => decide (c.maxDeposit ≤ c.supplyCap) && decide (c.supplyCap ≤ 1152921504606846976)
  | 6 => decide (1 ≤ c.minBalance) && decide (c.minBalance ≤ c.minDeposit)
  | 7 => decide (c.maxDeposit ≤ c.maxBalance) && decide (c.maxBalance ≤ c.supplyCap)
  | 8 => decide (1 ≤ c.minChurn) && decide (c.minChurn ≤ 1152921504606846976)
  | 9 => decide (1 ≤ c.quotient)
  | 10 => decide (c.forcedCap ≤ 1152921504606846976)
  | 11 => bt c.unbonding 1 1048576
  | 12 => decide (c.unbonding < c.slashDelay) && decide (c.slashDelay ≤ 1048576)
  | 13 => bt c.ringLen 1 4096
  | 14 => bt c.epochLen 1 4096
  | 15 => bt c.visits 1 4096
  | 16 => bt c.payments 1 4096
  | 17 => decide (0 ≤ c.partials) && decide (c.partials < c.visits) && decide (c.partials < c.payments)
  | 18 => bt c.merges 0 4096
  | 19 => decide (c.penNum ≤ c.penDen)
  | 20 => decide (1 ≤ c.penDen) && decide (c.penDen ≤ 4294967296)
  | _ => true
set_option maxHeartbeats 1000000
set_option maxRecDepth 100000
theorem right_1 (c : Cfg) (w : World) : Calls Tryz.prog 48 #[.agg c.cells, .int .i64 1] w fun r w' => r = .returned (.bool (fieldB c 1)) ∧ Below w.heap.size w w' := by
  have HI : Hid (fieldB c 1 = bt c.capacity 1 4096) := rfl; obtain ⟨k1, k2, k3, k4, k5, k6, k7, k8, k9, k10, k11, k12, k13, k14, k15, k16, k17, k18, k19, k20⟩ := c; unfold Cfg.cells; (try simp only [] at *); go_enter Tryz.func48, Tryz.ntmps48; go_wp2_with (go_at_call 103; refine (between_any _ _ _ _).mono ?_; rintro r w1 ⟨rfl, rfl⟩); go_ret; exact ⟨ret_b HI.out.symm, by (repeat (with_reducible first | exact Below.refl _ _ | refine Below.drew ?_ | refine Below.alloc ?_ (by first | omega | (simp <;> omega)) _))⟩
theorem right_2 (c : Cfg) (w : World) : Calls Tryz.prog 48 #[.agg c.cells, .int .i64 2] w fun r w' => r = .returned (.bool (fieldB c 2)) ∧ Below w.heap.size w w' := by
  have HI : Hid (fieldB c 2 = bt c.queueSize 1 4096) := rfl; obtain ⟨k1, k2, k3, k4, k5, k6, k7, k8, k9, k10, k11, k12, k13, k14, k15, k16, k17, k18, k19, k20⟩ := c; unfold Cfg.cells; (try simp only [] at *); go_enter Tryz.func48, Tryz.ntmps48; go_wp2_with (go_at_call 103; refine (between_any _ _ _ _).mono ?_; rintro r w1 ⟨rfl, rfl⟩); go_ret; exact ⟨ret_b HI.out.symm, by (repeat (with_reducible first | exact Below.refl _ _ | refine Below.drew ?_ | refine Below.alloc ?_ (by first | omega | (simp <;> omega)) _))⟩
theorem right_3 (c : Cfg) (w : World) : Calls Tryz.prog 48 #[.agg c.cells, .int .i64 3] w fun r w' => r = .returned (.bool (fieldB c 3)) ∧ Below w.heap.size w w' := by
  have HI : Hid (fieldB c 3 = decide (1 ≤ c.minDeposit)) := rfl; obtain ⟨k1, k2, k3, k4, k5, k6, k7, k8, k9, k10, k11, k12, k13, k14, k15, k16, k17, k18, k19, k20⟩ := c; unfold Cfg.cells; (try simp only [] at *); go_enter Tryz.func48, Tryz.ntmps48; go_wp2_with (go_at_call 103; refine (between_any _ _ _ _).mono ?_; rintro r w1 ⟨rfl, rfl⟩); go_ret; exact ⟨ret_b HI.out.symm, by (repeat (with_reducible first | exact Below.refl _ _ | refine Below.drew ?_ | refine Below.alloc ?_ (by first | omega | (simp <;> omega)) _))⟩
theorem right_4 (c : Cfg) (w : World) : Calls Tryz.prog 48 #[.agg c.cells, .int .i64 4] w fun r w' => r = .returned (.bool (fieldB c 4)) ∧ Below w.heap.size w w' := by
  have HI : Hid (fieldB c 4 = decide (c.minDeposit ≤ c.maxDeposit)) := rfl; obtain ⟨k1, k2, k3, k4, k5, k6, k7, k8, k9, k10, k11, k12, k13, k14, k15, k16, k17, k18, k19, k20⟩ := c; unfold Cfg.cells; (try simp only [] at *); go_enter Tryz.func48, Tryz.ntmps48; go_wp2_with (go_at_call 103; refine (between_any _ _ _ _).mono ?_; rintro r w1 ⟨rfl, rfl⟩); go_ret; exact ⟨ret_b HI.out.symm, by (repeat (with_reducible first | exact Below.refl _ _ | refine Below.drew ?_ | refine Below.alloc ?_ (by first | omega | (simp <;> omega)) _))⟩
theorem right_5 (c : Cfg) (w : World) : Calls Tryz.prog 48 #[.agg c.cells, .int .i64 5] w fun r w' => r = .returned (.bool (fieldB c 5)) ∧ Below w.heap.size w w' := by
  by_cases h : c.maxDeposit ≤ c.supplyCap; (focus (have HI : Hid (fieldB c 5 = decide (c.supplyCap ≤ 1152921504606846976)) := (by simp [Hid, fieldB, h]); have hd : decide (c.maxDeposit ≤ c.supplyCap) = true := (by simpa using h); clear h; obtain ⟨k1, k2, k3, k4, k5, k6, k7, k8, k9, k10, k11, k12, k13, k14, k15, k16, k17, k18, k19, k20⟩ := c; unfold Cfg.cells; (try simp only [] at *); go_enter Tryz.func48, Tryz.ntmps48; go_wp2_with (go_at_call 103; refine (between_any _ _ _ _).mono ?_; rintro r w1 ⟨rfl, rfl⟩); go_ret; exact ⟨ret_b HI.out.symm, by (repeat (with_reducible first | exact Below.refl _ _ | refine Below.drew ?_ | refine Below.alloc ?_ (by first | omega | (simp <;> omega)) _))⟩)); (focus (have HI : Hid (fieldB c 5 = false) := (by simp [Hid, fieldB, h]); have hd : decide (c.maxDeposit ≤ c.supplyCap) = false := (by simpa using h); clear h; obtain ⟨k1, k2, k3, k4, k5, k6, k7, k8, k9, k10, k11, k12, k13, k14, k15, k16, k17, k18, k19, k20⟩ := c; unfold Cfg.cells; (try simp only [] at *); go_enter Tryz.func48, Tryz.ntmps48; go_wp2_with (go_at_call 103; refine (between_any _ _ _ _).mono ?_; rintro r w1 ⟨rfl, rfl⟩); go_ret; exact ⟨ret_b HI.out.symm, by (repeat (with_reducible first | exact Below.refl _ _ | refine Below.drew ?_ | refine Below.alloc ?_ (by first | omega | (simp <;> omega)) _))⟩))
theorem right_6 (c : Cfg) (w : World) : Calls Tryz.prog 48 #[.agg c.cells, .int .i64 6] w fun r w' => r = .returned (.bool (fieldB c 6)) ∧ Below w.heap.size w w' := by
  by_cases h : 1 ≤ c.minBalance; (focus (have HI : Hid (fieldB c 6 = decide (c.minBalance ≤ c.minDeposit)) := (by simp [Hid, fieldB, h]); have hd : decide (1 ≤ c.minBalance) = true := (by simpa using h); clear h; obtain ⟨k1, k2, k3, k4, k5, k6, k7, k8, k9, k10, k11, k12, k13, k14, k15, k16, k17, k18, k19, k20⟩ := c; unfold Cfg.cells; (try simp only [] at *); go_enter Tryz.func48, Tryz.ntmps48; go_wp2_with (go_at_call 103; refine (between_any _ _ _ _).mono ?_; rintro r w1 ⟨rfl, rfl⟩); go_ret; exact ⟨ret_b HI.out.symm, by (repeat (with_reducible first | exact Below.refl _ _ | refine Below.drew ?_ | refine Below.alloc ?_ (by first | omega | (simp <;> omega)) _))⟩)); (focus (have HI : Hid (fieldB c 6 = false) := (by simp [Hid, fieldB, h]); have hd : decide (1 ≤ c.minBalance) = false := (by simpa using h); clear h; obtain ⟨k1, k2, k3, k4, k5, k6, k7, k8, k9, k10, k11, k12, k13, k14, k15, k16, k17, k18, k19, k20⟩ := c; unfold Cfg.cells; (try simp only [] at *); go_enter Tryz.func48, Tryz.ntmps48; go_wp2_with (go_at_call 103; refine (between_any _ _ _ _).mono ?_; rintro r w1 ⟨rfl, rfl⟩); go_ret; exact ⟨ret_b HI.out.symm, by (repeat (with_reducible first | exact Below.refl _ _ | refine Below.drew ?_ | refine Below.alloc ?_ (by first | omega | (simp <;> omega)) _))⟩))
theorem right_7 (c : Cfg) (w : World) : Calls Tryz.prog 48 #[.agg c.cells, .int .i64 7] w fun r w' => r = .returned (.bool (fieldB c 7)) ∧ Below w.heap.size w w' := by
  by_cases h : c.maxDeposit ≤ c.maxBalance; (focus (have HI : Hid (fieldB c 7 = decide (c.maxBalance ≤ c.supplyCap)) := (by simp [Hid, fieldB, h]); have hd : decide (c.maxDeposit ≤ c.maxBalance) = true := (by simpa using h); clear h; obtain ⟨k1, k2, k3, k4, k5, k6, k7, k8, k9, k10, k11, k12, k13, k14, k15, k16, k17, k18, k19, k20⟩ := c; unfold Cfg.cells; (try simp only [] at *); go_enter Tryz.func48, Tryz.ntmps48; go_wp2_with (go_at_call 103; refine (between_any _ _ _ _).mono ?_; rintro r w1 ⟨rfl, rfl⟩); go_ret; exact ⟨ret_b HI.out.symm, by (repeat (with_reducible first | exact Below.refl _ _ | refine Below.drew ?_ | refine Below.alloc ?_ (by first | omega | (simp <;> omega)) _))⟩)); (focus (have HI : Hid (fieldB c 7 = false) := (by simp [Hid, fieldB, h]); have hd : decide (c.maxDeposit ≤ c.maxBalance) = false := (by simpa using h); clear h; obtain ⟨k1, k2, k3, k4, k5, k6, k7, k8, k9, k10, k11, k12, k13, k14, k15, k16, k17, k18, k19, k20⟩ := c; unfold Cfg.cells; (try simp only [] at *); go_enter Tryz.func48, Tryz.ntmps48; go_wp2_with (go_at_call 103; refine (between_any _ _ _ _).mono ?_; rintro r w1 ⟨rfl, rfl⟩); go_ret; exact ⟨ret_b HI.out.symm, by (repeat (with_reducible first | exact Below.refl _ _ | refine Below.drew ?_ | refine Below.alloc ?_ (by first | omega | (simp <;> omega)) _))⟩))
theorem right_8 (c : Cfg) (w : World) : Calls Tryz.prog 48 #[.agg c.cells, .int .i64 8] w fun r w' => r = .returned (.bool (fieldB c 8)) ∧ Below w.heap.size w w' := by
  by_cases h : 1 ≤ c.minChurn; (focus (have HI : Hid (fieldB c 8 = decide (c.minChurn ≤ 1152921504606846976)) := (by simp [Hid, fieldB, h]); have hd : decide (1 ≤ c.minChurn) = true := (by simpa using h); clear h; obtain ⟨k1, k2, k3, k4, k5, k6, k7, k8, k9, k10, k11, k12, k13, k14, k15, k16, k17, k18, k19, k20⟩ := c; unfold Cfg.cells; (try simp only [] at *); go_enter Tryz.func48, Tryz.ntmps48; go_wp2_with (go_at_call 103; refine (between_any _ _ _ _).mono ?_; rintro r w1 ⟨rfl, rfl⟩); go_ret; exact ⟨ret_b HI.out.symm, by (repeat (with_reducible first | exact Below.refl _ _ | refine Below.drew ?_ | refine Below.alloc ?_ (by first | omega | (simp <;> omega)) _))⟩)); (focus (have HI : Hid (fieldB c 8 = false) := (by simp [Hid, fieldB, h]); have hd : decide (1 ≤ c.minChurn) = false := (by simpa using h); clear h; obtain ⟨k1, k2, k3, k4, k5, k6, k7, k8, k9, k10, k11, k12, k13, k14, k15, k16, k17, k18, k19, k20⟩ := c; unfold Cfg.cells; (try simp only [] at *); go_enter Tryz.func48, Tryz.ntmps48; go_wp2_with (go_at_call 103; refine (between_any _ _ _ _).mono ?_; rintro r w1 ⟨rfl, rfl⟩); go_ret; exact ⟨ret_b HI.out.symm, by (repeat (with_reducible first | exact Below.refl _ _ | refine Below.drew ?_ | refine Below.alloc ?_ (by first | omega | (simp <;> omega)) _))⟩))
theorem right_9 (c : Cfg) (w : World) : Calls Tryz.prog 48 #[.agg c.cells, .int .i64 9] w fun r w' => r = .returned (.bool (fieldB c 9)) ∧ Below w.heap.size w w' := by
  have HI : Hid (fieldB c 9 = decide (1 ≤ c.quotient)) := rfl; obtain ⟨k1, k2, k3, k4, k5, k6, k7, k8, k9, k10, k11, k12, k13, k14, k15, k16, k17, k18, k19, k20⟩ := c; unfold Cfg.cells; (try simp only [] at *); go_enter Tryz.func48, Tryz.ntmps48; go_wp2_with (go_at_call 103; refine (between_any _ _ _ _).mono ?_; rintro r w1 ⟨rfl, rfl⟩); go_ret; exact ⟨ret_b HI.out.symm, by (repeat (with_reducible first | exact Below.refl _ _ | refine Below.drew ?_ | refine Below.alloc ?_ (by first | omega | (simp <;> omega)) _))⟩
theorem right_10 (c : Cfg) (w : World) : Calls Tryz.prog 48 #[.agg c.cells, .int .i64 10] w fun r w' => r = .returned (.bool (fieldB c 10)) ∧ Below w.heap.size w w' := by
  have HI : Hid (fieldB c 10 = decide (c.forcedCap ≤ 1152921504606846976)) := rfl; obtain ⟨k1, k2, k3, k4, k5, k6, k7, k8, k9, k10, k11, k12, k13, k14, k15, k16, k17, k18, k19, k20⟩ := c; unfold Cfg.cells; (try simp only [] at *); go_enter Tryz.func48, Tryz.ntmps48; go_wp2_with (go_at_call 103; refine (between_any _ _ _ _).mono ?_; rintro r w1 ⟨rfl, rfl⟩); go_ret; exact ⟨ret_b HI.out.symm, by (repeat (with_reducible first | exact Below.refl _ _ | refine Below.drew ?_ | refine Below.alloc ?_ (by first | omega | (simp <;> omega)) _))⟩
theorem right_11 (c : Cfg) (w : World) : Calls Tryz.prog 48 #[.agg c.cells, .int .i64 11] w fun r w' => r = .returned (.bool (fieldB c 11)) ∧ Below w.heap.size w w' := by
  have HI : Hid (fieldB c 11 = bt c.unbonding 1 1048576) := rfl; obtain ⟨k1, k2, k3, k4, k5, k6, k7, k8, k9, k10, k11, k12, k13, k14, k15, k16, k17, k18, k19, k20⟩ := c; unfold Cfg.cells; (try simp only [] at *); go_enter Tryz.func48, Tryz.ntmps48; go_wp2_with (go_at_call 103; refine (between_any _ _ _ _).mono ?_; rintro r w1 ⟨rfl, rfl⟩); go_ret; exact ⟨ret_b HI.out.symm, by (repeat (with_reducible first | exact Below.refl _ _ | refine Below.drew ?_ | refine Below.alloc ?_ (by first | omega | (simp <;> omega)) _))⟩
theorem right_12 (c : Cfg) (w : World) : Calls Tryz.prog 48 #[.agg c.cells, .int .i64 12] w fun r w' => r = .returned (.bool (fieldB c 12)) ∧ Below w.heap.size w w' := by
  by_cases h : c.unbonding < c.slashDelay; (focus (have HI : Hid (fieldB c 12 = decide (c.slashDelay ≤ 1048576)) := (by simp [Hid, fieldB, h]); have hd : decide (c.unbonding < c.slashDelay) = true := (by simpa using h); clear h; obtain ⟨k1, k2, k3, k4, k5, k6, k7, k8, k9, k10, k11, k12, k13, k14, k15, k16, k17, k18, k19, k20⟩ := c; unfold Cfg.cells; (try simp only [] at *); go_enter Tryz.func48, Tryz.ntmps48; go_wp2_with (go_at_call 103; refine (between_any _ _ _ _).mono ?_; rintro r w1 ⟨rfl, rfl⟩); go_ret; exact ⟨ret_b HI.out.symm, by (repeat (with_reducible first | exact Below.refl _ _ | refine Below.drew ?_ | refine Below.alloc ?_ (by first | omega | (simp <;> omega)) _))⟩)); (focus (have HI : Hid (fieldB c 12 = false) := (by simp [Hid, fieldB, h]); have hd : decide (c.unbonding < c.slashDelay) = false := (by simpa using h); clear h; obtain ⟨k1, k2, k3, k4, k5, k6, k7, k8, k9, k10, k11, k12, k13, k14, k15, k16, k17, k18, k19, k20⟩ := c; unfold Cfg.cells; (try simp only [] at *); go_enter Tryz.func48, Tryz.ntmps48; go_wp2_with (go_at_call 103; refine (between_any _ _ _ _).mono ?_; rintro r w1 ⟨rfl, rfl⟩); go_ret; exact ⟨ret_b HI.out.symm, by (repeat (with_reducible first | exact Below.refl _ _ | refine Below.drew ?_ | refine Below.alloc ?_ (by first | omega | (simp <;> omega)) _))⟩))
theorem right_13 (c : Cfg) (w : World) : Calls Tryz.prog 48 #[.agg c.cells, .int .i64 13] w fun r w' => r = .returned (.bool (fieldB c 13)) ∧ Below w.heap.size w w' := by
  have HI : Hid (fieldB c 13 = bt c.ringLen 1 4096) := rfl; obtain ⟨k1, k2, k3, k4, k5, k6, k7, k8, k9, k10, k11, k12, k13, k14, k15, k16, k17, k18, k19, k20⟩ := c; unfold Cfg.cells; (try simp only [] at *); go_enter Tryz.func48, Tryz.ntmps48; go_wp2_with (go_at_call 103; refine (between_any _ _ _ _).mono ?_; rintro r w1 ⟨rfl, rfl⟩); go_ret; exact ⟨ret_b HI.out.symm, by (repeat (with_reducible first | exact Below.refl _ _ | refine Below.drew ?_ | refine Below.alloc ?_ (by first | omega | (simp <;> omega)) _))⟩
theorem right_14 (c : Cfg) (w : World) : Calls Tryz.prog 48 #[.agg c.cells, .int .i64 14] w fun r w' => r = .returned (.bool (fieldB c 14)) ∧ Below w.heap.size w w' := by
  have HI : Hid (fieldB c 14 = bt c.epochLen 1 4096) := rfl; obtain ⟨k1, k2, k3, k4, k5, k6, k7, k8, k9, k10, k11, k12, k13, k14, k15, k16, k17, k18, k19, k20⟩ := c; unfold Cfg.cells; (try simp only [] at *); go_enter Tryz.func48, Tryz.ntmps48; go_wp2_with (go_at_call 103; refine (between_any _ _ _ _).mono ?_; rintro r w1 ⟨rfl, rfl⟩); go_ret; exact ⟨ret_b HI.out.symm, by (repeat (with_reducible first | exact Below.refl _ _ | refine Below.drew ?_ | refine Below.alloc ?_ (by first | omega | (simp <;> omega)) _))⟩
theorem right_15 (c : Cfg) (w : World) : Calls Tryz.prog 48 #[.agg c.cells, .int .i64 15] w fun r w' => r = .returned (.bool (fieldB c 15)) ∧ Below w.heap.size w w' := by
  have HI : Hid (fieldB c 15 = bt c.visits 1 4096) := rfl; obtain ⟨k1, k2, k3, k4, k5, k6, k7, k8, k9, k10, k11, k12, k13, k14, k15, k16, k17, k18, k19, k20⟩ := c; unfold Cfg.cells; (try simp only [] at *); go_enter Tryz.func48, Tryz.ntmps48; go_wp2_with (go_at_call 103; refine (between_any _ _ _ _).mono ?_; rintro r w1 ⟨rfl, rfl⟩); go_ret; exact ⟨ret_b HI.out.symm, by (repeat (with_reducible first | exact Below.refl _ _ | refine Below.drew ?_ | refine Below.alloc ?_ (by first | omega | (simp <;> omega)) _))⟩
theorem right_16 (c : Cfg) (w : World) : Calls Tryz.prog 48 #[.agg c.cells, .int .i64 16] w fun r w' => r = .returned (.bool (fieldB c 16)) ∧ Below w.heap.size w w' := by
  have HI : Hid (fieldB c 16 = bt c.payments 1 4096) := rfl; obtain ⟨k1, k2, k3, k4, k5, k6, k7, k8, k9, k10, k11, k12, k13, k14, k15, k16, k17, k18, k19, k20⟩ := c; unfold Cfg.cells; (try simp only [] at *); go_enter Tryz.func48, Tryz.ntmps48; go_wp2_with (go_at_call 103; refine (between_any _ _ _ _).mono ?_; rintro r w1 ⟨rfl, rfl⟩); go_ret; exact ⟨ret_b HI.out.symm, by (repeat (with_reducible first | exact Below.refl _ _ | refine Below.drew ?_ | refine Below.alloc ?_ (by first | omega | (simp <;> omega)) _))⟩
theorem right_18 (c : Cfg) (w : World) : Calls Tryz.prog 48 #[.agg c.cells, .int .i64 18] w fun r w' => r = .returned (.bool (fieldB c 18)) ∧ Below w.heap.size w w' := by
  have HI : Hid (fieldB c 18 = bt c.merges 0 4096) := rfl; obtain ⟨k1, k2, k3, k4, k5, k6, k7, k8, k9, k10, k11, k12, k13, k14, k15, k16, k17, k18, k19, k20⟩ := c; unfold Cfg.cells; (try simp only [] at *); go_enter Tryz.func48, Tryz.ntmps48; go_wp2_with (go_at_call 103; refine (between_any _ _ _ _).mono ?_; rintro r w1 ⟨rfl, rfl⟩); go_ret; exact ⟨ret_b HI.out.symm, by (repeat (with_reducible first | exact Below.refl _ _ | refine Below.drew ?_ | refine Below.alloc ?_ (by first | omega | (simp <;> omega)) _))⟩
theorem right_19 (c : Cfg) (w : World) : Calls Tryz.prog 48 #[.agg c.cells, .int .i64 19] w fun r w' => r = .returned (.bool (fieldB c 19)) ∧ Below w.heap.size w w' := by
  have HI : Hid (fieldB c 19 = decide (c.penNum ≤ c.penDen)) := rfl; obtain ⟨k1, k2, k3, k4, k5, k6, k7, k8, k9, k10, k11, k12, k13, k14, k15, k16, k17, k18, k19, k20⟩ := c; unfold Cfg.cells; (try simp only [] at *); go_enter Tryz.func48, Tryz.ntmps48; go_wp2_with (go_at_call 103; refine (between_any _ _ _ _).mono ?_; rintro r w1 ⟨rfl, rfl⟩); go_ret; exact ⟨ret_b HI.out.symm, by (repeat (with_reducible first | exact Below.refl _ _ | refine Below.drew ?_ | refine Below.alloc ?_ (by first | omega | (simp <;> omega)) _))⟩
theorem right_20 (c : Cfg) (w : World) : Calls Tryz.prog 48 #[.agg c.cells, .int .i64 20] w fun r w' => r = .returned (.bool (fieldB c 20)) ∧ Below w.heap.size w w' := by
  by_cases h : 1 ≤ c.penDen; (focus (have HI : Hid (fieldB c 20 = decide (c.penDen ≤ 4294967296)) := (by simp [Hid, fieldB, h]); have hd : decide (1 ≤ c.penDen) = true := (by simpa using h); clear h; obtain ⟨k1, k2, k3, k4, k5, k6, k7, k8, k9, k10, k11, k12, k13, k14, k15, k16, k17, k18, k19, k20⟩ := c; unfold Cfg.cells; (try simp only [] at *); go_enter Tryz.func48, Tryz.ntmps48; go_wp2_with (go_at_call 103; refine (between_any _ _ _ _).mono ?_; rintro r w1 ⟨rfl, rfl⟩); go_ret; exact ⟨ret_b HI.out.symm, by (repeat (with_reducible first | exact Below.refl _ _ | refine Below.drew ?_ | refine Below.alloc ?_ (by first | omega | (simp <;> omega)) _))⟩)); (focus (have HI : Hid (fieldB c 20 = false) := (by simp [Hid, fieldB, h]); have hd : decide (1 ≤ c.penDen) = false := (by simpa using h); clear h; obtain ⟨k1, k2, k3, k4, k5, k6, k7, k8, k9, k10, k11, k12, k13, k14, k15, k16, k17, k18, k19, k20⟩ := c; unfold Cfg.cells; (try simp only [] at *); go_enter Tryz.func48, Tryz.ntmps48; go_wp2_with (go_at_call 103; refine (between_any _ _ _ _).mono ?_; rintro r w1 ⟨rfl, rfl⟩); go_ret; exact ⟨ret_b HI.out.symm, by (repeat (with_reducible first | exact Below.refl _ _ | refine Below.drew ?_ | refine Below.alloc ?_ (by first | omega | (simp <;> omega)) _))⟩))
theorem right_17 (c : Cfg) (w : World) : Calls Tryz.prog 48 #[.agg c.cells, .int .i64 17] w fun r w' => r = .returned (.bool (fieldB c 17)) ∧ Below w.heap.size w w' := by
  by_cases h : 0 ≤ c.partials
  · by_cases h2 : c.partials < c.visits
    · have HI : Hid (fieldB c 17 = decide (c.partials < c.payments)) := by simp [Hid, fieldB, h, h2]
      have hd : decide (0 ≤ c.partials) = true := by simpa using h
      have hd2 : decide (c.partials < c.visits) = true := by simpa using h2
      clear h h2
      obtain ⟨k1, k2, k3, k4, k5, k6, k7, k8, k9, k10, k11, k12, k13, k14, k15, k16, k17, k18, k19, k20⟩ := c; unfold Cfg.cells; (try simp only [] at *); go_enter Tryz.func48, Tryz.ntmps48; go_wp2_with (go_at_call 103; refine (between_any _ _ _ _).mono ?_; rintro r w1 ⟨rfl, rfl⟩)
      go_ret; exact ⟨ret_b HI.out.symm, by (repeat (with_reducible first | exact Below.refl _ _ | refine Below.drew ?_ | refine Below.alloc ?_ (by first | omega | (simp <;> omega)) _))⟩
    · have HI : Hid (fieldB c 17 = false) := by simp [Hid, fieldB, h, h2]
      have hd : decide (0 ≤ c.partials) = true := by simpa using h
      have hd2 : decide (c.partials < c.visits) = false := by simpa using h2
      clear h h2
      obtain ⟨k1, k2, k3, k4, k5, k6, k7, k8, k9, k10, k11, k12, k13, k14, k15, k16, k17, k18, k19, k20⟩ := c; unfold Cfg.cells; (try simp only [] at *); go_enter Tryz.func48, Tryz.ntmps48; go_wp2_with (go_at_call 103; refine (between_any _ _ _ _).mono ?_; rintro r w1 ⟨rfl, rfl⟩)
      go_ret; exact ⟨ret_b HI.out.symm, by (repeat (with_reducible first | exact Below.refl _ _ | refine Below.drew ?_ | refine Below.alloc ?_ (by first | omega | (simp <;> omega)) _))⟩
  · have HI : Hid (fieldB c 17 = false) := by simp [Hid, fieldB, h]
    have hd : decide (0 ≤ c.partials) = false := by simpa using h
    clear h
    obtain ⟨k1, k2, k3, k4, k5, k6, k7, k8, k9, k10, k11, k12, k13, k14, k15, k16, k17, k18, k19, k20⟩ := c; unfold Cfg.cells; (try simp only [] at *); go_enter Tryz.func48, Tryz.ntmps48; go_wp2_with (go_at_call 103; refine (between_any _ _ _ _).mono ?_; rintro r w1 ⟨rfl, rfl⟩)
    go_ret; exact ⟨ret_b HI.out.symm, by (repeat (with_reducible first | exact Below.refl _ _ | refine Below.drew ?_ | refine Below.alloc ?_ (by first | omega | (simp <;> omega)) _))⟩
theorem right_any (c : Cfg) (i : Nat) (h1 : 1 ≤ i) (h2 : i ≤ 20) (w : World) : Calls Tryz.prog 48 #[.agg c.cells, .int .i64 i] w fun r w' => r = .returned (.bool (fieldB c i)) ∧ Below w.heap.size w w' := by
  have h : i = 1 ∨ i = 2 ∨ i = 3 ∨ i = 4 ∨ i = 5 ∨ i = 6 ∨ i = 7 ∨ i = 8 ∨ i = 9 ∨ i = 10 ∨ i = 11 ∨ i = 12 ∨ i = 13 ∨ i = 14 ∨ i = 15 ∨ i = 16 ∨ i = 17 ∨ i = 18 ∨ i = 19 ∨ i = 20 := by omega
  rcases h with rfl | rfl | rfl | rfl | rfl | rfl | rfl | rfl | rfl | rfl | rfl | rfl | rfl | rfl | rfl | rfl | rfl | rfl | rfl | rfl
  · rw [show ((1 : Nat) : Int) = 1 from rfl]; exact right_1 c w
  · rw [show ((2 : Nat) : Int) = 2 from rfl]; exact right_2 c w
  · rw [show ((3 : Nat) : Int) = 3 from rfl]; exact right_3 c w
  · rw [show ((4 : Nat) : Int) = 4 from rfl]; exact right_4 c w
  · rw [show ((5 : Nat) : Int) = 5 from rfl]; exact right_5 c w
  · rw [show ((6 : Nat) : Int) = 6 from rfl]; exact right_6 c w
  · rw [show ((7 : Nat) : Int) = 7 from rfl]; exact right_7 c w
  · rw [show ((8 : Nat) : Int) = 8 from rfl]; exact right_8 c w
  · rw [show ((9 : Nat) : Int) = 9 from rfl]; exact right_9 c w
  · rw [show ((10 : Nat) : Int) = 10 from rfl]; exact right_10 c w
  · rw [show ((11 : Nat) : Int) = 11 from rfl]; exact right_11 c w
  · rw [show ((12 : Nat) : Int) = 12 from rfl]; exact right_12 c w
  · rw [show ((13 : Nat) : Int) = 13 from rfl]; exact right_13 c w
  · rw [show ((14 : Nat) : Int) = 14 from rfl]; exact right_14 c w
  · rw [show ((15 : Nat) : Int) = 15 from rfl]; exact right_15 c w
  · rw [show ((16 : Nat) : Int) = 16 from rfl]; exact right_16 c w
  · rw [show ((17 : Nat) : Int) = 17 from rfl]; exact right_17 c w
  · rw [show ((18 : Nat) : Int) = 18 from rfl]; exact right_18 c w
  · rw [show ((19 : Nat) : Int) = 19 from rfl]; exact right_19 c w
  · rw [show ((20 : Nat) : Int) = 20 from rfl]; exact right_20 c w
/-- The first field from i on, of n, that is wrong, or 0. -/
def checkGo (c : Cfg) : Nat → Nat → Nat
  | 0, _ => 0
  | n + 1, i => if fieldB c i then checkGo c n (i + 1) else i
def checkF (c : Cfg) : Nat := checkGo c 20 1
theorem ret_i {k : IntKind} {x y : Int} (h : x = y) : Ending.returned (.int k x) = .returned (.int k y) := by rw [h]
theorem checkF_zero {c : Cfg} (h : checkF c = 0) : ∀ i, 1 ≤ i → i ≤ 20 → fieldB c i = true := by
  have key : ∀ n i, checkGo c n i = 0 → 1 ≤ i → ∀ j, i ≤ j → j < i + n → fieldB c j = true := by
    intro n
    induction n with
    | zero => intro i _ _ j h1 h2; omega
    | succ n ih =>
      intro i hi h0 j h1 h2
      rw [checkGo] at hi
      by_cases hf : fieldB c i = true
      · rw [if_pos hf] at hi
        by_cases hj : j = i
        · rw [hj]; exact hf
        · exact ih (i + 1) hi (by omega) j (by omega) (by omega)
      · rw [if_neg hf] at hi; omega
  intro i h1 h2
  exact key 20 1 h (by omega) i h1 (by omega)
set_option maxHeartbeats 1000000 in
theorem rCheck_any (c : Cfg) (w : World) : Calls Tryz.prog 16 #[.agg c.cells] w fun r w' => r = .returned (.int .i64 (checkF c)) ∧ Below w.heap.size w w' := by
  have HR := Lib.hid (fun i h1 h2 w => right_any c i h1 h2 w)
  have hs : checkF c = checkGo c (21 - 1) 1 := rfl
  have hb := BlockIs.new w c.cells 30
  have HS := Lib.hid hs
  have HB := Lib.hid hb
  have HZ := Lib.hid (cfg_size c)
  clear hs hb
  have HCG : ∀ n k, n + 1 = 21 - k → checkGo c (21 - k) k = if fieldB c k then checkGo c n (k + 1) else k := fun n k h => by rw [← h]; rfl
  have HCH := Lib.hid HCG
  clear HCG
  generalize checkF c = R at *
  generalize c.cells = cs at *
  go_enter Tryz.func16, Tryz.ntmps16
  go_wp2
  go_loopw [3] (fun i wr => ∃ k : Nat, 1 ≤ k ∧ k ≤ 21 ∧ i = .int .i64 k ∧ Hid (R = checkGo c (21 - k) k) ∧ Hid (BlockIs wr w.heap.size cs 30) ∧ Below w.heap.size w wr) (fun i _ => (21 - intOf i).toNat)
  case atStart => exact ⟨1, by omega, by omega, rfl, HS, HB, by (repeat (with_reducible first | exact Below.refl _ _ | refine Below.drew ?_ | refine Below.alloc ?_ (by first | omega | (simp <;> omega)) _))⟩
  case round =>
    obtain ⟨k, hk1, hk2, rfl, HK, HW, hbel⟩ := hrel
    clear HS HB
    by_cases hlt : k ≤ 20
    · go_wp2_with (first | (go_at_call 48; fail) | ((with_reducible refine wpList_load_row ?_ 30 (.tmp 1) ?_ w.heap.size ?_ 30 cs (0, 0) _ ?_ Tryz.underlying30 rfl HZ.out ?_); (focus rfl); (focus rfl); (focus rfl); (focus exact HW.out)))
      refine (HR.out k hk1 hlt _).mono ?_
      rintro r w1 ⟨rfl, hb1⟩
      have HW1 : Hid (BlockIs w1 w.heap.size cs 30) := Lib.hid (HW.out.below hb1 HW.out.lt)
      have hbel1 : Below w.heap.size w w1 := hbel.trans (hb1.mono hbel.size)
      have HE := HCH.out (21 - (k + 1)) k (by omega)
      by_cases hf : fieldB c k = true
      · have HN : Hid (R = checkGo c (21 - (k + 1)) (k + 1)) := by
          have h1 := HK.out
          rw [HE, if_pos hf] at h1
          exact h1
        rw [hf]
        clear HK HE hf
        go_wp2
        go_roundw
        case rel => exact ⟨k + 1, by omega, by omega, by go_num, HN, HW1, hbel1⟩
        case measure => simp [intOf] <;> omega
      · have HN : Hid (R = k) := by
          have h1 := HK.out
          rw [HE, if_neg hf] at h1
          exact h1
        have hf' : fieldB c k = false := by simpa using hf
        rw [hf']
        clear HK HE hf hf'
        go_wp2
        go_ret
        exact ⟨ret_i (by rw [HN.out]), hbel1⟩
    · have HN : Hid (R = 0) := by
        have h1 := HK.out
        rw [show 21 - k = 0 by omega] at h1
        exact h1
      clear HK
      go_wp2
      go_ret
      exact ⟨ret_i (by rw [HN.out]; rfl), hbel⟩
end Go.Proofs.YtopbohbkhljjgaaGreat
end
section
namespace Go.Proofs.YtopbohbkhljjgaaGreat
open Go.RowKit
set_option linter.unusedVariables false
set_option maxRecDepth 100000
set_option linter.unusedSimpArgs false
set_option maxHeartbeats 2000000
structure Asg where
  ix : Int
  cl : Int
  ep : Int
deriving DecidableEq
def asgL (x : Asg) : List Value := [.int .i64 x.ix, .int .i64 x.cl, .int .i64 x.ep]
structure Pm where
  ix : Int
  am : Int
  fl : Bool
deriving DecidableEq
def pmL (x : Pm) : List Value := [.int .i64 x.ix, .int .u64 x.am, .bool x.fl]
instance : EL asgL 3 := ⟨fun _ => rfl, fun x u h => by simp [asgL] at h; rcases h with rfl | rfl | rfl <;> rfl⟩
instance : EL pmL 3 := ⟨fun _ => rfl, fun x u h => by simp [pmL] at h; rcases h with rfl | rfl | rfl <;> rfl⟩
instance : EQF asgL [.int, .int, .int] := ⟨fun x y => by
  obtain ⟨a, b, c⟩ := x; obtain ⟨d, e, f⟩ := y
  simp only [asgL, cellsEq, scEq, if_true, Bool.and_true, Asg.mk.injEq, Option.some.injEq]
  rw [Bool.eq_iff_iff]; simp⟩
instance : EQF pmL [.int, .int, .bool] := ⟨fun x y => by
  obtain ⟨a, b, c⟩ := x; obtain ⟨d, e, f⟩ := y
  simp only [pmL, cellsEq, scEq, if_true, Bool.and_true, Pm.mk.injEq, Option.some.injEq]
  rw [Bool.eq_iff_iff]; simp⟩
/-- A receipt. -/
structure Rc where
  k : Int
  c : Int
  ix : Int
  bk : Int
  ep : Int
  dl : Int
  vi : Int
  asg : List Asg
  pms : List Pm
deriving DecidableEq
def rcL (r : Rc) (s p : SlH) : List Value := [.int .i64 r.k, .int .i64 r.c, .int .i64 r.ix, .int .i64 r.bk, .int .i64 r.ep, .int .i64 r.dl, sl s, sl p, .int .i64 r.vi]
/-- What the slices of a receipt read as. -/
structure RcG (L : List Asn) (x : Rc) (s p : SlH) : Prop where
  a : GS L 3 (sl s) x.asg.length (x.asg.flatMap asgL)
  p : GS L 3 (sl p) x.pms.length (x.pms.flatMap pmL)
theorem RcG.imp {L K : List Asn} {x : Rc} {s p : SlH} (h : RcG L x s p) (hk : ∀ w, Mem w K → Mem w L) : RcG K x s p := ⟨h.a.imp hk, h.p.imp hk⟩
/-- An operation. -/
structure Opn where
  k : Int
  ix : Int
  tg : Int
  am : Int
deriving DecidableEq
def opL (o : Opn) : List Value := [.int .i64 o.k, .int .i64 o.ix, .int .i64 o.tg, .int .u64 o.am]
instance : EL opL 4 := ⟨fun _ => rfl, fun x u h => by simp [opL] at h; rcases h with rfl | rfl | rfl | rfl <;> rfl⟩
abbrev nilH : SlH := ⟨none, 0, 0⟩
theorem RcG.nil {L : List Asn} {k c ix bk ep dl vi : Int} : RcG L ⟨k, c, ix, bk, ep, dl, vi, [], []⟩ nilH nilH := ⟨GS.nil _ _, GS.nil _ _⟩
structure Rc.wf (x : Rc) : Prop where
  k : I64 x.k
  c : I64 x.c
  ix : I64 x.ix
  bk : I64 x.bk
  ep : I64 x.ep
  dl : I64 x.dl
  vi : I64 x.vi
  asg : ∀ y ∈ x.asg, I64 y.ix ∧ I64 y.cl ∧ I64 y.ep
  pms : ∀ y ∈ x.pms, I64 y.ix ∧ U64 y.am
/-- A receipt in a slice: with its slices' words. -/
structure RcS where
  r : Rc
  s : SlH
  p : SlH
def rsL (x : RcS) : List Value := rcL x.r x.s x.p
instance : EL rsL 9 := ⟨fun _ => rfl, fun x u h => by simp [rsL, rcL] at h; rcases h with rfl | rfl | rfl | rfl | rfl | rfl | rfl | rfl | rfl <;> rfl⟩
theorem shb_one {w : World} {k : Nat} {e : Sh} {l : List Value} (h : HasSh w (.slice k e) l) : ∃ v, l = [v] := by cases h; exact ⟨_, rfl⟩
end Go.Proofs.YtopbohbkhljjgaaGreat
end
