/- Maps as parts of memory; parts for some values; the order of the parts. -/
import Derived.Test.YtdlihlfknedpfaaSe
import Derived.Test.YtdlihlfknedpfaaMapLaw
namespace Go.Proofs.Ytdlihlfknedpfaa
open Go.RowKit Go.Maps
open Go.ChangeMaps (setBlock)
set_option linter.unusedVariables false
set_option maxRecDepth 100000
set_option linter.unusedSimpArgs false
set_option maxHeartbeats 1000000
section
variable {w w' : World} {L L' : List Asn}
theorem Sat.agree' {L : List Asn} {s : List Nat} {w w' : World} (h : Sat L s w) (hw : Agree s w w') : Sat L s w' := by
  induction h with
  | nil => exact .nil w'
  | @cons A L s r w h1 _ h3 ih =>
    refine .cons ⟨fun b hb => ?_, fun w'' hw'' => h1.all w'' ((hw.sub fun x hx => by simp [hx]).trans hw'')⟩ (ih (hw.sub fun x hx => by simp [hx])) h3
    have e := hw.2.2.2 b (by simp [hb])
    have := h1.lt b hb
    rw [Array.getElem?_eq_getElem this] at e
    exact (Array.getElem?_eq_some_iff.1 e).1
theorem Sat.append {L R : List Asn} {s r : List Nat} {w : World} (h : Sat L s w) (k : Sat R r w) (hd : ∀ b ∈ s, b ∉ r) : ∃ t, Sat (L ++ R) t w ∧ ∀ b, b ∈ t ↔ b ∈ s ∨ b ∈ r := by
  induction h with
  | nil => exact ⟨r, k, by simp⟩
  | @cons A L s1 r1 w h1 h2 h3 ih =>
    obtain ⟨t, k1, k2⟩ := ih k fun b hb => hd b (by simp [hb])
    refine ⟨s1 ++ t, .cons h1 k1 fun b hb ht => ?_, fun b => by simp [k2, or_assoc]⟩
    rcases (k2 b).1 ht with h | h
    · exact h3 b hb h
    · exact hd b (by simp [hb]) h
theorem Sat.split {R : List Asn} {w : World} : ∀ {L : List Asn} {t : List Nat}, Sat (L ++ R) t w → ∃ s r, Sat L s w ∧ Sat R r w ∧ (∀ b ∈ s, b ∉ r) ∧ ∀ b, b ∈ t ↔ b ∈ s ∨ b ∈ r
  | [], t, h => ⟨[], t, .nil w, h, by simp, by simp⟩
  | A :: L, t, h => by
    cases h with
    | @cons _ _ s1 r1 _ h1 h2 h3 =>
      obtain ⟨s, r, k1, k2, k3, k4⟩ := Sat.split h2
      refine ⟨s1 ++ s, r, .cons h1 k1 fun b hb hs => h3 b hb ((k4 b).2 (.inl hs)), k2, fun b hb hr => ?_, fun b => by simp [k4, or_assoc]⟩
      rcases List.mem_append.1 hb with hb | hb
      · exact h3 b hb ((k4 b).2 (.inr hr))
      · exact k3 b hb hr
/-- Parts that lie in memory for some x. -/
def exA {α : Type} (f : α → List Asn) : Asn := fun s w => ∃ x, ∃ t, Sat (f x) t w ∧ ∀ b, b ∈ s ↔ b ∈ t
theorem Mem.exo {α : Type} {f : α → List Asn} (M : Mem w (exA f :: L)) : ∃ x, Mem w (f x ++ L) := by
  obtain ⟨s, hs⟩ := M
  cases hs with
  | cons h1 h2 h3 =>
    obtain ⟨x, t, k1, k2⟩ := h1.now
    obtain ⟨u, j, _⟩ := k1.append h2 fun b hb => h3 b ((k2 b).2 hb)
    exact ⟨x, u, j⟩
theorem Mem.exc {α : Type} {f : α → List Asn} (x : α) (M : Mem w (f x ++ L)) : Mem w (exA f :: L) := by
  obtain ⟨s, hs⟩ := M
  obtain ⟨s1, r, k1, k2, k3, _⟩ := hs.split
  exact ⟨s1 ++ r, .cons ⟨k1.lt, fun w' hw => ⟨x, s1, k1.agree' hw, fun _ => Iff.rfl⟩⟩ k2 k3⟩
theorem Mem.open {α : Type} {f : α → List Asn} (M : Mem w L) (h : Pull L (exA f) L') : ∃ x, Mem w (f x ++ L') := (M.pull h).exo
/-- The parts in another order. -/
theorem Pull.mid {A : Asn} : ∀ (X R : List Asn), Pull (X ++ A :: R) A (X ++ R)
  | [], R => .here
  | x :: X, R => .there (Pull.mid X R)
theorem Mem.front {A : Asn} {X R : List Asn} (M : Mem w (X ++ A :: R)) : Mem w (A :: (X ++ R)) := M.pull (.mid X R)
theorem Mem.back {A : Asn} {X R : List Asn} (M : Mem w (A :: (X ++ R))) : Mem w (X ++ A :: R) := M.push (.mid X R)
/-- A plain fact among the parts. -/
def factA (p : Prop) : Asn := fun s _ => s = [] ∧ p
theorem Mem.fact {p : Prop} (h : p) (M : Mem w L) : Mem w (factA p :: L) := M.new ⟨rfl, rfl, rfl, Nat.le_refl _, fun _ _ _ => rfl⟩ ⟨[], ⟨by simp, fun w' _ => ⟨rfl, h⟩⟩, by simp⟩
theorem Mem.factO {p : Prop} (M : Mem w (factA p :: L)) : p ∧ Mem w L := by
  obtain ⟨s, hs, _⟩ := M.head
  exact ⟨hs.2, M.drop⟩
/-- A map. -/
def mp (b : Nat) (K : TypeId) (P : List (Value × Value)) : Asn := fun s w => s = [b] ∧ MapIs Try.prog K w b P
theorem ok_mp {b : Nat} {K : TypeId} {P : List (Value × Value)} (h : MapIs Try.prog K w b P) : Ok (mp b K P) [b] w :=
  ⟨fun x hx => (show x = b by simpa using hx) ▸ h.lt, fun w' hw => ⟨rfl, h.of_block (hw.2.2.2 b (by simp))⟩⟩
theorem gives_mp {b : Nat} {K : TypeId} {P : List (Value × Value)} (h : Pull L (mp b K P) L') : Gives L fun w => MapIs Try.prog K w b P := fun w M => by
  obtain ⟨s, hs, _⟩ := (M.pull h).head
  exact hs.2
theorem mapIs_new (K : TypeId) (w : World) : MapIs Try.prog K (w.alloc (.map #[] 0)) w.heap.size [] := ⟨#[], 0, heap_alloc_new w _, by simp [pairs], by simp, by simp⟩
theorem chg_setBlock {b : Nat} {x : Obj} : Chg [b] w (setBlock w b x) :=
  ⟨rfl, rfl, rfl, by simp [setBlock], fun k hk hb => by simp [setBlock, Array.getElem?_setIfInBounds, Ne.symm (by simpa using hb : k ≠ b)]⟩
theorem Touch.chg {b : Nat} (h : Touch b w w') : Chg [b] w w' := ⟨h.os, h.tape, h.output, Nat.le_of_eq h.size.symm, fun k _ hk => h.block k (by simpa using hk)⟩
end
/-- Map types. -/
class MT (t : TypeId) (K E : outParam TypeId) : Prop where
  k : Try.prog.underlying t = some (.map K E)
  h : Keyed Try.prog K
/-- A type's zero value. -/
class ZV (t : TypeId) (z : outParam Value) : Prop where
  k : (Try.prog.info? t).bind (·.zero) = some z
theorem ZV.run {t : TypeId} {z : Value} (h : ZV t z) (w : World) : (zeroValue t).run Try.prog w = .ok z w := by
  have := h.k
  cases hi : Try.prog.info? t with
  | none => rw [hi] at this; cases this
  | some i =>
    rw [hi] at this
    have : i.zero = some z := this
    simp [zeroValue, typeInfo, hi, this]
section
variable {o : Oper} {n : Nat} {l : List (Nat × Value)} {L : List Asn} {C : Value → List Asn → Prop}
theorem rt_hit {t : TypeId} {x y : Operand} {ok : Bool} (ho : o.op = .lookup t x y ok) {b : Nat} (hx : evl l x = some (.map (some b))) {k : Value} (hy : evl l y = some k) {K E : TypeId} (ht : MT t K E) {P : List (Value × Value)} (hg : Gives L fun w => MapIs Try.prog K w b P) {q : Lit} (hk : keyOf Try.prog K k = some q) {v : Value} (hin : (k, v) ∈ P) {r : Value} (hr : (if ok = true then .tuple #[v, .bool true] else v) = r) : RT o l L n r := fun a w F M => by
  subst hr
  unfold execOp
  rw [ho]
  simp only [F.eval hx, F.eval hy]
  have := run_lookup_hit ht.k ht.h hk (hg w M) hin ok
  simp [this]
theorem rt_miss {t : TypeId} {x y : Operand} {ok : Bool} (ho : o.op = .lookup t x y ok) {b : Nat} (hx : evl l x = some (.map (some b))) {k : Value} (hy : evl l y = some k) {K E : TypeId} (ht : MT t K E) {P : List (Value × Value)} (hg : Gives L fun w => MapIs Try.prog K w b P) {q : Lit} (hk : keyOf Try.prog K k = some q) (hno : ∀ p ∈ P, p.1 ≠ k) {z : Value} (hz : ZV E z) {r : Value} (hr : (if ok = true then .tuple #[z, .bool false] else z) = r) : RT o l L n r := fun a w F M => by
  subst hr
  unfold execOp
  rw [ho]
  simp only [F.eval hx, F.eval hy]
  have := run_lookup_miss ht.k ht.h hk (hg w M) hno (hz.run w) ok
  simp [this]
theorem rt_hit1 {t : TypeId} {x y : Operand} (ho : o.op = .lookup t x y false) {b : Nat} (hx : evl l x = some (.map (some b))) {k : Value} (hy : evl l y = some k) {K E : TypeId} (ht : MT t K E) {P : List (Value × Value)} (hg : Gives L fun w => MapIs Try.prog K w b P) {q : Lit} (hk : keyOf Try.prog K k = some q) {v : Value} (hin : (k, v) ∈ P) : RT o l L n v := rt_hit ho hx hy ht hg hk hin rfl
theorem rt_hit2 {t : TypeId} {x y : Operand} (ho : o.op = .lookup t x y true) {b : Nat} (hx : evl l x = some (.map (some b))) {k : Value} (hy : evl l y = some k) {K E : TypeId} (ht : MT t K E) {P : List (Value × Value)} (hg : Gives L fun w => MapIs Try.prog K w b P) {q : Lit} (hk : keyOf Try.prog K k = some q) {v : Value} (hin : (k, v) ∈ P) : RT o l L n (.tuple [v, .bool true].toArray) := rt_hit ho hx hy ht hg hk hin rfl
theorem rt_miss1 {t : TypeId} {x y : Operand} (ho : o.op = .lookup t x y false) {b : Nat} (hx : evl l x = some (.map (some b))) {k : Value} (hy : evl l y = some k) {K E : TypeId} (ht : MT t K E) {P : List (Value × Value)} (hg : Gives L fun w => MapIs Try.prog K w b P) {q : Lit} (hk : keyOf Try.prog K k = some q) (hno : ∀ p ∈ P, p.1 ≠ k) {z : Value} (hz : ZV E z) : RT o l L n z := rt_miss ho hx hy ht hg hk hno hz rfl
theorem rt_miss2 {t : TypeId} {x y : Operand} (ho : o.op = .lookup t x y true) {b : Nat} (hx : evl l x = some (.map (some b))) {k : Value} (hy : evl l y = some k) {K E : TypeId} (ht : MT t K E) {P : List (Value × Value)} (hg : Gives L fun w => MapIs Try.prog K w b P) {q : Lit} (hk : keyOf Try.prog K k = some q) (hno : ∀ p ∈ P, p.1 ≠ k) {z : Value} (hz : ZV E z) : RT o l L n (.tuple [z, .bool false].toArray) := rt_miss ho hx hy ht hg hk hno hz rfl
theorem ac_makeMap {t : TypeId} (ho : o.op = .makeMap t none) {K E : TypeId} (ht : MT t K E) (h : ∀ b, C (.map (some b)) (mp b K [] :: L)) : AC o l L n C := fun G a w F M => by
  have : (execOp a.eval o).run Try.prog w = .ok (.value (.map (some w.heap.size))) (w.alloc (.map #[] 0)) := by
    unfold execOp
    rw [ho]
    have := run_makeMap_none ht.k w
    simp [this]
  rw [this]
  exact ⟨_, h _, M.new ⟨rfl, rfl, rfl, by simp, fun k hk _ => (((Below.refl _ _).alloc (Nat.le_refl _) _).block k hk)⟩ ⟨[w.heap.size], ok_mp (mapIs_new K w), by simp⟩⟩
theorem ac_mapNew {t : TypeId} {x y z : Operand} (ho : o.op = .mapUpdate t x y z) {b : Nat} (hx : evl l x = some (.map (some b))) {k v : Value} (hy : evl l y = some k) (hz : evl l z = some v) {K E : TypeId} (ht : MT t K E) {q : Lit} (hk : keyOf Try.prog K k = some q) {P P' : List (Value × Value)} {L2 : List Asn} (hp : Rep L (mp b K P) (mp b K P') L2) (hno : ∀ p ∈ P, p.1 ≠ k) (hP : ((k, v) :: P).Perm P') (h : C undef L2) : AC o l L n C := fun G a w F M => by
  obtain ⟨L', h1, h2⟩ := hp.both
  obtain ⟨w', e, hm, ht'⟩ := run_mapUpdate_new (v := v) ht.k ht.h hk (gives_mp (h1.app G) w M) hno
  have : (execOp a.eval o).run Try.prog w = .ok .skip w' := by
    unfold execOp
    rw [ho]
    simp [F.eval hx, F.eval hy, F.eval hz, e]
  rw [this]
  refine ⟨L2, h, M.rep (hp.app G) fun s hs => ?_⟩
  obtain ⟨rfl, _⟩ := hs.now
  exact ⟨ht'.chg, [b], ok_mp (hm.perm hP), fun x hx => .inl hx⟩
/-- A contract beside other parts. -/
theorem Spec.fr {k : FuncId} {us : List Value} {L1 : List Asn} {D : Value → List Asn → Prop} (h : Spec k us L1 D) (R : List Asn) : Spec k us (L1 ++ R) fun v L' => ∃ L2, D v L2 ∧ L' = L2 ++ R := fun G w M => by
  rw [List.append_assoc] at M
  exact (h (R ++ G) w M).mono fun e w' ⟨v, L2, h1, h2, h3⟩ => ⟨v, L2 ++ R, h1, ⟨L2, h2, rfl⟩, by rw [List.append_assoc]; exact h3⟩
/-- A call that leaves memory as it was. -/
abbrev Keeps (k : FuncId) (us : List Value) (v : Value) (L : List Asn) : Prop := Spec k us L fun u L' => u = v ∧ L' = L
theorem Keeps.head {k : FuncId} {us : List Value} {v : Value} {L : List Asn} (h : Keeps k us v L) (A : Asn) : Keeps k us v (A :: L) := fun G w M => by
  have M : Mem w (L ++ A :: G) := Mem.back M
  refine (h (A :: G) w M).mono ?_
  rintro e w' ⟨u, L', h1, ⟨h2, rfl⟩, M'⟩
  exact ⟨u, _, h1, ⟨h2, rfl⟩, M'.front⟩
end
end Go.Proofs.Ytdlihlfknedpfaa
