/- Steps of a walk in which the frame is known slot by slot, and memory as a list of separate parts. -/
import Derived.Test.YtdlihlfknedpfaaBase
import Derived.Laws.CopyOwn
import Derived.Laws.StructEq
import Derived.ChangeKeysEq
namespace Go.Proofs.Ytdlihlfknedpfaa
open Go.RowKit
set_option linter.unusedVariables false
set_option maxRecDepth 100000
/-! ### Frames -/
def look : List (Nat × Value) → Nat → Option Value
  | [], _ => none
  | (s, v) :: r, t => cond (Nat.beq s t) (some v) (look r t)
theorem nbeq {a b : Nat} (h : a ≠ b) : Nat.beq a b = false := by
  cases h' : Nat.beq a b
  · rfl
  · exact absurd (Nat.eq_of_beq_eq_true h') h
/-- What is known of a frame of n slots. -/
structure Fr (a : Act) (n : Nat) (l : List (Nat × Value)) : Prop where
  ds : a.defers = []
  size : a.tmps.size = n
  val : ∀ t v, look l t = some v → t < n ∧ a.tmps.getD t undef = v
def evl (l : List (Nat × Value)) : Operand → Option Value
  | .tmp t => look l t
  | .const v => some v
  | .global g => some (.pointer (some ⟨g, 0, none⟩))
  | .func f => some (.func (.func f) #[] #[])
def evls (l : List (Nat × Value)) : List Operand → Option (List Value)
  | [] => some []
  | x :: r => match evl l x, evls l r with
    | some v, some vs => some (v :: vs)
    | _, _ => none
theorem Fr.eval {a : Act} {n : Nat} {l : List (Nat × Value)} (F : Fr a n l) {x : Operand} {v : Value} (h : evl l x = some v) : a.eval x = v := by
  cases x with
  | tmp t => exact (F.val t v h).2
  | const u => exact Option.some.inj h
  | global g => exact Option.some.inj h
  | func f => exact Option.some.inj h
theorem Fr.evals {a : Act} {n : Nat} {l : List (Nat × Value)} (F : Fr a n l) : ∀ {xs : List Operand} {vs : List Value}, evls l xs = some vs → xs.map a.eval = vs
  | [], vs, h => by simp [evls] at h; simp [h]
  | x :: r, vs, h => by
    simp only [evls] at h
    split at h
    · rename_i v us h1 h2
      obtain rfl := Option.some.inj h
      simp [F.eval h1, F.evals h2]
    · cases h
theorem Fr.put {a : Act} {n : Nat} {l : List (Nat × Value)} (F : Fr a n l) (d : Nat) (v : Value) (hd : Nat.ble (d + 1) n = true) : Fr (a.put (some d) v) n ((d, v) :: l) := by
  have hd' : d < n := Nat.le_of_ble_eq_true hd
  refine ⟨F.ds, by simp [Act.put, F.size], fun t u h => ?_⟩
  simp only [look] at h
  by_cases ht : d = t
  · subst ht
    rw [show Nat.beq d d = true from Nat.beq_refl d] at h
    obtain rfl := Option.some.inj h
    exact ⟨hd', by simp [Act.put, F.size, hd']⟩
  · rw [nbeq ht] at h
    obtain ⟨h1, h2⟩ := F.val t u h
    refine ⟨h1, ?_⟩
    rw [← h2]
    simp [Act.put, Array.getElem?_setIfInBounds, ht]
theorem Fr.put_none {a : Act} {n : Nat} {l : List (Nat × Value)} (F : Fr a n l) (v : Value) : Fr (a.put none v) n l := F
/-- The put's slot, or none. -/
def putL (d : Option Nat) (v : Value) (l : List (Nat × Value)) : List (Nat × Value) := match d with | some t => (t, v) :: l | none => l
theorem Fr.puts {a : Act} {n : Nat} {l : List (Nat × Value)} (F : Fr a n l) (d : Option Nat) (v : Value) (hd : (match d with | some t => Nat.ble (t + 1) n | none => true) = true) : Fr (a.put d v) n (putL d v l) := by
  cases d with
  | none => exact F
  | some t => exact F.put t v hd
/-- Keep of a frame these slots alone. -/
theorem Fr.keep {a : Act} {n : Nat} {l l' : List (Nat × Value)} (F : Fr a n l) (h : ∀ p ∈ l', look l p.1 = some p.2) : Fr a n l' := by
  refine ⟨F.ds, F.size, fun t v ht => F.val t v ?_⟩
  induction l' with
  | nil => simp [look] at ht
  | cons p r ih =>
    obtain ⟨s, u⟩ := p
    simp only [look] at ht
    by_cases hs : s = t
    · subst hs
      rw [show Nat.beq s s = true from Nat.beq_refl s] at ht
      obtain rfl : u = v := Option.some.inj ht
      exact h (s, u) (by simp)
    · rw [nbeq hs] at ht
      exact ih (fun p hp => h p (by simp [hp])) ht
theorem keep_nil {l : List (Nat × Value)} : ∀ p ∈ ([] : List (Nat × Value)), look l p.1 = some p.2 := by simp
theorem keep_cons {l r : List (Nat × Value)} {t : Nat} {v : Value} (h : look l t = some v) (hr : ∀ p ∈ r, look l p.1 = some p.2) : ∀ p ∈ (t, v) :: r, look l p.1 = some p.2 := by
  intro p hp
  rcases List.mem_cons.1 hp with rfl | hp
  · exact h
  · exact hr p hp
def initL : Nat → List Value → List (Nat × Value)
  | _, [] => []
  | k, v :: r => (k, v) :: initL (k + 1) r
theorem look_initL : ∀ (vs : List Value) (k t : Nat) (v : Value), look (initL k vs) t = some v → k ≤ t ∧ t < k + vs.length ∧ vs[t - k]? = some v
  | [], k, t, v, h => by simp [initL, look] at h
  | u :: r, k, t, v, h => by
    simp only [initL, look] at h
    by_cases hk : k = t
    · subst hk
      rw [show Nat.beq k k = true from Nat.beq_refl k] at h
      obtain rfl := Option.some.inj h
      simp
    · rw [nbeq hk] at h
      obtain ⟨h1, h2, h3⟩ := look_initL r (k + 1) t v h
      refine ⟨by omega, by simp; omega, ?_⟩
      rw [show t - k = (t - (k + 1)) + 1 from by omega]
      simpa using h3
theorem Fr.init (vs : List Value) (k : Nat) : Fr { tmps := vs.toArray ++ Array.replicate k undef, defers := [] } (vs.length + k) (initL 0 vs) := by
  refine ⟨rfl, by simp, fun t v h => ?_⟩
  obtain ⟨_, h2, h3⟩ := look_initL vs 0 t v h
  simp only [Nat.sub_zero, Nat.zero_add] at h2 h3
  refine ⟨by omega, ?_⟩
  have h4 : vs[t] = v := by
    have := List.getElem?_eq_getElem h2
    rw [h3] at this; exact (Option.some.inj this).symm
  rw [Array.getD_eq_getD_getElem?, Array.getElem?_append_left (by simpa using h2)]
  simp [h2, h4]
theorem sx_enter {P : Program} {f : FuncId} {fn : Func} {c : Code} {vs : List Value} {w : World} {R : Ending → World → Prop} (hf : P.funcs[f]? = some fn) (hb : fn.body = some c) {n k : Nat} (hn : fn.ntmps = n) (hle : Nat.ble vs.length n = true) (hk0 : n - vs.length = k)
    (h : ∀ a, Fr a n (initL 0 vs) → c.wp P (bodyPost P fn R) a w) : Calls P f vs.toArray w R := by
  have hk : vs.length + k = n := by have := Nat.le_of_ble_eq_true hle; omega
  subst hn
  refine calls_of_wp hf hb (h _ ?_)
  have := Fr.init vs k
  rw [hk] at this
  rw [show fn.ntmps - vs.toArray.size = k by simp; omega]
  exact this
/-! ### Memory: separate parts -/
def Agree (s : List Nat) (w w' : World) : Prop := w'.os = w.os ∧ w'.tape = w.tape ∧ w'.output = w.output ∧ ∀ b ∈ s, w'.heap[b]? = w.heap[b]?
theorem Agree.refl (s : List Nat) (w : World) : Agree s w w := ⟨rfl, rfl, rfl, fun _ _ => rfl⟩
theorem Agree.trans {s : List Nat} {a b c : World} (h : Agree s a b) (k : Agree s b c) : Agree s a c := ⟨k.1.trans h.1, k.2.1.trans h.2.1, k.2.2.1.trans h.2.2.1, fun x hx => (k.2.2.2 x hx).trans (h.2.2.2 x hx)⟩
theorem Agree.sub {s r : List Nat} {a b : World} (h : Agree s a b) (hr : ∀ x ∈ r, x ∈ s) : Agree r a b := ⟨h.1, h.2.1, h.2.2.1, fun x hx => h.2.2.2 x (hr x hx)⟩
/-- A part of memory: it holds of some blocks (its own) in a world. -/
abbrev Asn := List Nat → World → Prop
structure Ok (A : Asn) (s : List Nat) (w : World) : Prop where
  lt : ∀ b ∈ s, b < w.heap.size
  all : ∀ w', Agree s w w' → A s w'
theorem Ok.now {A : Asn} {s : List Nat} {w : World} (h : Ok A s w) : A s w := h.all w (Agree.refl s w)
theorem Ok.agree {A : Asn} {s : List Nat} {w w' : World} (h : Ok A s w) (hw : Agree s w w') (hsz : w.heap.size ≤ w'.heap.size) : Ok A s w' :=
  ⟨fun b hb => Nat.lt_of_lt_of_le (h.lt b hb) hsz, fun w'' hw'' => h.all w'' (hw.trans hw'')⟩
theorem Ok.imp {A B : Asn} {s : List Nat} {w : World} (h : Ok A s w) (hi : ∀ w', A s w' → B s w') : Ok B s w := ⟨h.lt, fun w' hw => hi w' (h.all w' hw)⟩
inductive Sat : List Asn → List Nat → World → Prop where
  | nil (w : World) : Sat [] [] w
  | cons {A : Asn} {L : List Asn} {s r : List Nat} {w : World} : Ok A s w → Sat L r w → (∀ b ∈ s, b ∉ r) → Sat (A :: L) (s ++ r) w
theorem Sat.agree {L : List Asn} {s : List Nat} {w w' : World} (h : Sat L s w) (hw : Agree s w w') (hsz : w.heap.size ≤ w'.heap.size) : Sat L s w' := by
  induction h with
  | nil => exact .nil w'
  | cons h1 _ h3 ih => exact .cons (h1.agree (hw.sub fun x hx => by simp [hx]) hsz) (ih (hw.sub fun x hx => by simp [hx]) hsz) h3
theorem Sat.lt {L : List Asn} {s : List Nat} {w : World} (h : Sat L s w) : ∀ b ∈ s, b < w.heap.size := by
  induction h with
  | nil => simp
  | cons h1 _ _ ih =>
    intro b hb
    rcases List.mem_append.1 hb with hb | hb
    · exact h1.lt b hb
    · exact ih b hb
/-- The world's memory holds these separate parts (and whatever else). -/
def Mem (w : World) (L : List Asn) : Prop := ∃ s, Sat L s w
/-- w' is w but for the blocks s, and new ones. -/
structure Chg (s : List Nat) (w w' : World) : Prop where
  os : w'.os = w.os
  tape : w'.tape = w.tape
  output : w'.output = w.output
  size : w.heap.size ≤ w'.heap.size
  block : ∀ k, k < w.heap.size → k ∉ s → w'.heap[k]? = w.heap[k]?
theorem Chg.agree {s r : List Nat} {w w' : World} (h : Chg s w w') (hr : ∀ b ∈ r, b < w.heap.size ∧ b ∉ s) : Agree r w w' := ⟨h.os, h.tape, h.output, fun b hb => h.block b (hr b hb).1 (hr b hb).2⟩
theorem Mem.change {A : Asn} {L : List Asn} {w w' : World} (M : Mem w (A :: L)) {B : Asn} (h : ∀ s, Ok A s w → Chg s w w' ∧ ∃ s', Ok B s' w' ∧ ∀ b ∈ s', b ∈ s ∨ w.heap.size ≤ b) : Mem w' (B :: L) := by
  obtain ⟨s, hs⟩ := M
  cases hs with
  | @cons _ _ s r _ h1 h2 h3 =>
    obtain ⟨hc, s', hB, hsub⟩ := h s h1
    refine ⟨s' ++ r, .cons hB (h2.agree (hc.agree fun b hb => ⟨h2.lt b hb, fun hm => h3 b hm hb⟩) hc.size) fun b hb hr => ?_⟩
    rcases hsub b hb with hb | hb
    · exact h3 b hb hr
    · have := h2.lt b hr; omega
theorem Mem.new {L : List Asn} {w w' : World} (M : Mem w L) {B : Asn} (hc : Chg [] w w') (h : ∃ s', Ok B s' w' ∧ ∀ b ∈ s', w.heap.size ≤ b) : Mem w' (B :: L) := by
  obtain ⟨r, hr⟩ := M
  obtain ⟨s', hB, hsub⟩ := h
  refine ⟨s' ++ r, .cons hB (hr.agree (hc.agree fun b hb => ⟨hr.lt b hb, by simp⟩) hc.size) fun b hb hbr => ?_⟩
  have := hr.lt b hbr
  have := hsub b hb
  omega
theorem Mem.same {L : List Asn} {w w' : World} (M : Mem w L) (hc : Chg [] w w') : Mem w' L := by
  obtain ⟨r, hr⟩ := M
  exact ⟨r, hr.agree (hc.agree fun b hb => ⟨hr.lt b hb, by simp⟩) hc.size⟩
theorem Mem.drew {L : List Asn} {w : World} (M : Mem w L) (n : Nat) : Mem { w with drawn := n } L := M.same ⟨rfl, rfl, rfl, Nat.le_refl _, fun _ _ _ => rfl⟩
theorem Mem.nil (w : World) : Mem w [] := ⟨[], .nil w⟩
theorem Mem.drop {A : Asn} {L : List Asn} {w : World} (M : Mem w (A :: L)) : Mem w L := by
  obtain ⟨s, hs⟩ := M
  cases hs with
  | cons _ h2 _ => exact ⟨_, h2⟩
theorem Mem.imp {A B : Asn} {L : List Asn} {w : World} (M : Mem w (A :: L)) (h : ∀ s w', A s w' → B s w') : Mem w (B :: L) :=
  M.change fun s hs => ⟨⟨rfl, rfl, rfl, Nat.le_refl _, fun _ _ _ => rfl⟩, s, hs.imp (h s), fun b hb => .inl hb⟩
theorem Mem.head {A : Asn} {L : List Asn} {w : World} (M : Mem w (A :: L)) : ∃ s, A s w ∧ ∀ b ∈ s, b < w.heap.size := by
  obtain ⟨s, hs⟩ := M
  cases hs with
  | cons h1 _ _ => exact ⟨_, h1.now, h1.lt⟩
theorem Mem.swap {A B : Asn} {L : List Asn} {w : World} (M : Mem w (A :: B :: L)) : Mem w (B :: A :: L) := by
  obtain ⟨s, hs⟩ := M
  cases hs with
  | @cons _ _ s1 r1 _ h1 h2 h3 =>
    cases h2 with
    | @cons _ _ s2 r2 _ k1 k2 k3 =>
      refine ⟨_, .cons k1 (.cons h1 k2 fun b hb hr => h3 b hb (by simp [hr])) fun b hb hm => ?_⟩
      rcases List.mem_append.1 hm with hm | hm
      · exact h3 b hm (by simp [hb])
      · exact k3 b hb hm
theorem Mem.under {L L' : List Asn} (h : ∀ w, Mem w L → Mem w L') {A : Asn} {w : World} (M : Mem w (A :: L)) (hs : ∀ s, Sat L s w → ∃ s', Sat L' s' w ∧ ∀ b ∈ s', b ∈ s) : Mem w (A :: L') := by
  obtain ⟨s, hs0⟩ := M
  cases hs0 with
  | cons h1 h2 h3 =>
    obtain ⟨s', k1, k2⟩ := hs _ h2
    exact ⟨_, .cons h1 k1 fun b hb hm => h3 b hb (k2 b hm)⟩
/-- L is L' with A ahead, up to order. -/
inductive Pull : List Asn → Asn → List Asn → Prop where
  | here {A : Asn} {L : List Asn} : Pull (A :: L) A L
  | there {X A : Asn} {L L' : List Asn} : Pull L A L' → Pull (X :: L) A (X :: L')
theorem Sat.pull {L L' : List Asn} {A : Asn} (h : Pull L A L') : ∀ {s : List Nat} {w : World}, Sat L s w → ∃ s', Sat (A :: L') s' w ∧ (∀ b, b ∈ s' ↔ b ∈ s) := by
  induction h with
  | here => exact fun hs => ⟨_, hs, fun _ => Iff.rfl⟩
  | there h ih =>
    intro s w hs
    cases hs with
    | cons h1 h2 h3 =>
      obtain ⟨s', k1, k2⟩ := ih h2
      cases k1 with
      | @cons _ _ sa ra _ m1 m2 m3 =>
        refine ⟨_, .cons m1 (.cons h1 m2 fun b hb hr => h3 b hb ((k2 b).1 (by simp [hr]))) fun b hb hm => ?_, fun b => ?_⟩
        · rcases List.mem_append.1 hm with hm | hm
          · exact h3 b hm ((k2 b).1 (by simp [hb]))
          · exact m3 b hb hm
        · have := k2 b
          simp only [List.mem_append] at this ⊢
          constructor
          · rintro (h | h | h)
            · exact .inr (this.1 (.inl h))
            · exact .inl h
            · exact .inr (this.1 (.inr h))
          · rintro (h | h)
            · exact .inr (.inl h)
            · rcases this.2 h with h | h
              · exact .inl h
              · exact .inr (.inr h)
theorem Sat.push {L L' : List Asn} {A : Asn} (h : Pull L A L') : ∀ {s : List Nat} {w : World}, Sat (A :: L') s w → ∃ s', Sat L s' w ∧ (∀ b, b ∈ s' ↔ b ∈ s) := by
  induction h with
  | here => exact fun hs => ⟨_, hs, fun _ => Iff.rfl⟩
  | there h ih =>
    intro s w hs
    cases hs with
    | cons h1 h2 h3 =>
      cases h2 with
      | @cons _ _ sx rx _ m1 m2 m3 =>
        obtain ⟨s', k1, k2⟩ := ih (Sat.cons h1 m2 fun b hb hr => h3 b hb (by simp [hr]))
        refine ⟨_, .cons m1 k1 fun b hb hm => ?_, fun b => ?_⟩
        · rcases List.mem_append.1 ((k2 b).1 hm) with hm | hm
          · exact h3 b hm (by simp [hb])
          · exact m3 b hb hm
        · have := k2 b
          simp only [List.mem_append] at this ⊢
          constructor
          · rintro (h | h)
            · exact .inr (.inl h)
            · rcases this.1 h with h | h
              · exact .inl h
              · exact .inr (.inr h)
          · rintro (h | h | h)
            · exact .inr (this.2 (.inl h))
            · exact .inl h
            · exact .inr (this.2 (.inr h))
theorem Mem.pull {L L' : List Asn} {A : Asn} {w : World} (M : Mem w L) (h : Pull L A L') : Mem w (A :: L') := by
  obtain ⟨s, hs⟩ := M
  obtain ⟨s', h1, _⟩ := hs.pull h
  exact ⟨s', h1⟩
theorem Mem.push {L L' : List Asn} {A : Asn} {w : World} (M : Mem w (A :: L')) (h : Pull L A L') : Mem w L := by
  obtain ⟨s, hs⟩ := M
  obtain ⟨s', h1, _⟩ := hs.push h
  exact ⟨s', h1⟩
/-- L2 is L with B in the place of A. -/
inductive Rep : List Asn → Asn → Asn → List Asn → Prop where
  | here {A B : Asn} {L : List Asn} : Rep (A :: L) A B (B :: L)
  | there {X A B : Asn} {L L' : List Asn} : Rep L A B L' → Rep (X :: L) A B (X :: L')
theorem Rep.both {L L2 : List Asn} {A B : Asn} (h : Rep L A B L2) : ∃ L', Pull L A L' ∧ Pull L2 B L' := by
  induction h with
  | here => exact ⟨_, .here, .here⟩
  | there h ih => obtain ⟨L', h1, h2⟩ := ih; exact ⟨_, .there h1, .there h2⟩
theorem Mem.rep {L L2 : List Asn} {A B : Asn} {w w' : World} (M : Mem w L) (h : Rep L A B L2) (hc : ∀ s, Ok A s w → Chg s w w' ∧ ∃ s', Ok B s' w' ∧ ∀ b ∈ s', b ∈ s ∨ w.heap.size ≤ b) : Mem w' L2 := by
  obtain ⟨L', h1, h2⟩ := h.both
  exact ((M.pull h1).change hc).push h2
/-- Block b is a row of these cells. -/
def pt (b : Nat) (cs : List Value) (t : TypeId) : Asn := fun s w => s = [b] ∧ w.heap[b]? = some (.cells cs.toArray t (0, 0))
theorem Mem.pt {L L' : List Asn} {b : Nat} {cs : List Value} {t : TypeId} {w : World} (M : Mem w L) (h : Pull L (pt b cs t) L') : w.heap[b]? = some (.cells cs.toArray t (0, 0)) := by
  obtain ⟨s, hs, _⟩ := (M.pull h).head
  exact hs.2
theorem ok_pt {w : World} {b : Nat} {cs : List Value} {t : TypeId} (h : w.heap[b]? = some (.cells cs.toArray t (0, 0))) : Ok (pt b cs t) [b] w := by
  refine ⟨fun x hx => ?_, fun w' hw => ⟨rfl, ?_⟩⟩
  · obtain rfl : x = b := by simpa using hx
    exact (Array.getElem?_eq_some_iff.1 h).1
  · rw [hw.2.2.2 b (by simp)]; exact h
theorem Mem.alloc {L : List Asn} {w : World} (M : Mem w L) (cs : List Value) (t : TypeId) : Mem (w.alloc (.cells cs.toArray t)) (Go.Proofs.Ytdlihlfknedpfaa.pt w.heap.size cs t :: L) :=
  M.new ⟨rfl, rfl, rfl, by simp, fun k hk _ => (((Below.refl _ _).alloc (Nat.le_refl _) _).block k hk)⟩ ⟨[w.heap.size], ok_pt (heap_alloc_new w _), by simp⟩
theorem chg_setRow {w : World} {b : Nat} {cs : Array Value} : Chg [b] w (w.setRow b cs) :=
  ⟨rfl, rfl, rfl, by simp, fun k _ hk => setRow_other w b k cs (by simpa using hk)⟩
theorem Mem.setRow {L L2 : List Asn} {b : Nat} {cs cs' : List Value} {t : TypeId} {w : World} (M : Mem w L) (h : Rep L (Go.Proofs.Ytdlihlfknedpfaa.pt b cs t) (Go.Proofs.Ytdlihlfknedpfaa.pt b cs' t) L2) : Mem (w.setRow b cs'.toArray) L2 :=
  M.rep h fun s hs => by
    obtain ⟨rfl, hb⟩ := hs.now
    exact ⟨chg_setRow, [b], ok_pt (setRow_heap w b _ _ t _ hb), fun x hx => .inl hx⟩
/-- All that the world w0 held is as it was. -/
def Old (w0 : World) : Asn := fun s w => s = List.range w0.heap.size ∧ w.os = w0.os ∧ w.tape = w0.tape ∧ w.output = w0.output ∧ ∀ b, b < w0.heap.size → w.heap[b]? = w0.heap[b]?
theorem Mem.old (w : World) : Mem w [Old w] := by
  refine ⟨List.range w.heap.size ++ [], .cons ⟨by simp, fun w' h => ⟨rfl, h.1, h.2.1, h.2.2.1, fun b hb => h.2.2.2 b (by simpa using hb)⟩⟩ (.nil w) (by simp)⟩
theorem Mem.below {w0 w : World} {L L' : List Asn} (M : Mem w L) (h : Pull L (Old w0) L') : Below w0.heap.size w0 w := by
  obtain ⟨s, ⟨rfl, h1, h2, h3, h4⟩, h5⟩ := (M.pull h).head
  refine ⟨h1, h2, h3, ?_, h4⟩
  rcases Nat.lt_or_ge w.heap.size w0.heap.size with hlt | hge
  · have := h5 w.heap.size (by simpa using hlt); omega
  · exact hge
theorem Mem.of_below {w w' : World} {L : List Asn} (M : Mem w L) (h : Below w.heap.size w w') : Mem w' L := M.same ⟨h.os, h.tape, h.output, h.size, fun k hk _ => h.block k hk⟩
theorem Mem.of_same {w w' : World} {L : List Asn} (M : Mem w L) (h : Same w w') : Mem w' L := M.of_below (h.below _)
/-! ### Tables of the program's types -/
/-- How values of a type are read: one cell, or so many. -/
class KT (t : TypeId) (r : outParam (Option Nat)) : Prop where
  k : (Try.prog.underlying t).map (fun d => (match d with | .struct _ | .array _ _ => true | _ => false)) = some r.isSome ∧ (Try.prog.info? t).map (·.size) = some (r.getD 1)
class ZT (t : TypeId) (zs : outParam (List Value)) : Prop where
  k : (Try.prog.info? t).map (fun i => i.zero.map Value.cells) = some (some zs.toArray)
class FO (t : TypeId) (f : Nat) (off : outParam Nat) : Prop where
  k : (match Try.prog.underlying t with | some (.struct fs) => (fs[f]?).map (fun f => (f.offset, (match Try.prog.info? f.type with | some i => Nat.ble 1 i.size | none => false))) | _ => none) = some (off, true)
/-- A slice type: its elements' type, their zero value, their cells and bytes. -/
class ST (t : TypeId) (e : outParam TypeId) (z : outParam Value) (size bytes : outParam Nat) : Prop where
  k : Try.prog.underlying t = some (.slice e) ∧ (Try.prog.info? e).map (fun i => (i.zero, i.size, i.bytes)) = some (some z, size, bytes) ∧ (z.cells.size == size && Nat.ble 1 size) = true
/-- An array type: its length, its elements' type and their cells. -/
class AT (t : TypeId) (len : outParam Nat) (e : outParam TypeId) (size : outParam Nat) : Prop where
  k : Try.prog.underlying t = some (.array len e) ∧ (Try.prog.info? e).map (fun i => i.size) = some size
class FK (f : FuncId) : Prop where
  k : (match Try.prog.funcs[f]? with | some fn => !(fn.name == "runtime.NumGoroutine") && fn.body.isSome | none => false) = true
theorem run_isAgg {t : TypeId} {r : Option Nat} [h : KT t r] (w : World) : (isAgg t).run Try.prog w = .ok r.isSome w ∧ (sizeOf t).run Try.prog w = .ok (r.getD 1) w := by
  obtain ⟨h1, h2⟩ := h.k
  constructor
  · cases hu : Try.prog.underlying t with
    | none => rw [hu] at h1; cases h1
    | some d =>
      rw [hu] at h1
      have h1 := Option.some.inj h1
      unfold isAgg
      rw [Sem.run_bind, run_underlying hu w]
      cases d <;> simp_all
  · cases hi : Try.prog.info? t with
    | none => rw [hi] at h2; cases h2
    | some i =>
      rw [hi] at h2
      have h2 := Option.some.inj h2
      simp [sizeOf, typeInfo, hi, h2]
theorem add0 (b i j : Nat) : (⟨b, i, none⟩ : Addr).add j = ⟨b, i + j, none⟩ := by unfold Addr.add; split <;> simp_all
theorem run_loadVar_one {t : TypeId} [KT t none] {w : World} {b i : Nat} {v : Value} (h : w.cell? ⟨b, i, none⟩ = some v) : (loadVar t ⟨b, i, none⟩).run Try.prog w = .ok v w := by
  simp [loadVar, Sem.run_bind, (run_isAgg (t := t) w).1, load, Sem.run, h]
theorem run_loadVar_agg {t : TypeId} {k : Nat} [KT t (some k)] {w : World} {b i : Nat} {cs : List Value} (hl : cs.length = k) (h : ∀ j u, cs[j]? = some u → w.cell? ⟨b, i + j, none⟩ = some u) : (loadVar t ⟨b, i, none⟩).run Try.prog w = .ok (.agg cs.toArray) w := by
  subst hl
  have hl := run_loadCells_list (P := Try.prog) w ⟨b, i, none⟩ cs (fun j v hv => by rw [add0]; exact h j v hv)
  simp [loadVar, Sem.run_bind, (run_isAgg (t := t) w).1, (run_isAgg (t := t) w).2, hl]
theorem run_storeVar_one {t : TypeId} [KT t none] {w : World} {b i : Nat} {v u : Value} (h : w.cell? ⟨b, i, none⟩ = some u) (hf : w.frozen? ⟨b, i, none⟩ = false) (hv : v.oneCell' = true) : (storeVar t ⟨b, i, none⟩ v).run Try.prog w = .ok () (w.setCell ⟨b, i, none⟩ v) := by
  have h1 : v.cells = #[v] := by cases v <;> simp_all [Value.oneCell', Value.cells]
  have h2 : (⟨b, i, none⟩ : Addr).add 0 = ⟨b, i, none⟩ := by rw [add0]; rfl
  simp only [storeVar, Sem.run_bind, (run_isAgg (t := t) w).2, Result.andThen_ok, h1]
  cases v <;> simp_all [storeCells, store, Sem.run, Value.oneCell']
/-! ### Comparing values of flat types -/
inductive Sc where
  | int | bool | str
def scEq : Sc → Value → Value → Option Bool
  | .int, .int k x, .int k' y => if k = k' then some (decide (x = y)) else none
  | .bool, .bool x, .bool y => some (x == y)
  | .str, .string x, .string y => some (x.toList == y.toList)
  | _, _, _ => none
def cellsEq : List Sc → List Value → List Value → Option Bool
  | [], [], [] => some true
  | k :: ks, x :: xs, y :: ys => match scEq k x y, cellsEq ks xs ys with
    | some a, some b => some (a && b)
    | _, _ => none
  | _, _, _ => none
def scOf (P : Program) (t : TypeId) : Option Sc := match P.underlying t with | some .bool => some .bool | some (.int _) => some .int | some .string => some .str | _ => none
def flatFs (P : Program) : List Field → List Sc → Nat → Bool
  | [], [], _ => true
  | f :: fs, k :: ks, o => f.name != "_" && Nat.beq f.offset o && (match scOf P f.type, k with | some .int, .int | some .bool, .bool | some .str, .str => true | _, _ => false) && flatFs P fs ks (o + 1)
  | _, _, _ => false
theorem scEq_run {P : Program} {t : TypeId} {k : Sc} {x y : Value} {r : Bool} (hk : (match scOf P t, k with | some .int, .int | some .bool, .bool | some .str, .str => true | _, _ => false) = true) (h : scEq k x y = some r) (d : Nat) (w : World) :
    P.plainKey t = true ∧ (Op.equalIn (d + 1) t x y).run P w = .ok r w := by
  unfold scOf at hk
  cases hu : P.underlying t with
  | none => rw [hu] at hk; simp at hk
  | some u =>
    rw [hu] at hk
    cases u <;> simp at hk
    all_goals
      cases k <;> simp at hk
      cases x <;> cases y <;> simp [scEq] at h
    case int.int.int.int k' k1 x1 k2 y1 =>
      obtain ⟨rfl, rfl⟩ := h
      refine ⟨by simp [Program.plainKey, hu], ?_⟩
      rw [run_equalIn_int w d t k1 k' x1 y1 hu]; rfl
    case bool.bool.bool.bool x1 y1 =>
      subst h
      exact ⟨by simp [Program.plainKey, hu], run_equalIn_bool' w d t x1 y1 hu⟩
    case string.str.string.string x1 y1 =>
      subst h
      exact ⟨by simp [Program.plainKey, hu], run_equalIn_string w d t x1 y1 hu⟩
theorem eqFields_flat {P : Program} (d : Nat) (w : World) (xs ys : List Value) : ∀ (fs : List Field) (ks : List Sc) (o : Nat) (r : Bool), flatFs P fs ks o = true → cellsEq ks (xs.drop o) (ys.drop o) = some r → (Op.eqFields (d + 1) xs.toArray ys.toArray fs).run P w = .ok r w
  | [], [], o, r, _, h => by
    cases hx : xs.drop o <;> cases hy : ys.drop o <;> rw [hx, hy] at h <;> simp [cellsEq] at h
    subst h
    simp [Op.eqFields]
  | f :: fs, k :: ks, o, r, hf, h => by
    simp only [flatFs, Bool.and_eq_true] at hf
    obtain ⟨⟨⟨h1, h2⟩, h3⟩, h4⟩ := hf
    cases hx : xs.drop o with
    | nil => rw [hx] at h; cases hy : ys.drop o <;> rw [hy] at h <;> simp [cellsEq] at h
    | cons x xs' =>
      cases hy : ys.drop o with
      | nil => rw [hx, hy] at h; simp [cellsEq] at h
      | cons y ys' =>
        rw [hx, hy] at h
        simp only [cellsEq] at h
        split at h
        · rename_i p q hp hq
          obtain rfl := Option.some.inj h
          have ho : f.offset = o := Nat.eq_of_beq_eq_true h2
          obtain ⟨hk, he⟩ := scEq_run h3 hp d w
          have hx1 : xs.toArray[f.offset]? = some x := by
            have : xs[o]? = some x := by have := congrArg (fun l => l[0]?) hx; simpa using this
            rw [ho]; simpa using this
          have hy1 : ys.toArray[f.offset]? = some y := by
            have : ys[o]? = some y := by have := congrArg (fun l => l[0]?) hy; simpa using this
            rw [ho]; simpa using this
          have hx2 : xs.drop (o + 1) = xs' := by rw [← List.drop_drop, hx]; rfl
          have hy2 : ys.drop (o + 1) = ys' := by rw [← List.drop_drop, hy]; rfl
          have ih := eqFields_flat d w xs ys fs ks (o + 1) q h4 (by rw [hx2, hy2]; exact hq)
          have hn : f.name ≠ "_" := by simpa using h1
          simp only [Op.eqFields, if_pos hn, Sem.run_bind, run_part_plain w hk hx1, run_part_plain w hk hy1, Result.andThen_ok, he]
          cases p <;> simp [ih]
        · cases h
  | [], _ :: _, _, _, hf, _ => by simp [flatFs] at hf
  | _ :: _, [], _, _, hf, _ => by simp [flatFs] at hf
theorem eqItems_flat {P : Program} (d : Nat) (w : World) {e : TypeId} {k : Sc} (hk : (match scOf P e, k with | some .int, .int | some .bool, .bool | some .str, .str => true | _, _ => false) = true) (xs ys : List Value) : ∀ (m o : Nat) (r : Bool), cellsEq (List.replicate m k) (xs.drop o) (ys.drop o) = some r →
    (Op.eqItems (d + 1) e 1 xs.toArray ys.toArray (List.range' o m)).run P w = .ok r w
  | 0, o, r, h => by
    cases hx : xs.drop o <;> cases hy : ys.drop o <;> rw [hx, hy] at h <;> simp [cellsEq] at h
    subst h
    simp [Op.eqItems]
  | m + 1, o, r, h => by
    rw [List.replicate_succ] at h
    cases hx : xs.drop o with
    | nil => rw [hx] at h; cases hy : ys.drop o <;> rw [hy] at h <;> simp [cellsEq] at h
    | cons x xs' =>
      cases hy : ys.drop o with
      | nil => rw [hx, hy] at h; simp [cellsEq] at h
      | cons y ys' =>
        rw [hx, hy] at h
        simp only [cellsEq] at h
        split at h
        · rename_i p q hp hq
          obtain rfl := Option.some.inj h
          obtain ⟨hk', he⟩ := scEq_run hk hp d w
          have hx1 : xs.toArray[o * 1]? = some x := by
            have : xs[o]? = some x := by have := congrArg (fun l => l[0]?) hx; simpa using this
            simpa using this
          have hy1 : ys.toArray[o * 1]? = some y := by
            have : ys[o]? = some y := by have := congrArg (fun l => l[0]?) hy; simpa using this
            simpa using this
          have hx2 : xs.drop (o + 1) = xs' := by rw [← List.drop_drop, hx]; rfl
          have hy2 : ys.drop (o + 1) = ys' := by rw [← List.drop_drop, hy]; rfl
          have ih := eqItems_flat d w hk xs ys m (o + 1) q (by rw [hx2, hy2]; exact hq)
          rw [List.range'_succ]
          simp only [Op.eqItems, Sem.run_bind, run_part_plain w hk' hx1, run_part_plain w hk' hy1, Result.andThen_ok, he]
          cases p <;> simp [ih]
        · cases h
def flatT (P : Program) (t : TypeId) (ks : List Sc) : Bool :=
  match P.underlying t with
  | some (.struct fs) => flatFs P fs.toList ks 0 && !P.stoodInHeld t
  | some (.array n e) => (match ks with
    | k :: _ => (match scOf P e, k with | some .int, .int | some .bool, .bool | some .str, .str => true | _, _ => false) && Nat.beq ks.length n && ks.all (fun k' => match k, k' with | .int, .int | .bool, .bool | .str, .str => true | _, _ => false) && Nat.beq (P.cellsOf e) 1 && (P.info? e).isSome
    | [] => false)
  | _ => false
theorem cells_one {P : Program} {e : TypeId} (h : Nat.beq (P.cellsOf e) 1 = true) : P.cellsOf e = 1 := Nat.eq_of_beq_eq_true h
/-- A flat type: all its cells are numbers, bools or strings. -/
class EQ (t : TypeId) (ks : outParam (List Sc)) : Prop where
  k : flatT Try.prog t ks = true ∧ Try.prog.eqGuardType Try.prog.depth t = false
theorem run_eq_flat {t : TypeId} {ks : List Sc} [he : EQ t ks] {xs ys : List Value} {r : Bool} (h : cellsEq ks xs ys = some r) (w : World) : (Op.equalIn 10000 t (.agg xs.toArray) (.agg ys.toArray)).run Try.prog w = .ok r w := by
  have hf := he.k.1
  unfold flatT at hf
  cases hu : Try.prog.underlying t with
  | none => rw [hu] at hf; cases hf
  | some u =>
    rw [hu] at hf
    cases u with
    | struct fs =>
      simp only [Bool.and_eq_true, Bool.not_eq_true'] at hf
      have hfo : Try.prog.fieldsOf t = fs := by simp [Program.fieldsOf, hu]
      rw [run_equalIn_struct w 9999 t _ _ (by rw [hfo]; exact hu) hf.2, hfo]
      exact eqFields_flat 9998 w xs ys fs.toList ks 0 r hf.1 (by simpa using h)
    | array n e =>
      cases ks with
      | nil => simp at hf
      | cons k ks =>
        simp only [Bool.and_eq_true] at hf
        obtain ⟨⟨⟨⟨h1, h2⟩, h3⟩, h4⟩, h5⟩ := hf
        have hn : (k :: ks).length = n := Nat.eq_of_beq_eq_true h2
        have hrep : k :: ks = List.replicate n k := by
          rw [← hn]
          refine List.eq_replicate_iff.2 ⟨rfl, fun b hb => ?_⟩
          have := List.all_eq_true.1 h3 b hb
          cases k <;> cases b <;> simp_all
        obtain ⟨i, hi⟩ := Option.isSome_iff_exists.1 h5
        rw [run_equalIn_array w 9999 _ _ hu hi, cells_one h4, List.range_eq_range']
        exact eqItems_flat 9998 w h1 xs ys n 0 r (by rw [← hrep]; simpa using h)
    | _ => simp at hf
theorem scEq_refl {k : Sc} {x : Value} {r : Bool} (h : scEq k x x = some r) : r = true := by
  cases k <;> cases x <;> simp [scEq] at h <;> simp_all
theorem cellsEq_refl : ∀ {ks : List Sc} {xs : List Value} {r : Bool}, cellsEq ks xs xs = some r → r = true
  | [], [], r, h => by simp [cellsEq] at h; simp_all
  | k :: ks, x :: xs, r, h => by
    simp only [cellsEq] at h
    split at h
    · rename_i a b h1 h2
      obtain rfl := Option.some.inj h
      rw [scEq_refl h1, cellsEq_refl h2]; rfl
    · cases h
  | [], _ :: _, _, h => by simp [cellsEq] at h
  | _ :: _, [], _, h => by simp [cellsEq] at h
end Go.Proofs.Ytdlihlfknedpfaa
