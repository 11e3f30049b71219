import Derived.Test.YtopbohbkhljjgaaGreatRows
import Derived.Test.YtopbohbkhljjgaaGreatProg
import Derived.WalkKit
import Derived.WalkSpells
import Derived.WalkLawsBesides
import Derived.Deep.QuietTactic
import Derived.BigQuiet
import Derived.Lib.Hide
import Derived.ProofKit
import Derived.Laws.CopyOwn
import Derived.Laws.StructEq
import Derived.ChangeKeysEq
import Derived.Orders
import Derived.Laws.Strings2
import Derived.Laws.IdiomStrings
import Derived.Lib.LaidTab
import Derived.Lib.LazyBuf
import Derived.Maps.Own
import Derived.DeepKeys4
import Derived.OpenShut
import Derived.ShutString
import Derived.Laws.MakeOwn
import Derived.WalkMore
import Derived.Lib.AppendZeros
import Derived.Maps.RangeRun
import Derived.Defers
import Derived.Shelf.Small.Bits
import Derived.Shelf.Strconv.Itoa0
import Derived.Shelf.Bits.Mul64
import Derived.Shelf.Slices.Turned
import Derived.Shelf.Slices.Equal
import Derived.Ground.Names2Prog
import Derived.Shelf.Slices.Clone
import Derived.Shelf.Slices.Empties2
import Derived.Lib.BitFns
import Derived.Lib.ItoaNum
import Derived.Deep.DeepCutAuto
import Derived.Deep.CutBlock
import Derived.Deep.WholeRow
import Derived.BigFrame
import Derived.Deep.RegionHeld3
set_option linter.unusedVariables false
set_option linter.unusedSimpArgs false
section
namespace Go.Proofs.YtopbohbkhljjgaaGreat
open Go.RowKit
theorem below_drewN {B : Nat} {a w : World} (h : Below B a w) (d : Nat) : Below B a (w.drewN d) := ⟨h.os, h.tape, h.output, h.size, h.block⟩
/-- w' is w after some draws. -/
def Same (w w' : World) : Prop := ∃ d, w' = w.drewN d
theorem Same.refl (w : World) : Same w w := ⟨0, rfl⟩
theorem Same.more {w w' : World} (h : Same w w') (n : Nat) : Same w (w'.drewN n) := by
  obtain ⟨d, rfl⟩ := h
  exact ⟨_, World.drewN_drewN ..⟩
theorem Same.trans {w w' w'' : World} (h : Same w w') (k : Same w' w'') : Same w w'' := by
  obtain ⟨d, rfl⟩ := k
  exact h.more d
theorem Same.cell {w w' : World} (h : Same w w') (a : Addr) : w'.cell? a = w.cell? a := by obtain ⟨d, rfl⟩ := h; rfl
theorem Same.frozen {w w' : World} (h : Same w w') (a : Addr) : w'.frozen? a = w.frozen? a := by obtain ⟨d, rfl⟩ := h; rfl
theorem Same.heap {w w' : World} (h : Same w w') : w'.heap = w.heap := by obtain ⟨d, rfl⟩ := h; rfl
theorem Same.below {w w' : World} (h : Same w w') (B : Nat) : Below B w w' := by
  obtain ⟨d, rfl⟩ := h
  exact below_drewN (Below.refl _ _) d
theorem Same.of {w : World} {d : Nat} : Same w (w.drewN d) := ⟨d, rfl⟩
/-! ### Frames: all blocks but those of S are as they were -/
structure Upd (S : List Nat) (w w' : World) : Prop where
  os : w'.os = w.os
  tape : w'.tape = w.tape
  output : w'.output = w.output
  size : w.heap.size ≤ w'.heap.size
  block : ∀ k, k < w.heap.size → k ∉ S → w'.heap[k]? = w.heap[k]?
theorem Upd.refl (S : List Nat) (w : World) : Upd S w w := ⟨rfl, rfl, rfl, Nat.le_refl _, fun _ _ _ => rfl⟩
theorem Upd.trans {S : List Nat} {a b c : World} (h : Upd S a b) (k : Upd S b c) : Upd S a c :=
  ⟨k.os.trans h.os, k.tape.trans h.tape, k.output.trans h.output, Nat.le_trans h.size k.size, fun i hi hn => (k.block i (Nat.lt_of_lt_of_le hi h.size) hn).trans (h.block i hi hn)⟩
theorem Upd.mono {S S' : List Nat} {w w' : World} (h : Upd S w w') (hs : ∀ k, k ∈ S → k < w.heap.size → k ∈ S') : Upd S' w w' :=
  ⟨h.os, h.tape, h.output, h.size, fun k hk hn => h.block k hk fun hm => hn (hs k hm hk)⟩
theorem Upd.of_below {S : List Nat} {w w' : World} (h : Below w.heap.size w w') : Upd S w w' := ⟨h.os, h.tape, h.output, h.size, fun k hk _ => h.block k hk⟩
theorem Upd.below {S : List Nat} {w w' : World} {B : Nat} (h : Upd S w w') (hB : B ≤ w.heap.size) (hS : ∀ k, k ∈ S → B ≤ k) : Below B w w' :=
  ⟨h.os, h.tape, h.output, h.size, fun k hk => h.block k (by omega) fun hm => by have := hS k hm; omega⟩
theorem Upd.setCell {S : List Nat} {a w : World} (h : Upd S a w) {b : Nat} (hb : b ∈ S) (i : Nat) (v : Value) : Upd S a (w.setCell ⟨b, i, none⟩ v) :=
  h.trans ⟨rfl, rfl, rfl, by simp [World.setCell], fun k _ hn => Below.heap_setCell _ _ _ _ (fun e => hn (by rw [e]; exact hb))⟩
theorem Upd.drewN {S : List Nat} {a w : World} (h : Upd S a w) (d : Nat) : Upd S a (w.drewN d) := ⟨h.os, h.tape, h.output, h.size, h.block⟩
theorem Upd.alloc {S : List Nat} {a w : World} (h : Upd S a w) (o : Obj) : Upd S a (w.alloc o) := h.trans (Upd.of_below ((Below.refl _ _).alloc (Nat.le_refl _) o))
/-- Block b holds the cells c. -/
def BlockIs (w : World) (b : Nat) (c : Array Value) (t : TypeId) : Prop := w.heap[b]? = some (.cells c t (0, 0))
theorem BlockIs.cell {w : World} {b : Nat} {c : Array Value} {t : TypeId} (h : BlockIs w b c t) {i : Nat} {v : Value} (hi : c[i]? = some v) : w.cell? ⟨b, i, none⟩ = some v := by
  unfold BlockIs at h
  simp [World.cell?, h, hi]
theorem BlockIs.lt {w : World} {b : Nat} {c : Array Value} {t : TypeId} (h : BlockIs w b c t) : b < w.heap.size := (Array.getElem?_eq_some_iff.1 h).1
theorem BlockIs.set {w : World} {b : Nat} {c : Array Value} {t : TypeId} (h : BlockIs w b c t) (i : Nat) (v : Value) : BlockIs (w.setCell ⟨b, i, none⟩ v) b (c.setIfInBounds i v) t := by
  unfold BlockIs at *
  simp [World.setCell, Array.getElem?_modify, h]
theorem BlockIs.of {w w' : World} {b : Nat} {c : Array Value} {t : TypeId} (h : BlockIs w b c t) (e : w'.heap[b]? = w.heap[b]?) : BlockIs w' b c t := e.trans h
theorem BlockIs.upd {w w' : World} {S : List Nat} {b : Nat} {c : Array Value} {t : TypeId} (h : BlockIs w b c t) (hu : Upd S w w') (hb : b ∉ S) : BlockIs w' b c t := (hu.block b h.lt hb).trans h
theorem BlockIs.below {w w' : World} {B b : Nat} {c : Array Value} {t : TypeId} (h : BlockIs w b c t) (hu : Below B w w') (hb : b < B) : BlockIs w' b c t := (hu.block b hb).trans h
theorem BlockIs.drewN {w : World} {b : Nat} {c : Array Value} {t : TypeId} (h : BlockIs w b c t) (d : Nat) : BlockIs (w.drewN d) b c t := h
theorem BlockIs.new (w : World) (c : Array Value) (t : TypeId) : BlockIs (w.alloc (.cells c t)) w.heap.size c t := heap_alloc_new w _
theorem BlockIs.alloc {w : World} {b : Nat} {c : Array Value} {t : TypeId} (h : BlockIs w b c t) (o : Obj) : BlockIs (w.alloc o) b c t := h.below ((Below.refl _ _).alloc (Nat.le_refl _) o) h.lt
/-! ### Slices that are read -/
/-- The slice v reads as n elements of 'size' cells each, the cells xs. -/
def SlR (w : World) (size : Nat) (v : Value) (n : Nat) (xs : List Value) : Prop :=
  xs.length = n * size ∧
  (((∃ a cap, v = .slice a 0 cap) ∧ n = 0) ∨
   ∃ b off cap, v = .slice (some ⟨b, off, none⟩) n cap ∧ b < w.heap.size ∧ n ≤ maxLen ∧ ∀ j u, xs[j]? = some u → w.cell? ⟨b, off + j, none⟩ = some u)
theorem SlR.nil (w : World) (size : Nat) : SlR w size (.slice none 0 0) 0 [] := ⟨by simp, .inl ⟨⟨_, _, rfl⟩, rfl⟩⟩
theorem SlR.len_le {w : World} {size : Nat} {v : Value} {n : Nat} {xs : List Value} (h : SlR w size v n xs) : n ≤ maxLen := by
  rcases h.2 with ⟨_, h⟩ | ⟨b, off, cap, _, _, h, _⟩
  · omega
  · exact h
theorem SlR.openSome {w : World} {size : Nat} {v : Value} {n : Nat} {xs : List Value} (h : SlR w size v n xs) (hn : 0 < n) :
    ∃ b off cap, v = .slice (some ⟨b, off, none⟩) n cap ∧ b < w.heap.size ∧ ∀ j u, xs[j]? = some u → w.cell? ⟨b, off + j, none⟩ = some u := by
  rcases h.2 with ⟨_, h⟩ | ⟨b, off, cap, e, hb, _, hc⟩
  · omega
  · exact ⟨b, off, cap, e, hb, hc⟩
theorem SlR.parts {w : World} {size : Nat} {v : Value} {n : Nat} {xs : List Value} (h : SlR w size v n xs) :
    ((∃ a cap, v = .slice a 0 cap) ∧ n = 0 ∧ xs = []) ∨ ∃ b off cap, v = .slice (some ⟨b, off, none⟩) n cap ∧ b < w.heap.size ∧ n ≤ maxLen ∧ ∀ j u, xs[j]? = some u → w.cell? ⟨b, off + j, none⟩ = some u := by
  rcases h.2 with ⟨e, h0⟩ | h'
  · refine .inl ⟨e, h0, List.eq_nil_of_length_eq_zero (by rw [h.1, h0]; simp)⟩
  · exact .inr h'
theorem SlR.form {w : World} {size : Nat} {v : Value} {n : Nat} {xs : List Value} (h : SlR w size v n xs) : ∃ a cap, v = .slice a n cap := by
  rcases h.2 with ⟨⟨_, _, rfl⟩, rfl⟩ | ⟨b, off, cap, rfl, _⟩
  · exact ⟨_, _, rfl⟩
  · exact ⟨_, _, rfl⟩
theorem SlR.below {w w' : World} {B size : Nat} {v : Value} {n : Nat} {xs : List Value} (h : SlR w size v n xs) (hb : Below B w w') (hB : ∀ b, v.ownBlock = Option.some b → 0 < n → b < B) : SlR w' size v n xs := by
  refine ⟨h.1, ?_⟩
  rcases h.2 with h0 | ⟨b, off, cap, rfl, hlt, hn, hc⟩
  · exact .inl h0
  · by_cases h0 : 0 < n
    · exact .inr ⟨b, off, cap, rfl, Nat.lt_of_lt_of_le hlt hb.size, hn, fun j u hu => by rw [hb.cell (p := ⟨b, off + j, none⟩) (hB b rfl h0)]; exact hc j u hu⟩
    · obtain rfl : n = 0 := by omega
      exact .inl ⟨⟨_, _, rfl⟩, rfl⟩
theorem SlR.below_all {w w' : World} {size : Nat} {v : Value} {n : Nat} {xs : List Value} (h : SlR w size v n xs) (hb : Below w.heap.size w w') : SlR w' size v n xs := by
  refine h.below hb fun b e h0 => ?_
  rcases h.2 with ⟨_, rfl⟩ | ⟨b', off, cap, rfl, hlt, hn, hc⟩
  · omega
  · simp [Value.ownBlock] at e; omega
/-- The cells of a list of ints. -/
def ints (zs : List Int) : List Value := zs.map (Value.int .i64)
end Go.Proofs.YtopbohbkhljjgaaGreat
end
section
namespace Go.Proofs.YtopbohbkhljjgaaGreat
open Go.RowKit
set_option linter.unusedVariables false
set_option maxRecDepth 100000
/-! ### Frames -/
def look : List (Nat × Value) → Nat → Option Value
  | [], _ => none
  | (s, v) :: r, t => cond (Nat.beq s t) (some v) (look r t)
theorem nbeq {a b : Nat} (h : a ≠ b) : Nat.beq a b = false := by
  cases h' : Nat.beq a b
  · rfl
  · exact absurd (Nat.eq_of_beq_eq_true h') h
/-- What is known of a frame of n slots. -/
structure Fr (a : Act) (n : Nat) (l : List (Nat × Value)) : Prop where
  ds : a.defers = []
  size : a.tmps.size = n
  val : ∀ t v, look l t = some v → t < n ∧ a.tmps.getD t undef = v
def evl (l : List (Nat × Value)) : Operand → Option Value
  | .tmp t => look l t
  | .const v => some v
  | .global g => some (.pointer (some ⟨g, 0, none⟩))
  | .func f => some (.func (.func f) #[] #[])
def evls (l : List (Nat × Value)) : List Operand → Option (List Value)
  | [] => some []
  | x :: r => match evl l x, evls l r with
    | some v, some vs => some (v :: vs)
    | _, _ => none
theorem Fr.eval {a : Act} {n : Nat} {l : List (Nat × Value)} (F : Fr a n l) {x : Operand} {v : Value} (h : evl l x = some v) : a.eval x = v := by
  cases x with
  | tmp t => exact (F.val t v h).2
  | const u => exact Option.some.inj h
  | global g => exact Option.some.inj h
  | func f => exact Option.some.inj h
theorem Fr.evals {a : Act} {n : Nat} {l : List (Nat × Value)} (F : Fr a n l) : ∀ {xs : List Operand} {vs : List Value}, evls l xs = some vs → xs.map a.eval = vs
  | [], vs, h => by simp [evls] at h; simp [h]
  | x :: r, vs, h => by
    simp only [evls] at h
    split at h
    · rename_i v us h1 h2
      obtain rfl := Option.some.inj h
      simp [F.eval h1, F.evals h2]
    · cases h
theorem Fr.put {a : Act} {n : Nat} {l : List (Nat × Value)} (F : Fr a n l) (d : Nat) (v : Value) (hd : Nat.ble (d + 1) n = true) : Fr (a.put (some d) v) n ((d, v) :: l) := by
  have hd' : d < n := Nat.le_of_ble_eq_true hd
  refine ⟨F.ds, by simp [Act.put, F.size], fun t u h => ?_⟩
  simp only [look] at h
  by_cases ht : d = t
  · subst ht
    rw [show Nat.beq d d = true from Nat.beq_refl d] at h
    obtain rfl := Option.some.inj h
    exact ⟨hd', by simp [Act.put, F.size, hd']⟩
  · rw [nbeq ht] at h
    obtain ⟨h1, h2⟩ := F.val t u h
    refine ⟨h1, ?_⟩
    rw [← h2]
    simp [Act.put, Array.getElem?_setIfInBounds, ht]
/-- The put's slot, or none. -/
def putL (d : Option Nat) (v : Value) (l : List (Nat × Value)) : List (Nat × Value) := match d with | some t => (t, v) :: l | none => l
/-- Keep of a frame these slots alone. -/
theorem Fr.keep {a : Act} {n : Nat} {l l' : List (Nat × Value)} (F : Fr a n l) (h : ∀ p ∈ l', look l p.1 = some p.2) : Fr a n l' := by
  refine ⟨F.ds, F.size, fun t v ht => F.val t v ?_⟩
  induction l' with
  | nil => simp [look] at ht
  | cons p r ih =>
    obtain ⟨s, u⟩ := p
    simp only [look] at ht
    by_cases hs : s = t
    · subst hs
      rw [show Nat.beq s s = true from Nat.beq_refl s] at ht
      obtain rfl : u = v := Option.some.inj ht
      exact h (s, u) (by simp)
    · rw [nbeq hs] at ht
      exact ih (fun p hp => h p (by simp [hp])) ht
theorem keep_nil {l : List (Nat × Value)} : ∀ p ∈ ([] : List (Nat × Value)), look l p.1 = some p.2 := by simp
theorem keep_cons {l r : List (Nat × Value)} {t : Nat} {v : Value} (h : look l t = some v) (hr : ∀ p ∈ r, look l p.1 = some p.2) : ∀ p ∈ (t, v) :: r, look l p.1 = some p.2 := by
  intro p hp
  rcases List.mem_cons.1 hp with rfl | hp
  · exact h
  · exact hr p hp
def initL : Nat → List Value → List (Nat × Value)
  | _, [] => []
  | k, v :: r => (k, v) :: initL (k + 1) r
theorem look_initL : ∀ (vs : List Value) (k t : Nat) (v : Value), look (initL k vs) t = some v → k ≤ t ∧ t < k + vs.length ∧ vs[t - k]? = some v
  | [], k, t, v, h => by simp [initL, look] at h
  | u :: r, k, t, v, h => by
    simp only [initL, look] at h
    by_cases hk : k = t
    · subst hk
      rw [show Nat.beq k k = true from Nat.beq_refl k] at h
      obtain rfl := Option.some.inj h
      simp
    · rw [nbeq hk] at h
      obtain ⟨h1, h2, h3⟩ := look_initL r (k + 1) t v h
      refine ⟨by omega, by simp; omega, ?_⟩
      rw [show t - k = (t - (k + 1)) + 1 from by omega]
      simpa using h3
theorem Fr.init (vs : List Value) (k : Nat) : Fr { tmps := vs.toArray ++ Array.replicate k undef, defers := [] } (vs.length + k) (initL 0 vs) := by
  refine ⟨rfl, by simp, fun t v h => ?_⟩
  obtain ⟨_, h2, h3⟩ := look_initL vs 0 t v h
  simp only [Nat.sub_zero, Nat.zero_add] at h2 h3
  refine ⟨by omega, ?_⟩
  have h4 : vs[t] = v := by
    have := List.getElem?_eq_getElem h2
    rw [h3] at this; exact (Option.some.inj this).symm
  rw [Array.getD_eq_getD_getElem?, Array.getElem?_append_left (by simpa using h2)]
  simp [h2, h4]
theorem sx_enter {P : Program} {f : FuncId} {fn : Func} {c : Code} {vs : List Value} {w : World} {R : Ending → World → Prop} (hf : P.funcs[f]? = some fn) (hb : fn.body = some c) {n k : Nat} (hn : fn.ntmps = n) (hle : Nat.ble vs.length n = true) (hk0 : n - vs.length = k)
    (h : ∀ a, Fr a n (initL 0 vs) → c.wp P (bodyPost P fn R) a w) : Calls P f vs.toArray w R := by
  have hk : vs.length + k = n := by have := Nat.le_of_ble_eq_true hle; omega
  subst hn
  refine calls_of_wp hf hb (h _ ?_)
  have := Fr.init vs k
  rw [hk] at this
  rw [show fn.ntmps - vs.toArray.size = k by simp; omega]
  exact this
/-! ### Memory: separate parts -/
def Agree (s : List Nat) (w w' : World) : Prop := w'.os = w.os ∧ w'.tape = w.tape ∧ w'.output = w.output ∧ ∀ b ∈ s, w'.heap[b]? = w.heap[b]?
theorem Agree.refl (s : List Nat) (w : World) : Agree s w w := ⟨rfl, rfl, rfl, fun _ _ => rfl⟩
theorem Agree.trans {s : List Nat} {a b c : World} (h : Agree s a b) (k : Agree s b c) : Agree s a c := ⟨k.1.trans h.1, k.2.1.trans h.2.1, k.2.2.1.trans h.2.2.1, fun x hx => (k.2.2.2 x hx).trans (h.2.2.2 x hx)⟩
theorem Agree.sub {s r : List Nat} {a b : World} (h : Agree s a b) (hr : ∀ x ∈ r, x ∈ s) : Agree r a b := ⟨h.1, h.2.1, h.2.2.1, fun x hx => h.2.2.2 x (hr x hx)⟩
/-- A part of memory: it holds of some blocks (its own) in a world. -/
abbrev Asn := List Nat → World → Prop
structure Ok (A : Asn) (s : List Nat) (w : World) : Prop where
  lt : ∀ b ∈ s, b < w.heap.size
  all : ∀ w', Agree s w w' → A s w'
theorem Ok.now {A : Asn} {s : List Nat} {w : World} (h : Ok A s w) : A s w := h.all w (Agree.refl s w)
theorem Ok.agree {A : Asn} {s : List Nat} {w w' : World} (h : Ok A s w) (hw : Agree s w w') (hsz : w.heap.size ≤ w'.heap.size) : Ok A s w' :=
  ⟨fun b hb => Nat.lt_of_lt_of_le (h.lt b hb) hsz, fun w'' hw'' => h.all w'' (hw.trans hw'')⟩
theorem Ok.imp {A B : Asn} {s : List Nat} {w : World} (h : Ok A s w) (hi : ∀ w', A s w' → B s w') : Ok B s w := ⟨h.lt, fun w' hw => hi w' (h.all w' hw)⟩
inductive Sat : List Asn → List Nat → World → Prop where
  | nil (w : World) : Sat [] [] w
  | cons {A : Asn} {L : List Asn} {s r : List Nat} {w : World} : Ok A s w → Sat L r w → (∀ b ∈ s, b ∉ r) → Sat (A :: L) (s ++ r) w
theorem Sat.agree {L : List Asn} {s : List Nat} {w w' : World} (h : Sat L s w) (hw : Agree s w w') (hsz : w.heap.size ≤ w'.heap.size) : Sat L s w' := by
  induction h with
  | nil => exact .nil w'
  | cons h1 _ h3 ih => exact .cons (h1.agree (hw.sub fun x hx => by simp [hx]) hsz) (ih (hw.sub fun x hx => by simp [hx]) hsz) h3
theorem Sat.lt {L : List Asn} {s : List Nat} {w : World} (h : Sat L s w) : ∀ b ∈ s, b < w.heap.size := by
  induction h with
  | nil => simp
  | cons h1 _ _ ih =>
    intro b hb
    rcases List.mem_append.1 hb with hb | hb
    · exact h1.lt b hb
    · exact ih b hb
/-- The world's memory holds these separate parts (and whatever else). -/
def Mem (w : World) (L : List Asn) : Prop := ∃ s, Sat L s w
/-- w' is w but for the blocks s, and new ones. -/
structure Chg (s : List Nat) (w w' : World) : Prop where
  os : w'.os = w.os
  tape : w'.tape = w.tape
  output : w'.output = w.output
  size : w.heap.size ≤ w'.heap.size
  block : ∀ k, k < w.heap.size → k ∉ s → w'.heap[k]? = w.heap[k]?
theorem Chg.agree {s r : List Nat} {w w' : World} (h : Chg s w w') (hr : ∀ b ∈ r, b < w.heap.size ∧ b ∉ s) : Agree r w w' := ⟨h.os, h.tape, h.output, fun b hb => h.block b (hr b hb).1 (hr b hb).2⟩
theorem Mem.change {A : Asn} {L : List Asn} {w w' : World} (M : Mem w (A :: L)) {B : Asn} (h : ∀ s, Ok A s w → Chg s w w' ∧ ∃ s', Ok B s' w' ∧ ∀ b ∈ s', b ∈ s ∨ w.heap.size ≤ b) : Mem w' (B :: L) := by
  obtain ⟨s, hs⟩ := M
  cases hs with
  | @cons _ _ s r _ h1 h2 h3 =>
    obtain ⟨hc, s', hB, hsub⟩ := h s h1
    refine ⟨s' ++ r, .cons hB (h2.agree (hc.agree fun b hb => ⟨h2.lt b hb, fun hm => h3 b hm hb⟩) hc.size) fun b hb hr => ?_⟩
    rcases hsub b hb with hb | hb
    · exact h3 b hb hr
    · have := h2.lt b hr; omega
theorem Mem.new {L : List Asn} {w w' : World} (M : Mem w L) {B : Asn} (hc : Chg [] w w') (h : ∃ s', Ok B s' w' ∧ ∀ b ∈ s', w.heap.size ≤ b) : Mem w' (B :: L) := by
  obtain ⟨r, hr⟩ := M
  obtain ⟨s', hB, hsub⟩ := h
  refine ⟨s' ++ r, .cons hB (hr.agree (hc.agree fun b hb => ⟨hr.lt b hb, by simp⟩) hc.size) fun b hb hbr => ?_⟩
  have := hr.lt b hbr
  have := hsub b hb
  omega
theorem Mem.same {L : List Asn} {w w' : World} (M : Mem w L) (hc : Chg [] w w') : Mem w' L := by
  obtain ⟨r, hr⟩ := M
  exact ⟨r, hr.agree (hc.agree fun b hb => ⟨hr.lt b hb, by simp⟩) hc.size⟩
theorem Mem.drew {L : List Asn} {w : World} (M : Mem w L) (n : Nat) : Mem { w with drawn := n } L := M.same ⟨rfl, rfl, rfl, Nat.le_refl _, fun _ _ _ => rfl⟩
theorem Mem.nil (w : World) : Mem w [] := ⟨[], .nil w⟩
theorem Mem.drop {A : Asn} {L : List Asn} {w : World} (M : Mem w (A :: L)) : Mem w L := by
  obtain ⟨s, hs⟩ := M
  cases hs with
  | cons _ h2 _ => exact ⟨_, h2⟩
theorem Mem.imp {A B : Asn} {L : List Asn} {w : World} (M : Mem w (A :: L)) (h : ∀ s w', A s w' → B s w') : Mem w (B :: L) :=
  M.change fun s hs => ⟨⟨rfl, rfl, rfl, Nat.le_refl _, fun _ _ _ => rfl⟩, s, hs.imp (h s), fun b hb => .inl hb⟩
theorem Mem.head {A : Asn} {L : List Asn} {w : World} (M : Mem w (A :: L)) : ∃ s, A s w ∧ ∀ b ∈ s, b < w.heap.size := by
  obtain ⟨s, hs⟩ := M
  cases hs with
  | cons h1 _ _ => exact ⟨_, h1.now, h1.lt⟩
theorem Mem.swap {A B : Asn} {L : List Asn} {w : World} (M : Mem w (A :: B :: L)) : Mem w (B :: A :: L) := by
  obtain ⟨s, hs⟩ := M
  cases hs with
  | @cons _ _ s1 r1 _ h1 h2 h3 =>
    cases h2 with
    | @cons _ _ s2 r2 _ k1 k2 k3 =>
      refine ⟨_, .cons k1 (.cons h1 k2 fun b hb hr => h3 b hb (by simp [hr])) fun b hb hm => ?_⟩
      rcases List.mem_append.1 hm with hm | hm
      · exact h3 b hm (by simp [hb])
      · exact k3 b hb hm
/-- L is L' with A ahead, up to order. -/
inductive Pull : List Asn → Asn → List Asn → Prop where
  | here {A : Asn} {L : List Asn} : Pull (A :: L) A L
  | there {X A : Asn} {L L' : List Asn} : Pull L A L' → Pull (X :: L) A (X :: L')
theorem Sat.pull {L L' : List Asn} {A : Asn} (h : Pull L A L') : ∀ {s : List Nat} {w : World}, Sat L s w → ∃ s', Sat (A :: L') s' w ∧ (∀ b, b ∈ s' ↔ b ∈ s) := by
  induction h with
  | here => exact fun hs => ⟨_, hs, fun _ => Iff.rfl⟩
  | there h ih =>
    intro s w hs
    cases hs with
    | cons h1 h2 h3 =>
      obtain ⟨s', k1, k2⟩ := ih h2
      cases k1 with
      | @cons _ _ sa ra _ m1 m2 m3 =>
        refine ⟨_, .cons m1 (.cons h1 m2 fun b hb hr => h3 b hb ((k2 b).1 (by simp [hr]))) fun b hb hm => ?_, fun b => ?_⟩
        · rcases List.mem_append.1 hm with hm | hm
          · exact h3 b hm ((k2 b).1 (by simp [hb]))
          · exact m3 b hb hm
        · have := k2 b
          simp only [List.mem_append] at this ⊢
          constructor
          · rintro (h | h | h)
            · exact .inr (this.1 (.inl h))
            · exact .inl h
            · exact .inr (this.1 (.inr h))
          · rintro (h | h)
            · exact .inr (.inl h)
            · rcases this.2 h with h | h
              · exact .inl h
              · exact .inr (.inr h)
theorem Sat.push {L L' : List Asn} {A : Asn} (h : Pull L A L') : ∀ {s : List Nat} {w : World}, Sat (A :: L') s w → ∃ s', Sat L s' w ∧ (∀ b, b ∈ s' ↔ b ∈ s) := by
  induction h with
  | here => exact fun hs => ⟨_, hs, fun _ => Iff.rfl⟩
  | there h ih =>
    intro s w hs
    cases hs with
    | cons h1 h2 h3 =>
      cases h2 with
      | @cons _ _ sx rx _ m1 m2 m3 =>
        obtain ⟨s', k1, k2⟩ := ih (Sat.cons h1 m2 fun b hb hr => h3 b hb (by simp [hr]))
        refine ⟨_, .cons m1 k1 fun b hb hm => ?_, fun b => ?_⟩
        · rcases List.mem_append.1 ((k2 b).1 hm) with hm | hm
          · exact h3 b hm (by simp [hb])
          · exact m3 b hb hm
        · have := k2 b
          simp only [List.mem_append] at this ⊢
          constructor
          · rintro (h | h)
            · exact .inr (.inl h)
            · rcases this.1 h with h | h
              · exact .inl h
              · exact .inr (.inr h)
          · rintro (h | h | h)
            · exact .inr (this.2 (.inl h))
            · exact .inl h
            · exact .inr (this.2 (.inr h))
theorem Mem.pull {L L' : List Asn} {A : Asn} {w : World} (M : Mem w L) (h : Pull L A L') : Mem w (A :: L') := by
  obtain ⟨s, hs⟩ := M
  obtain ⟨s', h1, _⟩ := hs.pull h
  exact ⟨s', h1⟩
theorem Mem.push {L L' : List Asn} {A : Asn} {w : World} (M : Mem w (A :: L')) (h : Pull L A L') : Mem w L := by
  obtain ⟨s, hs⟩ := M
  obtain ⟨s', h1, _⟩ := hs.push h
  exact ⟨s', h1⟩
/-- L2 is L with B in the place of A. -/
inductive Rep : List Asn → Asn → Asn → List Asn → Prop where
  | here {A B : Asn} {L : List Asn} : Rep (A :: L) A B (B :: L)
  | there {X A B : Asn} {L L' : List Asn} : Rep L A B L' → Rep (X :: L) A B (X :: L')
theorem Rep.both {L L2 : List Asn} {A B : Asn} (h : Rep L A B L2) : ∃ L', Pull L A L' ∧ Pull L2 B L' := by
  induction h with
  | here => exact ⟨_, .here, .here⟩
  | there h ih => obtain ⟨L', h1, h2⟩ := ih; exact ⟨_, .there h1, .there h2⟩
theorem Mem.rep {L L2 : List Asn} {A B : Asn} {w w' : World} (M : Mem w L) (h : Rep L A B L2) (hc : ∀ s, Ok A s w → Chg s w w' ∧ ∃ s', Ok B s' w' ∧ ∀ b ∈ s', b ∈ s ∨ w.heap.size ≤ b) : Mem w' L2 := by
  obtain ⟨L', h1, h2⟩ := h.both
  exact ((M.pull h1).change hc).push h2
/-- Block b is a row of these cells. -/
def pt (b : Nat) (cs : List Value) (t : TypeId) : Asn := fun s w => s = [b] ∧ w.heap[b]? = some (.cells cs.toArray t (0, 0))
theorem Mem.pt {L L' : List Asn} {b : Nat} {cs : List Value} {t : TypeId} {w : World} (M : Mem w L) (h : Pull L (pt b cs t) L') : w.heap[b]? = some (.cells cs.toArray t (0, 0)) := by
  obtain ⟨s, hs, _⟩ := (M.pull h).head
  exact hs.2
theorem ok_pt {w : World} {b : Nat} {cs : List Value} {t : TypeId} (h : w.heap[b]? = some (.cells cs.toArray t (0, 0))) : Ok (pt b cs t) [b] w := by
  refine ⟨fun x hx => ?_, fun w' hw => ⟨rfl, ?_⟩⟩
  · obtain rfl : x = b := by simpa using hx
    exact (Array.getElem?_eq_some_iff.1 h).1
  · rw [hw.2.2.2 b (by simp)]; exact h
theorem Mem.alloc {L : List Asn} {w : World} (M : Mem w L) (cs : List Value) (t : TypeId) : Mem (w.alloc (.cells cs.toArray t)) (Go.Proofs.YtopbohbkhljjgaaGreat.pt w.heap.size cs t :: L) :=
  M.new ⟨rfl, rfl, rfl, by simp, fun k hk _ => (((Below.refl _ _).alloc (Nat.le_refl _) _).block k hk)⟩ ⟨[w.heap.size], ok_pt (heap_alloc_new w _), by simp⟩
theorem chg_setRow {w : World} {b : Nat} {cs : Array Value} : Chg [b] w (w.setRow b cs) :=
  ⟨rfl, rfl, rfl, by simp, fun k _ hk => setRow_other w b k cs (by simpa using hk)⟩
theorem Mem.setRow {L L2 : List Asn} {b : Nat} {cs cs' : List Value} {t : TypeId} {w : World} (M : Mem w L) (h : Rep L (Go.Proofs.YtopbohbkhljjgaaGreat.pt b cs t) (Go.Proofs.YtopbohbkhljjgaaGreat.pt b cs' t) L2) : Mem (w.setRow b cs'.toArray) L2 :=
  M.rep h fun s hs => by
    obtain ⟨rfl, hb⟩ := hs.now
    exact ⟨chg_setRow, [b], ok_pt (setRow_heap w b _ _ t _ hb), fun x hx => .inl hx⟩
/-- All that the world w0 held is as it was. -/
def Old (w0 : World) : Asn := fun s w => s = List.range w0.heap.size ∧ w.os = w0.os ∧ w.tape = w0.tape ∧ w.output = w0.output ∧ ∀ b, b < w0.heap.size → w.heap[b]? = w0.heap[b]?
theorem Mem.old (w : World) : Mem w [Old w] := by
  refine ⟨List.range w.heap.size ++ [], .cons ⟨by simp, fun w' h => ⟨rfl, h.1, h.2.1, h.2.2.1, fun b hb => h.2.2.2 b (by simpa using hb)⟩⟩ (.nil w) (by simp)⟩
theorem Mem.below {w0 w : World} {L L' : List Asn} (M : Mem w L) (h : Pull L (Old w0) L') : Below w0.heap.size w0 w := by
  obtain ⟨s, ⟨rfl, h1, h2, h3, h4⟩, h5⟩ := (M.pull h).head
  refine ⟨h1, h2, h3, ?_, h4⟩
  rcases Nat.lt_or_ge w.heap.size w0.heap.size with hlt | hge
  · have := h5 w.heap.size (by simpa using hlt); omega
  · exact hge
theorem Mem.of_below {w w' : World} {L : List Asn} (M : Mem w L) (h : Below w.heap.size w w') : Mem w' L := M.same ⟨h.os, h.tape, h.output, h.size, fun k hk _ => h.block k hk⟩
/-! ### Tables of the program's types -/
/-- How values of a type are read: one cell, or so many. -/
class KT (t : TypeId) (r : outParam (Option Nat)) : Prop where
  k : (Tryz.prog.underlying t).map (fun d => (match d with | .struct _ | .array _ _ => true | _ => false)) = some r.isSome ∧ (Tryz.prog.info? t).map (·.size) = some (r.getD 1)
class ZT (t : TypeId) (zs : outParam (List Value)) : Prop where
  k : (Tryz.prog.info? t).map (fun i => i.zero.map Value.cells) = some (some zs.toArray)
class FO (t : TypeId) (f : Nat) (off : outParam Nat) : Prop where
  k : (match Tryz.prog.underlying t with | some (.struct fs) => (fs[f]?).map (fun f => (f.offset, (match Tryz.prog.info? f.type with | some i => Nat.ble 1 i.size | none => false))) | _ => none) = some (off, true)
/-- A slice type: its elements' type, their zero value, their cells and bytes. -/
class ST (t : TypeId) (e : outParam TypeId) (z : outParam Value) (size bytes : outParam Nat) : Prop where
  k : Tryz.prog.underlying t = some (.slice e) ∧ (Tryz.prog.info? e).map (fun i => (i.zero, i.size, i.bytes)) = some (some z, size, bytes) ∧ (z.cells.size == size && Nat.ble 1 size) = true
/-- An array type: its length, its elements' type and their cells. -/
class AT (t : TypeId) (len : outParam Nat) (e : outParam TypeId) (size : outParam Nat) : Prop where
  k : Tryz.prog.underlying t = some (.array len e) ∧ (Tryz.prog.info? e).map (fun i => i.size) = some size
class FK (f : FuncId) : Prop where
  k : (match Tryz.prog.funcs[f]? with | some fn => !(fn.name == "runtime.NumGoroutine") && fn.body.isSome | none => false) = true
theorem run_isAgg {t : TypeId} {r : Option Nat} [h : KT t r] (w : World) : (isAgg t).run Tryz.prog w = .ok r.isSome w ∧ (sizeOf t).run Tryz.prog w = .ok (r.getD 1) w := by
  obtain ⟨h1, h2⟩ := h.k
  constructor
  · cases hu : Tryz.prog.underlying t with
    | none => rw [hu] at h1; cases h1
    | some d =>
      rw [hu] at h1
      have h1 := Option.some.inj h1
      unfold isAgg
      rw [Sem.run_bind, run_underlying hu w]
      cases d <;> simp_all
  · cases hi : Tryz.prog.info? t with
    | none => rw [hi] at h2; cases h2
    | some i =>
      rw [hi] at h2
      have h2 := Option.some.inj h2
      simp [sizeOf, typeInfo, hi, h2]
theorem add0 (b i j : Nat) : (⟨b, i, none⟩ : Addr).add j = ⟨b, i + j, none⟩ := by unfold Addr.add; split <;> simp_all
theorem run_loadVar_one {t : TypeId} [KT t none] {w : World} {b i : Nat} {v : Value} (h : w.cell? ⟨b, i, none⟩ = some v) : (loadVar t ⟨b, i, none⟩).run Tryz.prog w = .ok v w := by
  simp [loadVar, Sem.run_bind, (run_isAgg (t := t) w).1, load, Sem.run, h]
theorem run_loadVar_agg {t : TypeId} {k : Nat} [KT t (some k)] {w : World} {b i : Nat} {cs : List Value} (hl : cs.length = k) (h : ∀ j u, cs[j]? = some u → w.cell? ⟨b, i + j, none⟩ = some u) : (loadVar t ⟨b, i, none⟩).run Tryz.prog w = .ok (.agg cs.toArray) w := by
  subst hl
  have hl := run_loadCells_list (P := Tryz.prog) w ⟨b, i, none⟩ cs (fun j v hv => by rw [add0]; exact h j v hv)
  simp [loadVar, Sem.run_bind, (run_isAgg (t := t) w).1, (run_isAgg (t := t) w).2, hl]
theorem run_storeVar_one {t : TypeId} [KT t none] {w : World} {b i : Nat} {v u : Value} (h : w.cell? ⟨b, i, none⟩ = some u) (hf : w.frozen? ⟨b, i, none⟩ = false) (hv : v.oneCell' = true) : (storeVar t ⟨b, i, none⟩ v).run Tryz.prog w = .ok () (w.setCell ⟨b, i, none⟩ v) := by
  have h1 : v.cells = #[v] := by cases v <;> simp_all [Value.oneCell', Value.cells]
  have h2 : (⟨b, i, none⟩ : Addr).add 0 = ⟨b, i, none⟩ := by rw [add0]; rfl
  simp only [storeVar, Sem.run_bind, (run_isAgg (t := t) w).2, Result.andThen_ok, h1]
  cases v <;> simp_all [storeCells, store, Sem.run, Value.oneCell']
/-! ### Comparing values of flat types -/
inductive Sc where
  | int | bool | str
def scEq : Sc → Value → Value → Option Bool
  | .int, .int k x, .int k' y => if k = k' then some (decide (x = y)) else none
  | .bool, .bool x, .bool y => some (x == y)
  | .str, .string x, .string y => some (x.toList == y.toList)
  | _, _, _ => none
def cellsEq : List Sc → List Value → List Value → Option Bool
  | [], [], [] => some true
  | k :: ks, x :: xs, y :: ys => match scEq k x y, cellsEq ks xs ys with
    | some a, some b => some (a && b)
    | _, _ => none
  | _, _, _ => none
def scOf (P : Program) (t : TypeId) : Option Sc := match P.underlying t with | some .bool => some .bool | some (.int _) => some .int | some .string => some .str | _ => none
def flatFs (P : Program) : List Field → List Sc → Nat → Bool
  | [], [], _ => true
  | f :: fs, k :: ks, o => f.name != "_" && Nat.beq f.offset o && (match scOf P f.type, k with | some .int, .int | some .bool, .bool | some .str, .str => true | _, _ => false) && flatFs P fs ks (o + 1)
  | _, _, _ => false
theorem scEq_run {P : Program} {t : TypeId} {k : Sc} {x y : Value} {r : Bool} (hk : (match scOf P t, k with | some .int, .int | some .bool, .bool | some .str, .str => true | _, _ => false) = true) (h : scEq k x y = some r) (d : Nat) (w : World) :
    P.plainKey t = true ∧ (Op.equalIn (d + 1) t x y).run P w = .ok r w := by
  unfold scOf at hk
  cases hu : P.underlying t with
  | none => rw [hu] at hk; simp at hk
  | some u =>
    rw [hu] at hk
    cases u <;> simp at hk
    all_goals
      cases k <;> simp at hk
      cases x <;> cases y <;> simp [scEq] at h
    case int.int.int.int k' k1 x1 k2 y1 =>
      obtain ⟨rfl, rfl⟩ := h
      refine ⟨by simp [Program.plainKey, hu], ?_⟩
      rw [run_equalIn_int w d t k1 k' x1 y1 hu]; rfl
    case bool.bool.bool.bool x1 y1 =>
      subst h
      exact ⟨by simp [Program.plainKey, hu], run_equalIn_bool' w d t x1 y1 hu⟩
    case string.str.string.string x1 y1 =>
      subst h
      exact ⟨by simp [Program.plainKey, hu], run_equalIn_string w d t x1 y1 hu⟩
theorem eqFields_flat {P : Program} (d : Nat) (w : World) (xs ys : List Value) : ∀ (fs : List Field) (ks : List Sc) (o : Nat) (r : Bool), flatFs P fs ks o = true → cellsEq ks (xs.drop o) (ys.drop o) = some r → (Op.eqFields (d + 1) xs.toArray ys.toArray fs).run P w = .ok r w
  | [], [], o, r, _, h => by
    cases hx : xs.drop o <;> cases hy : ys.drop o <;> rw [hx, hy] at h <;> simp [cellsEq] at h
    subst h
    simp [Op.eqFields]
  | f :: fs, k :: ks, o, r, hf, h => by
    simp only [flatFs, Bool.and_eq_true] at hf
    obtain ⟨⟨⟨h1, h2⟩, h3⟩, h4⟩ := hf
    cases hx : xs.drop o with
    | nil => rw [hx] at h; cases hy : ys.drop o <;> rw [hy] at h <;> simp [cellsEq] at h
    | cons x xs' =>
      cases hy : ys.drop o with
      | nil => rw [hx, hy] at h; simp [cellsEq] at h
      | cons y ys' =>
        rw [hx, hy] at h
        simp only [cellsEq] at h
        split at h
        · rename_i p q hp hq
          obtain rfl := Option.some.inj h
          have ho : f.offset = o := Nat.eq_of_beq_eq_true h2
          obtain ⟨hk, he⟩ := scEq_run h3 hp d w
          have hx1 : xs.toArray[f.offset]? = some x := by
            have : xs[o]? = some x := by have := congrArg (fun l => l[0]?) hx; simpa using this
            rw [ho]; simpa using this
          have hy1 : ys.toArray[f.offset]? = some y := by
            have : ys[o]? = some y := by have := congrArg (fun l => l[0]?) hy; simpa using this
            rw [ho]; simpa using this
          have hx2 : xs.drop (o + 1) = xs' := by rw [← List.drop_drop, hx]; rfl
          have hy2 : ys.drop (o + 1) = ys' := by rw [← List.drop_drop, hy]; rfl
          have ih := eqFields_flat d w xs ys fs ks (o + 1) q h4 (by rw [hx2, hy2]; exact hq)
          have hn : f.name ≠ "_" := by simpa using h1
          simp only [Op.eqFields, if_pos hn, Sem.run_bind, run_part_plain w hk hx1, run_part_plain w hk hy1, Result.andThen_ok, he]
          cases p <;> simp [ih]
        · cases h
  | [], _ :: _, _, _, hf, _ => by simp [flatFs] at hf
  | _ :: _, [], _, _, hf, _ => by simp [flatFs] at hf
theorem eqItems_flat {P : Program} (d : Nat) (w : World) {e : TypeId} {k : Sc} (hk : (match scOf P e, k with | some .int, .int | some .bool, .bool | some .str, .str => true | _, _ => false) = true) (xs ys : List Value) : ∀ (m o : Nat) (r : Bool), cellsEq (List.replicate m k) (xs.drop o) (ys.drop o) = some r →
    (Op.eqItems (d + 1) e 1 xs.toArray ys.toArray (List.range' o m)).run P w = .ok r w
  | 0, o, r, h => by
    cases hx : xs.drop o <;> cases hy : ys.drop o <;> rw [hx, hy] at h <;> simp [cellsEq] at h
    subst h
    simp [Op.eqItems]
  | m + 1, o, r, h => by
    rw [List.replicate_succ] at h
    cases hx : xs.drop o with
    | nil => rw [hx] at h; cases hy : ys.drop o <;> rw [hy] at h <;> simp [cellsEq] at h
    | cons x xs' =>
      cases hy : ys.drop o with
      | nil => rw [hx, hy] at h; simp [cellsEq] at h
      | cons y ys' =>
        rw [hx, hy] at h
        simp only [cellsEq] at h
        split at h
        · rename_i p q hp hq
          obtain rfl := Option.some.inj h
          obtain ⟨hk', he⟩ := scEq_run hk hp d w
          have hx1 : xs.toArray[o * 1]? = some x := by
            have : xs[o]? = some x := by have := congrArg (fun l => l[0]?) hx; simpa using this
            simpa using this
          have hy1 : ys.toArray[o * 1]? = some y := by
            have : ys[o]? = some y := by have := congrArg (fun l => l[0]?) hy; simpa using this
            simpa using this
          have hx2 : xs.drop (o + 1) = xs' := by rw [← List.drop_drop, hx]; rfl
          have hy2 : ys.drop (o + 1) = ys' := by rw [← List.drop_drop, hy]; rfl
          have ih := eqItems_flat d w hk xs ys m (o + 1) q (by rw [hx2, hy2]; exact hq)
          rw [List.range'_succ]
          simp only [Op.eqItems, Sem.run_bind, run_part_plain w hk' hx1, run_part_plain w hk' hy1, Result.andThen_ok, he]
          cases p <;> simp [ih]
        · cases h
def flatT (P : Program) (t : TypeId) (ks : List Sc) : Bool :=
  match P.underlying t with
  | some (.struct fs) => flatFs P fs.toList ks 0 && !P.stoodInHeld t
  | some (.array n e) => (match ks with
    | k :: _ => (match scOf P e, k with | some .int, .int | some .bool, .bool | some .str, .str => true | _, _ => false) && Nat.beq ks.length n && ks.all (fun k' => match k, k' with | .int, .int | .bool, .bool | .str, .str => true | _, _ => false) && Nat.beq (P.cellsOf e) 1 && (P.info? e).isSome
    | [] => false)
  | _ => false
theorem cells_one {P : Program} {e : TypeId} (h : Nat.beq (P.cellsOf e) 1 = true) : P.cellsOf e = 1 := Nat.eq_of_beq_eq_true h
/-- A flat type: all its cells are numbers, bools or strings. -/
class EQ (t : TypeId) (ks : outParam (List Sc)) : Prop where
  k : flatT Tryz.prog t ks = true ∧ Tryz.prog.eqGuardType Tryz.prog.depth t = false
theorem run_eq_flat {t : TypeId} {ks : List Sc} [he : EQ t ks] {xs ys : List Value} {r : Bool} (h : cellsEq ks xs ys = some r) (w : World) : (Op.equalIn 10000 t (.agg xs.toArray) (.agg ys.toArray)).run Tryz.prog w = .ok r w := by
  have hf := he.k.1
  unfold flatT at hf
  cases hu : Tryz.prog.underlying t with
  | none => rw [hu] at hf; cases hf
  | some u =>
    rw [hu] at hf
    cases u with
    | struct fs =>
      simp only [Bool.and_eq_true, Bool.not_eq_true'] at hf
      have hfo : Tryz.prog.fieldsOf t = fs := by simp [Program.fieldsOf, hu]
      rw [run_equalIn_struct w 9999 t _ _ (by rw [hfo]; exact hu) hf.2, hfo]
      exact eqFields_flat 9998 w xs ys fs.toList ks 0 r hf.1 (by simpa using h)
    | array n e =>
      cases ks with
      | nil => simp at hf
      | cons k ks =>
        simp only [Bool.and_eq_true] at hf
        obtain ⟨⟨⟨⟨h1, h2⟩, h3⟩, h4⟩, h5⟩ := hf
        have hn : (k :: ks).length = n := Nat.eq_of_beq_eq_true h2
        have hrep : k :: ks = List.replicate n k := by
          rw [← hn]
          refine List.eq_replicate_iff.2 ⟨rfl, fun b hb => ?_⟩
          have := List.all_eq_true.1 h3 b hb
          cases k <;> cases b <;> simp_all
        obtain ⟨i, hi⟩ := Option.isSome_iff_exists.1 h5
        rw [run_equalIn_array w 9999 _ _ hu hi, cells_one h4, List.range_eq_range']
        exact eqItems_flat 9998 w h1 xs ys n 0 r (by rw [← hrep]; simpa using h)
    | _ => simp at hf
theorem scEq_refl {k : Sc} {x : Value} {r : Bool} (h : scEq k x x = some r) : r = true := by
  cases k <;> cases x <;> simp [scEq] at h <;> simp_all
theorem cellsEq_refl : ∀ {ks : List Sc} {xs : List Value} {r : Bool}, cellsEq ks xs xs = some r → r = true
  | [], [], r, h => by simp [cellsEq] at h; simp_all
  | k :: ks, x :: xs, r, h => by
    simp only [cellsEq] at h
    split at h
    · rename_i a b h1 h2
      obtain rfl := Option.some.inj h
      rw [scEq_refl h1, cellsEq_refl h2]; rfl
    · cases h
  | [], _ :: _, _, h => by simp [cellsEq] at h
  | _ :: _, [], _, h => by simp [cellsEq] at h
end Go.Proofs.YtopbohbkhljjgaaGreat
end
section
namespace Go.Proofs.YtopbohbkhljjgaaGreat
instance : KT 1 none := ⟨⟨by kernel_rfl, by kernel_rfl⟩⟩
instance : ZT 1 [.nilFunc] := ⟨by kernel_rfl⟩
instance : KT 2 none := ⟨⟨by kernel_rfl, by kernel_rfl⟩⟩
instance : ZT 2 [.int .i64 0] := ⟨by kernel_rfl⟩
instance : KT 3 none := ⟨⟨by kernel_rfl, by kernel_rfl⟩⟩
instance : ZT 3 [.int .i64 0] := ⟨by kernel_rfl⟩
instance : KT 4 none := ⟨⟨by kernel_rfl, by kernel_rfl⟩⟩
instance : ZT 4 [.bool false] := ⟨by kernel_rfl⟩
instance : KT 5 none := ⟨⟨by kernel_rfl, by kernel_rfl⟩⟩
instance : ZT 5 [.int .u8 0] := ⟨by kernel_rfl⟩
instance : KT 6 none := ⟨⟨by kernel_rfl, by kernel_rfl⟩⟩
instance : ZT 6 [.int .u8 0] := ⟨by kernel_rfl⟩
instance : KT 7 (some 4) := ⟨⟨by kernel_rfl, by kernel_rfl⟩⟩
instance : ZT 7 [.int .i64 0, .int .i64 0, .bool false, .int .u8 0] := ⟨by kernel_rfl⟩
instance : EQ 7 [.int, .int, .bool, .int] := ⟨⟨by kernel_rfl, by kernel_rfl⟩⟩
instance : FO 7 0 0 := ⟨by kernel_rfl⟩
instance : FO 7 1 1 := ⟨by kernel_rfl⟩
instance : FO 7 2 2 := ⟨by kernel_rfl⟩
instance : FO 7 3 3 := ⟨by kernel_rfl⟩
instance : KT 8 (some 4) := ⟨⟨by kernel_rfl, by kernel_rfl⟩⟩
instance : ZT 8 [.int .i64 0, .int .i64 0, .bool false, .int .u8 0] := ⟨by kernel_rfl⟩
instance : EQ 8 [.int, .int, .bool, .int] := ⟨⟨by kernel_rfl, by kernel_rfl⟩⟩
instance : FO 8 0 0 := ⟨by kernel_rfl⟩
instance : FO 8 1 1 := ⟨by kernel_rfl⟩
instance : FO 8 2 2 := ⟨by kernel_rfl⟩
instance : FO 8 3 3 := ⟨by kernel_rfl⟩
instance : KT 9 none := ⟨⟨by kernel_rfl, by kernel_rfl⟩⟩
instance : ZT 9 [.string ByteArray.empty] := ⟨by kernel_rfl⟩
instance : KT 10 none := ⟨⟨by kernel_rfl, by kernel_rfl⟩⟩
instance : ZT 10 [.string ByteArray.empty] := ⟨by kernel_rfl⟩
instance : KT 11 none := ⟨⟨by kernel_rfl, by kernel_rfl⟩⟩
instance : ZT 11 [.string ByteArray.empty] := ⟨by kernel_rfl⟩
instance : KT 12 none := ⟨⟨by kernel_rfl, by kernel_rfl⟩⟩
instance : ZT 12 [.int .u64 0] := ⟨by kernel_rfl⟩
instance : KT 13 (some 2) := ⟨⟨by kernel_rfl, by kernel_rfl⟩⟩
instance : ZT 13 [.string ByteArray.empty, .int .u64 0] := ⟨by kernel_rfl⟩
instance : FO 13 0 0 := ⟨by kernel_rfl⟩
instance : FO 13 1 1 := ⟨by kernel_rfl⟩
instance : KT 14 (some 2) := ⟨⟨by kernel_rfl, by kernel_rfl⟩⟩
instance : ZT 14 [.string ByteArray.empty, .int .u64 0] := ⟨by kernel_rfl⟩
instance : FO 14 0 0 := ⟨by kernel_rfl⟩
instance : FO 14 1 1 := ⟨by kernel_rfl⟩
instance : KT 15 none := ⟨⟨by kernel_rfl, by kernel_rfl⟩⟩
instance : ZT 15 [.pointer none] := ⟨by kernel_rfl⟩
instance : KT 16 none := ⟨⟨by kernel_rfl, by kernel_rfl⟩⟩
instance : ZT 16 [.pointer none] := ⟨by kernel_rfl⟩
instance : KT 17 none := ⟨⟨by kernel_rfl, by kernel_rfl⟩⟩
instance : ZT 17 [.pointer none] := ⟨by kernel_rfl⟩
instance : KT 18 (some 1) := ⟨⟨by kernel_rfl, by kernel_rfl⟩⟩
instance : ZT 18 [.pointer none] := ⟨by kernel_rfl⟩
instance : FO 18 0 0 := ⟨by kernel_rfl⟩
instance : KT 19 (some 1) := ⟨⟨by kernel_rfl, by kernel_rfl⟩⟩
instance : ZT 19 [.pointer none] := ⟨by kernel_rfl⟩
instance : FO 19 0 0 := ⟨by kernel_rfl⟩
instance : KT 20 none := ⟨⟨by kernel_rfl, by kernel_rfl⟩⟩
instance : ZT 20 [.nilIface] := ⟨by kernel_rfl⟩
instance : KT 21 none := ⟨⟨by kernel_rfl, by kernel_rfl⟩⟩
instance : ZT 21 [.int .i32 0] := ⟨by kernel_rfl⟩
instance : KT 22 none := ⟨⟨by kernel_rfl, by kernel_rfl⟩⟩
instance : ZT 22 [.slice none 0 0] := ⟨by kernel_rfl⟩
instance : ST 22 48 (.agg #[.int .u64 0, .int .i64 0, .bool false, .int .i64 0, .int .i64 0, .int .i64 0, .int .i64 0]) 7 56 := ⟨⟨by kernel_rfl, by kernel_rfl, by kernel_rfl⟩⟩
instance : KT 23 none := ⟨⟨by kernel_rfl, by kernel_rfl⟩⟩
instance : ZT 23 [.int .u64 0] := ⟨by kernel_rfl⟩
instance : KT 24 none := ⟨⟨by kernel_rfl, by kernel_rfl⟩⟩
instance : ZT 24 [.slice none 0 0] := ⟨by kernel_rfl⟩
instance : ST 24 3 (.int .i64 0) 1 8 := ⟨⟨by kernel_rfl, by kernel_rfl, by kernel_rfl⟩⟩
instance : KT 25 none := ⟨⟨by kernel_rfl, by kernel_rfl⟩⟩
instance : ZT 25 [.slice none 0 0] := ⟨by kernel_rfl⟩
instance : ST 25 89 (.agg #[.int .i64 0, .int .i64 0]) 2 16 := ⟨⟨by kernel_rfl, by kernel_rfl, by kernel_rfl⟩⟩
instance : KT 26 none := ⟨⟨by kernel_rfl, by kernel_rfl⟩⟩
instance : ZT 26 [.slice none 0 0] := ⟨by kernel_rfl⟩
instance : ST 26 91 (.agg #[.int .i64 0, .int .u64 0]) 2 16 := ⟨⟨by kernel_rfl, by kernel_rfl, by kernel_rfl⟩⟩
instance : KT 27 (some 15) := ⟨⟨by kernel_rfl, by kernel_rfl⟩⟩
instance : ZT 27 [.int .i64 0, .int .i64 0, .slice none 0 0, .int .u64 0, .int .u64 0, .int .u64 0, .int .u64 0, .slice none 0 0, .slice none 0 0, .slice none 0 0, .slice none 0 0, .slice none 0 0, .int .i64 0, .int .u64 0, .int .i64 0] := ⟨by kernel_rfl⟩
instance : FO 27 0 0 := ⟨by kernel_rfl⟩
instance : FO 27 1 1 := ⟨by kernel_rfl⟩
instance : FO 27 2 2 := ⟨by kernel_rfl⟩
instance : FO 27 3 3 := ⟨by kernel_rfl⟩
instance : FO 27 4 4 := ⟨by kernel_rfl⟩
instance : FO 27 5 5 := ⟨by kernel_rfl⟩
instance : FO 27 6 6 := ⟨by kernel_rfl⟩
instance : FO 27 7 7 := ⟨by kernel_rfl⟩
instance : FO 27 8 8 := ⟨by kernel_rfl⟩
instance : FO 27 9 9 := ⟨by kernel_rfl⟩
instance : FO 27 10 10 := ⟨by kernel_rfl⟩
instance : FO 27 11 11 := ⟨by kernel_rfl⟩
instance : FO 27 12 12 := ⟨by kernel_rfl⟩
instance : FO 27 13 13 := ⟨by kernel_rfl⟩
instance : FO 27 14 14 := ⟨by kernel_rfl⟩
instance : KT 28 (some 15) := ⟨⟨by kernel_rfl, by kernel_rfl⟩⟩
instance : ZT 28 [.int .i64 0, .int .i64 0, .slice none 0 0, .int .u64 0, .int .u64 0, .int .u64 0, .int .u64 0, .slice none 0 0, .slice none 0 0, .slice none 0 0, .slice none 0 0, .slice none 0 0, .int .i64 0, .int .u64 0, .int .i64 0] := ⟨by kernel_rfl⟩
instance : FO 28 0 0 := ⟨by kernel_rfl⟩
instance : FO 28 1 1 := ⟨by kernel_rfl⟩
instance : FO 28 2 2 := ⟨by kernel_rfl⟩
instance : FO 28 3 3 := ⟨by kernel_rfl⟩
instance : FO 28 4 4 := ⟨by kernel_rfl⟩
instance : FO 28 5 5 := ⟨by kernel_rfl⟩
instance : FO 28 6 6 := ⟨by kernel_rfl⟩
instance : FO 28 7 7 := ⟨by kernel_rfl⟩
instance : FO 28 8 8 := ⟨by kernel_rfl⟩
instance : FO 28 9 9 := ⟨by kernel_rfl⟩
instance : FO 28 10 10 := ⟨by kernel_rfl⟩
instance : FO 28 11 11 := ⟨by kernel_rfl⟩
instance : FO 28 12 12 := ⟨by kernel_rfl⟩
instance : FO 28 13 13 := ⟨by kernel_rfl⟩
instance : FO 28 14 14 := ⟨by kernel_rfl⟩
instance : KT 29 (some 20) := ⟨⟨by kernel_rfl, by kernel_rfl⟩⟩
instance : ZT 29 [.int .i64 0, .int .i64 0, .int .u64 0, .int .u64 0, .int .u64 0, .int .u64 0, .int .u64 0, .int .u64 0, .int .u64 0, .int .u64 0, .int .i64 0, .int .i64 0, .int .i64 0, .int .i64 0, .int .i64 0, .int .i64 0, .int .i64 0, .int .i64 0, .int .u64 0, .int .u64 0] := ⟨by kernel_rfl⟩
instance : EQ 29 [.int, .int, .int, .int, .int, .int, .int, .int, .int, .int, .int, .int, .int, .int, .int, .int, .int, .int, .int, .int] := ⟨⟨by kernel_rfl, by kernel_rfl⟩⟩
instance : FO 29 0 0 := ⟨by kernel_rfl⟩
instance : FO 29 1 1 := ⟨by kernel_rfl⟩
instance : FO 29 2 2 := ⟨by kernel_rfl⟩
instance : FO 29 3 3 := ⟨by kernel_rfl⟩
instance : FO 29 4 4 := ⟨by kernel_rfl⟩
instance : FO 29 5 5 := ⟨by kernel_rfl⟩
instance : FO 29 6 6 := ⟨by kernel_rfl⟩
instance : FO 29 7 7 := ⟨by kernel_rfl⟩
instance : FO 29 8 8 := ⟨by kernel_rfl⟩
instance : FO 29 9 9 := ⟨by kernel_rfl⟩
instance : FO 29 10 10 := ⟨by kernel_rfl⟩
instance : FO 29 11 11 := ⟨by kernel_rfl⟩
instance : FO 29 12 12 := ⟨by kernel_rfl⟩
instance : FO 29 13 13 := ⟨by kernel_rfl⟩
instance : FO 29 14 14 := ⟨by kernel_rfl⟩
instance : FO 29 15 15 := ⟨by kernel_rfl⟩
instance : FO 29 16 16 := ⟨by kernel_rfl⟩
instance : FO 29 17 17 := ⟨by kernel_rfl⟩
instance : FO 29 18 18 := ⟨by kernel_rfl⟩
instance : FO 29 19 19 := ⟨by kernel_rfl⟩
instance : KT 30 (some 20) := ⟨⟨by kernel_rfl, by kernel_rfl⟩⟩
instance : ZT 30 [.int .i64 0, .int .i64 0, .int .u64 0, .int .u64 0, .int .u64 0, .int .u64 0, .int .u64 0, .int .u64 0, .int .u64 0, .int .u64 0, .int .i64 0, .int .i64 0, .int .i64 0, .int .i64 0, .int .i64 0, .int .i64 0, .int .i64 0, .int .i64 0, .int .u64 0, .int .u64 0] := ⟨by kernel_rfl⟩
instance : EQ 30 [.int, .int, .int, .int, .int, .int, .int, .int, .int, .int, .int, .int, .int, .int, .int, .int, .int, .int, .int, .int] := ⟨⟨by kernel_rfl, by kernel_rfl⟩⟩
instance : FO 30 0 0 := ⟨by kernel_rfl⟩
instance : FO 30 1 1 := ⟨by kernel_rfl⟩
instance : FO 30 2 2 := ⟨by kernel_rfl⟩
instance : FO 30 3 3 := ⟨by kernel_rfl⟩
instance : FO 30 4 4 := ⟨by kernel_rfl⟩
instance : FO 30 5 5 := ⟨by kernel_rfl⟩
instance : FO 30 6 6 := ⟨by kernel_rfl⟩
instance : FO 30 7 7 := ⟨by kernel_rfl⟩
instance : FO 30 8 8 := ⟨by kernel_rfl⟩
instance : FO 30 9 9 := ⟨by kernel_rfl⟩
instance : FO 30 10 10 := ⟨by kernel_rfl⟩
instance : FO 30 11 11 := ⟨by kernel_rfl⟩
instance : FO 30 12 12 := ⟨by kernel_rfl⟩
instance : FO 30 13 13 := ⟨by kernel_rfl⟩
instance : FO 30 14 14 := ⟨by kernel_rfl⟩
instance : FO 30 15 15 := ⟨by kernel_rfl⟩
instance : FO 30 16 16 := ⟨by kernel_rfl⟩
instance : FO 30 17 17 := ⟨by kernel_rfl⟩
instance : FO 30 18 18 := ⟨by kernel_rfl⟩
instance : FO 30 19 19 := ⟨by kernel_rfl⟩
instance : KT 31 (some 13) := ⟨⟨by kernel_rfl, by kernel_rfl⟩⟩
instance : ZT 31 [.int .i64 0, .int .i64 0, .slice none 0 0, .int .u64 0, .int .u64 0, .int .u64 0, .int .u64 0, .slice none 0 0, .slice none 0 0, .slice none 0 0, .int .i64 0, .int .i64 0, .int .i64 0] := ⟨by kernel_rfl⟩
instance : FO 31 0 0 := ⟨by kernel_rfl⟩
instance : FO 31 1 1 := ⟨by kernel_rfl⟩
instance : FO 31 2 2 := ⟨by kernel_rfl⟩
instance : FO 31 3 3 := ⟨by kernel_rfl⟩
instance : FO 31 4 4 := ⟨by kernel_rfl⟩
instance : FO 31 5 5 := ⟨by kernel_rfl⟩
instance : FO 31 6 6 := ⟨by kernel_rfl⟩
instance : FO 31 7 7 := ⟨by kernel_rfl⟩
instance : FO 31 8 8 := ⟨by kernel_rfl⟩
instance : FO 31 9 9 := ⟨by kernel_rfl⟩
instance : FO 31 10 10 := ⟨by kernel_rfl⟩
instance : FO 31 11 11 := ⟨by kernel_rfl⟩
instance : FO 31 12 12 := ⟨by kernel_rfl⟩
instance : KT 32 (some 13) := ⟨⟨by kernel_rfl, by kernel_rfl⟩⟩
instance : ZT 32 [.int .i64 0, .int .i64 0, .slice none 0 0, .int .u64 0, .int .u64 0, .int .u64 0, .int .u64 0, .slice none 0 0, .slice none 0 0, .slice none 0 0, .int .i64 0, .int .i64 0, .int .i64 0] := ⟨by kernel_rfl⟩
instance : FO 32 0 0 := ⟨by kernel_rfl⟩
instance : FO 32 1 1 := ⟨by kernel_rfl⟩
instance : FO 32 2 2 := ⟨by kernel_rfl⟩
instance : FO 32 3 3 := ⟨by kernel_rfl⟩
instance : FO 32 4 4 := ⟨by kernel_rfl⟩
instance : FO 32 5 5 := ⟨by kernel_rfl⟩
instance : FO 32 6 6 := ⟨by kernel_rfl⟩
instance : FO 32 7 7 := ⟨by kernel_rfl⟩
instance : FO 32 8 8 := ⟨by kernel_rfl⟩
instance : FO 32 9 9 := ⟨by kernel_rfl⟩
instance : FO 32 10 10 := ⟨by kernel_rfl⟩
instance : FO 32 11 11 := ⟨by kernel_rfl⟩
instance : FO 32 12 12 := ⟨by kernel_rfl⟩
instance : KT 33 none := ⟨⟨by kernel_rfl, by kernel_rfl⟩⟩
instance : ZT 33 [.nilFunc] := ⟨by kernel_rfl⟩
instance : KT 34 none := ⟨⟨by kernel_rfl, by kernel_rfl⟩⟩
instance : ZT 34 [.nilFunc] := ⟨by kernel_rfl⟩
instance : KT 35 none := ⟨⟨by kernel_rfl, by kernel_rfl⟩⟩
instance : ZT 35 [.nilFunc] := ⟨by kernel_rfl⟩
instance : KT 36 none := ⟨⟨by kernel_rfl, by kernel_rfl⟩⟩
instance : ZT 36 [.nilFunc] := ⟨by kernel_rfl⟩
instance : KT 37 none := ⟨⟨by kernel_rfl, by kernel_rfl⟩⟩
instance : ZT 37 [.nilFunc] := ⟨by kernel_rfl⟩
instance : KT 38 none := ⟨⟨by kernel_rfl, by kernel_rfl⟩⟩
instance : ZT 38 [.nilFunc] := ⟨by kernel_rfl⟩
instance : KT 39 none := ⟨⟨by kernel_rfl, by kernel_rfl⟩⟩
instance : ZT 39 [.nilFunc] := ⟨by kernel_rfl⟩
instance : KT 40 none := ⟨⟨by kernel_rfl, by kernel_rfl⟩⟩
instance : ZT 40 [.nilFunc] := ⟨by kernel_rfl⟩
instance : KT 41 none := ⟨⟨by kernel_rfl, by kernel_rfl⟩⟩
instance : ZT 41 [.nilFunc] := ⟨by kernel_rfl⟩
instance : KT 42 none := ⟨⟨by kernel_rfl, by kernel_rfl⟩⟩
instance : ZT 42 [.slice none 0 0] := ⟨by kernel_rfl⟩
instance : ST 42 9 (.string ByteArray.empty) 1 16 := ⟨⟨by kernel_rfl, by kernel_rfl, by kernel_rfl⟩⟩
instance : KT 43 none := ⟨⟨by kernel_rfl, by kernel_rfl⟩⟩
instance : ZT 43 [.nilFunc] := ⟨by kernel_rfl⟩
instance : KT 44 none := ⟨⟨by kernel_rfl, by kernel_rfl⟩⟩
instance : ZT 44 [.nilFunc] := ⟨by kernel_rfl⟩
instance : KT 45 none := ⟨⟨by kernel_rfl, by kernel_rfl⟩⟩
instance : ZT 45 [.nilFunc] := ⟨by kernel_rfl⟩
instance : KT 46 none := ⟨⟨by kernel_rfl, by kernel_rfl⟩⟩
instance : ZT 46 [.nilFunc] := ⟨by kernel_rfl⟩
instance : KT 47 (some 7) := ⟨⟨by kernel_rfl, by kernel_rfl⟩⟩
instance : ZT 47 [.int .u64 0, .int .i64 0, .bool false, .int .i64 0, .int .i64 0, .int .i64 0, .int .i64 0] := ⟨by kernel_rfl⟩
instance : EQ 47 [.int, .int, .bool, .int, .int, .int, .int] := ⟨⟨by kernel_rfl, by kernel_rfl⟩⟩
instance : FO 47 0 0 := ⟨by kernel_rfl⟩
instance : FO 47 1 1 := ⟨by kernel_rfl⟩
instance : FO 47 2 2 := ⟨by kernel_rfl⟩
instance : FO 47 3 3 := ⟨by kernel_rfl⟩
instance : FO 47 4 4 := ⟨by kernel_rfl⟩
instance : FO 47 5 5 := ⟨by kernel_rfl⟩
instance : FO 47 6 6 := ⟨by kernel_rfl⟩
instance : KT 48 (some 7) := ⟨⟨by kernel_rfl, by kernel_rfl⟩⟩
instance : ZT 48 [.int .u64 0, .int .i64 0, .bool false, .int .i64 0, .int .i64 0, .int .i64 0, .int .i64 0] := ⟨by kernel_rfl⟩
instance : EQ 48 [.int, .int, .bool, .int, .int, .int, .int] := ⟨⟨by kernel_rfl, by kernel_rfl⟩⟩
instance : FO 48 0 0 := ⟨by kernel_rfl⟩
instance : FO 48 1 1 := ⟨by kernel_rfl⟩
instance : FO 48 2 2 := ⟨by kernel_rfl⟩
instance : FO 48 3 3 := ⟨by kernel_rfl⟩
instance : FO 48 4 4 := ⟨by kernel_rfl⟩
instance : FO 48 5 5 := ⟨by kernel_rfl⟩
instance : FO 48 6 6 := ⟨by kernel_rfl⟩
instance : KT 49 none := ⟨⟨by kernel_rfl, by kernel_rfl⟩⟩
instance : ZT 49 [.nilFunc] := ⟨by kernel_rfl⟩
instance : KT 50 none := ⟨⟨by kernel_rfl, by kernel_rfl⟩⟩
instance : ZT 50 [.nilFunc] := ⟨by kernel_rfl⟩
instance : KT 51 none := ⟨⟨by kernel_rfl, by kernel_rfl⟩⟩
instance : ZT 51 [.slice none 0 0] := ⟨by kernel_rfl⟩
instance : ST 51 58 (.agg #[.int .i64 0, .int .i64 0, .int .i64 0, .int .u64 0]) 4 32 := ⟨⟨by kernel_rfl, by kernel_rfl, by kernel_rfl⟩⟩
instance : KT 52 none := ⟨⟨by kernel_rfl, by kernel_rfl⟩⟩
instance : ZT 52 [.pointer none] := ⟨by kernel_rfl⟩
instance : KT 53 none := ⟨⟨by kernel_rfl, by kernel_rfl⟩⟩
instance : ZT 53 [.int .i64 0] := ⟨by kernel_rfl⟩
instance : KT 55 none := ⟨⟨by kernel_rfl, by kernel_rfl⟩⟩
instance : ZT 55 [.nilFunc] := ⟨by kernel_rfl⟩
instance : KT 56 none := ⟨⟨by kernel_rfl, by kernel_rfl⟩⟩
instance : ZT 56 [.nilFunc] := ⟨by kernel_rfl⟩
instance : KT 57 (some 4) := ⟨⟨by kernel_rfl, by kernel_rfl⟩⟩
instance : ZT 57 [.int .i64 0, .int .i64 0, .int .i64 0, .int .u64 0] := ⟨by kernel_rfl⟩
instance : EQ 57 [.int, .int, .int, .int] := ⟨⟨by kernel_rfl, by kernel_rfl⟩⟩
instance : FO 57 0 0 := ⟨by kernel_rfl⟩
instance : FO 57 1 1 := ⟨by kernel_rfl⟩
instance : FO 57 2 2 := ⟨by kernel_rfl⟩
instance : FO 57 3 3 := ⟨by kernel_rfl⟩
instance : KT 58 (some 4) := ⟨⟨by kernel_rfl, by kernel_rfl⟩⟩
instance : ZT 58 [.int .i64 0, .int .i64 0, .int .i64 0, .int .u64 0] := ⟨by kernel_rfl⟩
instance : EQ 58 [.int, .int, .int, .int] := ⟨⟨by kernel_rfl, by kernel_rfl⟩⟩
instance : FO 58 0 0 := ⟨by kernel_rfl⟩
instance : FO 58 1 1 := ⟨by kernel_rfl⟩
instance : FO 58 2 2 := ⟨by kernel_rfl⟩
instance : FO 58 3 3 := ⟨by kernel_rfl⟩
instance : KT 59 none := ⟨⟨by kernel_rfl, by kernel_rfl⟩⟩
instance : ZT 59 [.slice none 0 0] := ⟨by kernel_rfl⟩
instance : ST 59 87 (.agg #[.int .i64 0, .int .i64 0, .int .i64 0]) 3 24 := ⟨⟨by kernel_rfl, by kernel_rfl, by kernel_rfl⟩⟩
instance : KT 60 none := ⟨⟨by kernel_rfl, by kernel_rfl⟩⟩
instance : ZT 60 [.slice none 0 0] := ⟨by kernel_rfl⟩
instance : ST 60 65 (.agg #[.int .i64 0, .int .u64 0, .bool false]) 3 24 := ⟨⟨by kernel_rfl, by kernel_rfl, by kernel_rfl⟩⟩
instance : KT 61 (some 9) := ⟨⟨by kernel_rfl, by kernel_rfl⟩⟩
instance : ZT 61 [.int .i64 0, .int .i64 0, .int .i64 0, .int .i64 0, .int .i64 0, .int .i64 0, .slice none 0 0, .slice none 0 0, .int .i64 0] := ⟨by kernel_rfl⟩
instance : FO 61 0 0 := ⟨by kernel_rfl⟩
instance : FO 61 1 1 := ⟨by kernel_rfl⟩
instance : FO 61 2 2 := ⟨by kernel_rfl⟩
instance : FO 61 3 3 := ⟨by kernel_rfl⟩
instance : FO 61 4 4 := ⟨by kernel_rfl⟩
instance : FO 61 5 5 := ⟨by kernel_rfl⟩
instance : FO 61 6 6 := ⟨by kernel_rfl⟩
instance : FO 61 7 7 := ⟨by kernel_rfl⟩
instance : FO 61 8 8 := ⟨by kernel_rfl⟩
instance : KT 62 (some 9) := ⟨⟨by kernel_rfl, by kernel_rfl⟩⟩
instance : ZT 62 [.int .i64 0, .int .i64 0, .int .i64 0, .int .i64 0, .int .i64 0, .int .i64 0, .slice none 0 0, .slice none 0 0, .int .i64 0] := ⟨by kernel_rfl⟩
instance : FO 62 0 0 := ⟨by kernel_rfl⟩
instance : FO 62 1 1 := ⟨by kernel_rfl⟩
instance : FO 62 2 2 := ⟨by kernel_rfl⟩
instance : FO 62 3 3 := ⟨by kernel_rfl⟩
instance : FO 62 4 4 := ⟨by kernel_rfl⟩
instance : FO 62 5 5 := ⟨by kernel_rfl⟩
instance : FO 62 6 6 := ⟨by kernel_rfl⟩
instance : FO 62 7 7 := ⟨by kernel_rfl⟩
instance : FO 62 8 8 := ⟨by kernel_rfl⟩
instance : KT 63 none := ⟨⟨by kernel_rfl, by kernel_rfl⟩⟩
instance : ZT 63 [.nilFunc] := ⟨by kernel_rfl⟩
instance : KT 64 (some 3) := ⟨⟨by kernel_rfl, by kernel_rfl⟩⟩
instance : ZT 64 [.int .i64 0, .int .u64 0, .bool false] := ⟨by kernel_rfl⟩
instance : EQ 64 [.int, .int, .bool] := ⟨⟨by kernel_rfl, by kernel_rfl⟩⟩
instance : FO 64 0 0 := ⟨by kernel_rfl⟩
instance : FO 64 1 1 := ⟨by kernel_rfl⟩
instance : FO 64 2 2 := ⟨by kernel_rfl⟩
instance : KT 65 (some 3) := ⟨⟨by kernel_rfl, by kernel_rfl⟩⟩
instance : ZT 65 [.int .i64 0, .int .u64 0, .bool false] := ⟨by kernel_rfl⟩
instance : EQ 65 [.int, .int, .bool] := ⟨⟨by kernel_rfl, by kernel_rfl⟩⟩
instance : FO 65 0 0 := ⟨by kernel_rfl⟩
instance : FO 65 1 1 := ⟨by kernel_rfl⟩
instance : FO 65 2 2 := ⟨by kernel_rfl⟩
instance : KT 67 none := ⟨⟨by kernel_rfl, by kernel_rfl⟩⟩
instance : ZT 67 [.nilFunc] := ⟨by kernel_rfl⟩
instance : KT 68 none := ⟨⟨by kernel_rfl, by kernel_rfl⟩⟩
instance : ZT 68 [.nilFunc] := ⟨by kernel_rfl⟩
instance : KT 69 none := ⟨⟨by kernel_rfl, by kernel_rfl⟩⟩
instance : ZT 69 [.nilFunc] := ⟨by kernel_rfl⟩
instance : KT 70 none := ⟨⟨by kernel_rfl, by kernel_rfl⟩⟩
instance : ZT 70 [.nilFunc] := ⟨by kernel_rfl⟩
instance : KT 71 none := ⟨⟨by kernel_rfl, by kernel_rfl⟩⟩
instance : ZT 71 [.slice none 0 0] := ⟨by kernel_rfl⟩
instance : ST 71 62 (.agg #[.int .i64 0, .int .i64 0, .int .i64 0, .int .i64 0, .int .i64 0, .int .i64 0, .slice none 0 0, .slice none 0 0, .int .i64 0]) 9 104 := ⟨⟨by kernel_rfl, by kernel_rfl, by kernel_rfl⟩⟩
instance : KT 72 none := ⟨⟨by kernel_rfl, by kernel_rfl⟩⟩
instance : ZT 72 [.nilFunc] := ⟨by kernel_rfl⟩
instance : KT 73 none := ⟨⟨by kernel_rfl, by kernel_rfl⟩⟩
instance : ZT 73 [.nilFunc] := ⟨by kernel_rfl⟩
instance : KT 74 none := ⟨⟨by kernel_rfl, by kernel_rfl⟩⟩
instance : ZT 74 [.nilFunc] := ⟨by kernel_rfl⟩
instance : KT 76 none := ⟨⟨by kernel_rfl, by kernel_rfl⟩⟩
instance : ZT 76 [.nilFunc] := ⟨by kernel_rfl⟩
instance : KT 77 none := ⟨⟨by kernel_rfl, by kernel_rfl⟩⟩
instance : ZT 77 [.nilFunc] := ⟨by kernel_rfl⟩
instance : KT 78 none := ⟨⟨by kernel_rfl, by kernel_rfl⟩⟩
instance : ZT 78 [.nilFunc] := ⟨by kernel_rfl⟩
instance : KT 79 none := ⟨⟨by kernel_rfl, by kernel_rfl⟩⟩
instance : ZT 79 [.nilFunc] := ⟨by kernel_rfl⟩
instance : KT 80 none := ⟨⟨by kernel_rfl, by kernel_rfl⟩⟩
instance : ZT 80 [.nilFunc] := ⟨by kernel_rfl⟩
instance : KT 81 none := ⟨⟨by kernel_rfl, by kernel_rfl⟩⟩
instance : ZT 81 [.pointer none] := ⟨by kernel_rfl⟩
instance : KT 82 none := ⟨⟨by kernel_rfl, by kernel_rfl⟩⟩
instance : ZT 82 [.nilFunc] := ⟨by kernel_rfl⟩
instance : KT 83 none := ⟨⟨by kernel_rfl, by kernel_rfl⟩⟩
instance : ZT 83 [.nilFunc] := ⟨by kernel_rfl⟩
instance : KT 84 none := ⟨⟨by kernel_rfl, by kernel_rfl⟩⟩
instance : ZT 84 [.nilFunc] := ⟨by kernel_rfl⟩
instance : KT 85 none := ⟨⟨by kernel_rfl, by kernel_rfl⟩⟩
instance : ZT 85 [.nilFunc] := ⟨by kernel_rfl⟩
instance : KT 86 (some 3) := ⟨⟨by kernel_rfl, by kernel_rfl⟩⟩
instance : ZT 86 [.int .i64 0, .int .i64 0, .int .i64 0] := ⟨by kernel_rfl⟩
instance : EQ 86 [.int, .int, .int] := ⟨⟨by kernel_rfl, by kernel_rfl⟩⟩
instance : FO 86 0 0 := ⟨by kernel_rfl⟩
instance : FO 86 1 1 := ⟨by kernel_rfl⟩
instance : FO 86 2 2 := ⟨by kernel_rfl⟩
instance : KT 87 (some 3) := ⟨⟨by kernel_rfl, by kernel_rfl⟩⟩
instance : ZT 87 [.int .i64 0, .int .i64 0, .int .i64 0] := ⟨by kernel_rfl⟩
instance : EQ 87 [.int, .int, .int] := ⟨⟨by kernel_rfl, by kernel_rfl⟩⟩
instance : FO 87 0 0 := ⟨by kernel_rfl⟩
instance : FO 87 1 1 := ⟨by kernel_rfl⟩
instance : FO 87 2 2 := ⟨by kernel_rfl⟩
instance : KT 88 none := ⟨⟨by kernel_rfl, by kernel_rfl⟩⟩
instance : ZT 88 [.slice none 0 0] := ⟨by kernel_rfl⟩
instance : ST 88 24 (.slice none 0 0) 1 24 := ⟨⟨by kernel_rfl, by kernel_rfl, by kernel_rfl⟩⟩
instance : KT 89 (some 2) := ⟨⟨by kernel_rfl, by kernel_rfl⟩⟩
instance : ZT 89 [.int .i64 0, .int .i64 0] := ⟨by kernel_rfl⟩
instance : EQ 89 [.int, .int] := ⟨⟨by kernel_rfl, by kernel_rfl⟩⟩
instance : AT 89 2 3 1 := ⟨⟨by kernel_rfl, by kernel_rfl⟩⟩
instance : KT 90 (some 2) := ⟨⟨by kernel_rfl, by kernel_rfl⟩⟩
instance : ZT 90 [.int .i64 0, .int .u64 0] := ⟨by kernel_rfl⟩
instance : EQ 90 [.int, .int] := ⟨⟨by kernel_rfl, by kernel_rfl⟩⟩
instance : FO 90 0 0 := ⟨by kernel_rfl⟩
instance : FO 90 1 1 := ⟨by kernel_rfl⟩
instance : KT 91 (some 2) := ⟨⟨by kernel_rfl, by kernel_rfl⟩⟩
instance : ZT 91 [.int .i64 0, .int .u64 0] := ⟨by kernel_rfl⟩
instance : EQ 91 [.int, .int] := ⟨⟨by kernel_rfl, by kernel_rfl⟩⟩
instance : FO 91 0 0 := ⟨by kernel_rfl⟩
instance : FO 91 1 1 := ⟨by kernel_rfl⟩
instance : KT 92 none := ⟨⟨by kernel_rfl, by kernel_rfl⟩⟩
instance : ZT 92 [.pointer none] := ⟨by kernel_rfl⟩
instance : KT 93 none := ⟨⟨by kernel_rfl, by kernel_rfl⟩⟩
instance : ZT 93 [.pointer none] := ⟨by kernel_rfl⟩
instance : KT 94 none := ⟨⟨by kernel_rfl, by kernel_rfl⟩⟩
instance : ZT 94 [.slice none 0 0] := ⟨by kernel_rfl⟩
instance : ST 94 165 (.agg #[.int .i64 0, .int .u64 0]) 2 16 := ⟨⟨by kernel_rfl, by kernel_rfl, by kernel_rfl⟩⟩
instance : KT 95 none := ⟨⟨by kernel_rfl, by kernel_rfl⟩⟩
instance : ZT 95 [.pointer none] := ⟨by kernel_rfl⟩
instance : KT 96 (some 30) := ⟨⟨by kernel_rfl, by kernel_rfl⟩⟩
instance : ZT 96 [.int .i64 0, .int .i64 0, .int .u64 0, .int .u64 0, .int .u64 0, .int .u64 0, .int .u64 0, .int .u64 0, .int .u64 0, .int .u64 0, .int .i64 0, .int .i64 0, .int .i64 0, .int .i64 0, .int .i64 0, .int .i64 0, .int .i64 0, .int .i64 0, .int .u64 0, .int .u64 0, .int .i64 0, .int .i64 0, .slice none 0 0, .pointer none, .slice none 0 0, .pointer none, .slice none 0 0, .slice none 0 0, .int .i64 0, .pointer none] := ⟨by kernel_rfl⟩
instance : FO 96 0 0 := ⟨by kernel_rfl⟩
instance : FO 96 1 20 := ⟨by kernel_rfl⟩
instance : FO 96 2 21 := ⟨by kernel_rfl⟩
instance : FO 96 3 22 := ⟨by kernel_rfl⟩
instance : FO 96 4 23 := ⟨by kernel_rfl⟩
instance : FO 96 5 24 := ⟨by kernel_rfl⟩
instance : FO 96 6 25 := ⟨by kernel_rfl⟩
instance : FO 96 7 26 := ⟨by kernel_rfl⟩
instance : FO 96 8 27 := ⟨by kernel_rfl⟩
instance : FO 96 9 28 := ⟨by kernel_rfl⟩
instance : FO 96 10 29 := ⟨by kernel_rfl⟩
instance : KT 97 (some 30) := ⟨⟨by kernel_rfl, by kernel_rfl⟩⟩
instance : ZT 97 [.int .i64 0, .int .i64 0, .int .u64 0, .int .u64 0, .int .u64 0, .int .u64 0, .int .u64 0, .int .u64 0, .int .u64 0, .int .u64 0, .int .i64 0, .int .i64 0, .int .i64 0, .int .i64 0, .int .i64 0, .int .i64 0, .int .i64 0, .int .i64 0, .int .u64 0, .int .u64 0, .int .i64 0, .int .i64 0, .slice none 0 0, .pointer none, .slice none 0 0, .pointer none, .slice none 0 0, .slice none 0 0, .int .i64 0, .pointer none] := ⟨by kernel_rfl⟩
instance : FO 97 0 0 := ⟨by kernel_rfl⟩
instance : FO 97 1 20 := ⟨by kernel_rfl⟩
instance : FO 97 2 21 := ⟨by kernel_rfl⟩
instance : FO 97 3 22 := ⟨by kernel_rfl⟩
instance : FO 97 4 23 := ⟨by kernel_rfl⟩
instance : FO 97 5 24 := ⟨by kernel_rfl⟩
instance : FO 97 6 25 := ⟨by kernel_rfl⟩
instance : FO 97 7 26 := ⟨by kernel_rfl⟩
instance : FO 97 8 27 := ⟨by kernel_rfl⟩
instance : FO 97 9 28 := ⟨by kernel_rfl⟩
instance : FO 97 10 29 := ⟨by kernel_rfl⟩
instance : KT 98 none := ⟨⟨by kernel_rfl, by kernel_rfl⟩⟩
instance : ZT 98 [.nilFunc] := ⟨by kernel_rfl⟩
instance : KT 99 (some 2) := ⟨⟨by kernel_rfl, by kernel_rfl⟩⟩
instance : ZT 99 [.int .u8 0, .int .u8 0] := ⟨by kernel_rfl⟩
instance : EQ 99 [.int, .int] := ⟨⟨by kernel_rfl, by kernel_rfl⟩⟩
instance : AT 99 2 5 1 := ⟨⟨by kernel_rfl, by kernel_rfl⟩⟩
instance : KT 100 none := ⟨⟨by kernel_rfl, by kernel_rfl⟩⟩
instance : ZT 100 [.nilFunc] := ⟨by kernel_rfl⟩
instance : KT 101 none := ⟨⟨by kernel_rfl, by kernel_rfl⟩⟩
instance : ZT 101 [.nilFunc] := ⟨by kernel_rfl⟩
instance : KT 102 none := ⟨⟨by kernel_rfl, by kernel_rfl⟩⟩
instance : ZT 102 [.nilFunc] := ⟨by kernel_rfl⟩
instance : KT 103 (some 2) := ⟨⟨by kernel_rfl, by kernel_rfl⟩⟩
instance : ZT 103 [.string ByteArray.empty, .nilFunc] := ⟨by kernel_rfl⟩
instance : FO 103 0 0 := ⟨by kernel_rfl⟩
instance : FO 103 1 1 := ⟨by kernel_rfl⟩
instance : KT 104 (some 2) := ⟨⟨by kernel_rfl, by kernel_rfl⟩⟩
instance : ZT 104 [.string ByteArray.empty, .nilFunc] := ⟨by kernel_rfl⟩
instance : FO 104 0 0 := ⟨by kernel_rfl⟩
instance : FO 104 1 1 := ⟨by kernel_rfl⟩
instance : KT 105 (some 24) := ⟨⟨by kernel_rfl, by kernel_rfl⟩⟩
instance : ZT 105 [.string ByteArray.empty, .nilFunc, .string ByteArray.empty, .nilFunc, .string ByteArray.empty, .nilFunc, .string ByteArray.empty, .nilFunc, .string ByteArray.empty, .nilFunc, .string ByteArray.empty, .nilFunc, .string ByteArray.empty, .nilFunc, .string ByteArray.empty, .nilFunc, .string ByteArray.empty, .nilFunc, .string ByteArray.empty, .nilFunc, .string ByteArray.empty, .nilFunc, .string ByteArray.empty, .nilFunc] := ⟨by kernel_rfl⟩
instance : AT 105 12 104 2 := ⟨⟨by kernel_rfl, by kernel_rfl⟩⟩
instance : KT 106 none := ⟨⟨by kernel_rfl, by kernel_rfl⟩⟩
instance : ZT 106 [.nilFunc] := ⟨by kernel_rfl⟩
instance : KT 107 none := ⟨⟨by kernel_rfl, by kernel_rfl⟩⟩
instance : ZT 107 [.nilFunc] := ⟨by kernel_rfl⟩
instance : KT 108 none := ⟨⟨by kernel_rfl, by kernel_rfl⟩⟩
instance : ZT 108 [.nilFunc] := ⟨by kernel_rfl⟩
instance : KT 109 none := ⟨⟨by kernel_rfl, by kernel_rfl⟩⟩
instance : ZT 109 [.pointer none] := ⟨by kernel_rfl⟩
instance : KT 110 none := ⟨⟨by kernel_rfl, by kernel_rfl⟩⟩
instance : ZT 110 [.nilFunc] := ⟨by kernel_rfl⟩
instance : KT 111 (some 1) := ⟨⟨by kernel_rfl, by kernel_rfl⟩⟩
instance : ZT 111 [.pointer none] := ⟨by kernel_rfl⟩
instance : FO 111 0 0 := ⟨by kernel_rfl⟩
instance : KT 112 (some 1) := ⟨⟨by kernel_rfl, by kernel_rfl⟩⟩
instance : ZT 112 [.pointer none] := ⟨by kernel_rfl⟩
instance : FO 112 0 0 := ⟨by kernel_rfl⟩
instance : KT 113 none := ⟨⟨by kernel_rfl, by kernel_rfl⟩⟩
instance : ZT 113 [.pointer none] := ⟨by kernel_rfl⟩
instance : KT 114 none := ⟨⟨by kernel_rfl, by kernel_rfl⟩⟩
instance : ZT 114 [.nilFunc] := ⟨by kernel_rfl⟩
instance : KT 115 none := ⟨⟨by kernel_rfl, by kernel_rfl⟩⟩
instance : ZT 115 [.pointer none] := ⟨by kernel_rfl⟩
instance : KT 116 none := ⟨⟨by kernel_rfl, by kernel_rfl⟩⟩
instance : ZT 116 [.nilFunc] := ⟨by kernel_rfl⟩
instance : KT 117 none := ⟨⟨by kernel_rfl, by kernel_rfl⟩⟩
instance : ZT 117 [.pointer none] := ⟨by kernel_rfl⟩
instance : KT 118 none := ⟨⟨by kernel_rfl, by kernel_rfl⟩⟩
instance : ZT 118 [.nilFunc] := ⟨by kernel_rfl⟩
instance : KT 119 none := ⟨⟨by kernel_rfl, by kernel_rfl⟩⟩
instance : ZT 119 [.pointer none] := ⟨by kernel_rfl⟩
instance : KT 120 none := ⟨⟨by kernel_rfl, by kernel_rfl⟩⟩
instance : ZT 120 [.nilFunc] := ⟨by kernel_rfl⟩
instance : KT 121 none := ⟨⟨by kernel_rfl, by kernel_rfl⟩⟩
instance : ZT 121 [.pointer none] := ⟨by kernel_rfl⟩
instance : KT 122 none := ⟨⟨by kernel_rfl, by kernel_rfl⟩⟩
instance : ZT 122 [.nilFunc] := ⟨by kernel_rfl⟩
instance : KT 123 none := ⟨⟨by kernel_rfl, by kernel_rfl⟩⟩
instance : ZT 123 [.pointer none] := ⟨by kernel_rfl⟩
instance : KT 124 none := ⟨⟨by kernel_rfl, by kernel_rfl⟩⟩
instance : ZT 124 [.nilFunc] := ⟨by kernel_rfl⟩
instance : KT 125 none := ⟨⟨by kernel_rfl, by kernel_rfl⟩⟩
instance : ZT 125 [.pointer none] := ⟨by kernel_rfl⟩
instance : KT 126 none := ⟨⟨by kernel_rfl, by kernel_rfl⟩⟩
instance : ZT 126 [.nilFunc] := ⟨by kernel_rfl⟩
instance : KT 127 none := ⟨⟨by kernel_rfl, by kernel_rfl⟩⟩
instance : ZT 127 [.pointer none] := ⟨by kernel_rfl⟩
instance : KT 128 none := ⟨⟨by kernel_rfl, by kernel_rfl⟩⟩
instance : ZT 128 [.nilFunc] := ⟨by kernel_rfl⟩
instance : KT 129 none := ⟨⟨by kernel_rfl, by kernel_rfl⟩⟩
instance : ZT 129 [.pointer none] := ⟨by kernel_rfl⟩
instance : KT 130 none := ⟨⟨by kernel_rfl, by kernel_rfl⟩⟩
instance : ZT 130 [.nilFunc] := ⟨by kernel_rfl⟩
instance : KT 131 (some 31) := ⟨⟨by kernel_rfl, by kernel_rfl⟩⟩
instance : ZT 131 [.pointer none, .int .i64 0, .int .i64 0, .int .u64 0, .int .u64 0, .int .u64 0, .int .u64 0, .int .u64 0, .int .u64 0, .int .u64 0, .int .u64 0, .int .i64 0, .int .i64 0, .int .i64 0, .int .i64 0, .int .i64 0, .int .i64 0, .int .i64 0, .int .i64 0, .int .u64 0, .int .u64 0, .pointer none, .pointer none, .pointer none, .slice none 0 0, .pointer none, .pointer none, .pointer none, .pointer none, .pointer none, .pointer none] := ⟨by kernel_rfl⟩
instance : FO 131 0 0 := ⟨by kernel_rfl⟩
instance : FO 131 1 1 := ⟨by kernel_rfl⟩
instance : FO 131 2 21 := ⟨by kernel_rfl⟩
instance : FO 131 3 22 := ⟨by kernel_rfl⟩
instance : FO 131 4 23 := ⟨by kernel_rfl⟩
instance : FO 131 5 24 := ⟨by kernel_rfl⟩
instance : FO 131 6 25 := ⟨by kernel_rfl⟩
instance : FO 131 7 26 := ⟨by kernel_rfl⟩
instance : FO 131 8 27 := ⟨by kernel_rfl⟩
instance : FO 131 9 28 := ⟨by kernel_rfl⟩
instance : FO 131 10 29 := ⟨by kernel_rfl⟩
instance : FO 131 11 30 := ⟨by kernel_rfl⟩
instance : KT 132 (some 31) := ⟨⟨by kernel_rfl, by kernel_rfl⟩⟩
instance : ZT 132 [.pointer none, .int .i64 0, .int .i64 0, .int .u64 0, .int .u64 0, .int .u64 0, .int .u64 0, .int .u64 0, .int .u64 0, .int .u64 0, .int .u64 0, .int .i64 0, .int .i64 0, .int .i64 0, .int .i64 0, .int .i64 0, .int .i64 0, .int .i64 0, .int .i64 0, .int .u64 0, .int .u64 0, .pointer none, .pointer none, .pointer none, .slice none 0 0, .pointer none, .pointer none, .pointer none, .pointer none, .pointer none, .pointer none] := ⟨by kernel_rfl⟩
instance : FO 132 0 0 := ⟨by kernel_rfl⟩
instance : FO 132 1 1 := ⟨by kernel_rfl⟩
instance : FO 132 2 21 := ⟨by kernel_rfl⟩
instance : FO 132 3 22 := ⟨by kernel_rfl⟩
instance : FO 132 4 23 := ⟨by kernel_rfl⟩
instance : FO 132 5 24 := ⟨by kernel_rfl⟩
instance : FO 132 6 25 := ⟨by kernel_rfl⟩
instance : FO 132 7 26 := ⟨by kernel_rfl⟩
instance : FO 132 8 27 := ⟨by kernel_rfl⟩
instance : FO 132 9 28 := ⟨by kernel_rfl⟩
instance : FO 132 10 29 := ⟨by kernel_rfl⟩
instance : FO 132 11 30 := ⟨by kernel_rfl⟩
instance : KT 133 none := ⟨⟨by kernel_rfl, by kernel_rfl⟩⟩
instance : ZT 133 [.nilFunc] := ⟨by kernel_rfl⟩
instance : KT 134 none := ⟨⟨by kernel_rfl, by kernel_rfl⟩⟩
instance : ZT 134 [.nilFunc] := ⟨by kernel_rfl⟩
instance : KT 135 none := ⟨⟨by kernel_rfl, by kernel_rfl⟩⟩
instance : ZT 135 [.nilFunc] := ⟨by kernel_rfl⟩
instance : KT 136 none := ⟨⟨by kernel_rfl, by kernel_rfl⟩⟩
instance : ZT 136 [.map none] := ⟨by kernel_rfl⟩
instance : KT 137 (some 3) := ⟨⟨by kernel_rfl, by kernel_rfl⟩⟩
instance : ZT 137 [.int .i64 0, .int .i64 0, .int .i64 0] := ⟨by kernel_rfl⟩
instance : EQ 137 [.int, .int, .int] := ⟨⟨by kernel_rfl, by kernel_rfl⟩⟩
instance : FO 137 0 0 := ⟨by kernel_rfl⟩
instance : FO 137 1 1 := ⟨by kernel_rfl⟩
instance : FO 137 2 2 := ⟨by kernel_rfl⟩
instance : KT 138 (some 3) := ⟨⟨by kernel_rfl, by kernel_rfl⟩⟩
instance : ZT 138 [.int .i64 0, .int .i64 0, .int .i64 0] := ⟨by kernel_rfl⟩
instance : EQ 138 [.int, .int, .int] := ⟨⟨by kernel_rfl, by kernel_rfl⟩⟩
instance : FO 138 0 0 := ⟨by kernel_rfl⟩
instance : FO 138 1 1 := ⟨by kernel_rfl⟩
instance : FO 138 2 2 := ⟨by kernel_rfl⟩
instance : KT 139 none := ⟨⟨by kernel_rfl, by kernel_rfl⟩⟩
instance : ZT 139 [.nilFunc] := ⟨by kernel_rfl⟩
instance : KT 140 none := ⟨⟨by kernel_rfl, by kernel_rfl⟩⟩
instance : ZT 140 [.nilFunc] := ⟨by kernel_rfl⟩
instance : KT 141 (some 3) := ⟨⟨by kernel_rfl, by kernel_rfl⟩⟩
instance : ZT 141 [.int .u64 0, .int .u64 0, .int .u64 0] := ⟨by kernel_rfl⟩
instance : EQ 141 [.int, .int, .int] := ⟨⟨by kernel_rfl, by kernel_rfl⟩⟩
instance : FO 141 0 0 := ⟨by kernel_rfl⟩
instance : FO 141 1 1 := ⟨by kernel_rfl⟩
instance : FO 141 2 2 := ⟨by kernel_rfl⟩
instance : KT 142 (some 3) := ⟨⟨by kernel_rfl, by kernel_rfl⟩⟩
instance : ZT 142 [.int .u64 0, .int .u64 0, .int .u64 0] := ⟨by kernel_rfl⟩
instance : EQ 142 [.int, .int, .int] := ⟨⟨by kernel_rfl, by kernel_rfl⟩⟩
instance : FO 142 0 0 := ⟨by kernel_rfl⟩
instance : FO 142 1 1 := ⟨by kernel_rfl⟩
instance : FO 142 2 2 := ⟨by kernel_rfl⟩
instance : KT 143 none := ⟨⟨by kernel_rfl, by kernel_rfl⟩⟩
instance : ZT 143 [.nilFunc] := ⟨by kernel_rfl⟩
instance : KT 144 none := ⟨⟨by kernel_rfl, by kernel_rfl⟩⟩
instance : ZT 144 [.nilFunc] := ⟨by kernel_rfl⟩
instance : KT 145 none := ⟨⟨by kernel_rfl, by kernel_rfl⟩⟩
instance : ZT 145 [.nilFunc] := ⟨by kernel_rfl⟩
instance : KT 146 none := ⟨⟨by kernel_rfl, by kernel_rfl⟩⟩
instance : ZT 146 [.nilFunc] := ⟨by kernel_rfl⟩
instance : KT 147 none := ⟨⟨by kernel_rfl, by kernel_rfl⟩⟩
instance : ZT 147 [.nilFunc] := ⟨by kernel_rfl⟩
instance : KT 148 none := ⟨⟨by kernel_rfl, by kernel_rfl⟩⟩
instance : ZT 148 [.nilFunc] := ⟨by kernel_rfl⟩
instance : KT 149 none := ⟨⟨by kernel_rfl, by kernel_rfl⟩⟩
instance : ZT 149 [.nilFunc] := ⟨by kernel_rfl⟩
instance : KT 150 none := ⟨⟨by kernel_rfl, by kernel_rfl⟩⟩
instance : ZT 150 [.nilFunc] := ⟨by kernel_rfl⟩
instance : KT 151 none := ⟨⟨by kernel_rfl, by kernel_rfl⟩⟩
instance : ZT 151 [.nilFunc] := ⟨by kernel_rfl⟩
instance : KT 152 none := ⟨⟨by kernel_rfl, by kernel_rfl⟩⟩
instance : ZT 152 [.slice none 0 0] := ⟨by kernel_rfl⟩
instance : ST 152 23 (.int .u64 0) 1 8 := ⟨⟨by kernel_rfl, by kernel_rfl, by kernel_rfl⟩⟩
instance : KT 153 none := ⟨⟨by kernel_rfl, by kernel_rfl⟩⟩
instance : ZT 153 [.nilFunc] := ⟨by kernel_rfl⟩
instance : KT 154 none := ⟨⟨by kernel_rfl, by kernel_rfl⟩⟩
instance : ZT 154 [.nilFunc] := ⟨by kernel_rfl⟩
instance : KT 155 (some 4) := ⟨⟨by kernel_rfl, by kernel_rfl⟩⟩
instance : ZT 155 [.int .u64 0, .int .u64 0, .int .u64 0, .int .u64 0] := ⟨by kernel_rfl⟩
instance : EQ 155 [.int, .int, .int, .int] := ⟨⟨by kernel_rfl, by kernel_rfl⟩⟩
instance : FO 155 0 0 := ⟨by kernel_rfl⟩
instance : FO 155 1 1 := ⟨by kernel_rfl⟩
instance : FO 155 2 2 := ⟨by kernel_rfl⟩
instance : FO 155 3 3 := ⟨by kernel_rfl⟩
instance : KT 156 (some 4) := ⟨⟨by kernel_rfl, by kernel_rfl⟩⟩
instance : ZT 156 [.int .u64 0, .int .u64 0, .int .u64 0, .int .u64 0] := ⟨by kernel_rfl⟩
instance : EQ 156 [.int, .int, .int, .int] := ⟨⟨by kernel_rfl, by kernel_rfl⟩⟩
instance : FO 156 0 0 := ⟨by kernel_rfl⟩
instance : FO 156 1 1 := ⟨by kernel_rfl⟩
instance : FO 156 2 2 := ⟨by kernel_rfl⟩
instance : FO 156 3 3 := ⟨by kernel_rfl⟩
instance : KT 157 (some 3) := ⟨⟨by kernel_rfl, by kernel_rfl⟩⟩
instance : ZT 157 [.slice none 0 0, .slice none 0 0, .int .i64 0] := ⟨by kernel_rfl⟩
instance : FO 157 0 0 := ⟨by kernel_rfl⟩
instance : FO 157 1 1 := ⟨by kernel_rfl⟩
instance : FO 157 2 2 := ⟨by kernel_rfl⟩
instance : KT 158 (some 3) := ⟨⟨by kernel_rfl, by kernel_rfl⟩⟩
instance : ZT 158 [.slice none 0 0, .slice none 0 0, .int .i64 0] := ⟨by kernel_rfl⟩
instance : FO 158 0 0 := ⟨by kernel_rfl⟩
instance : FO 158 1 1 := ⟨by kernel_rfl⟩
instance : FO 158 2 2 := ⟨by kernel_rfl⟩
instance : KT 159 (some 5) := ⟨⟨by kernel_rfl, by kernel_rfl⟩⟩
instance : ZT 159 [.int .u64 0, .int .u64 0, .int .u64 0, .int .u64 0, .int .u64 0] := ⟨by kernel_rfl⟩
instance : EQ 159 [.int, .int, .int, .int, .int] := ⟨⟨by kernel_rfl, by kernel_rfl⟩⟩
instance : FO 159 0 0 := ⟨by kernel_rfl⟩
instance : FO 159 1 1 := ⟨by kernel_rfl⟩
instance : FO 159 2 2 := ⟨by kernel_rfl⟩
instance : FO 159 3 3 := ⟨by kernel_rfl⟩
instance : FO 159 4 4 := ⟨by kernel_rfl⟩
instance : KT 160 (some 5) := ⟨⟨by kernel_rfl, by kernel_rfl⟩⟩
instance : ZT 160 [.int .u64 0, .int .u64 0, .int .u64 0, .int .u64 0, .int .u64 0] := ⟨by kernel_rfl⟩
instance : EQ 160 [.int, .int, .int, .int, .int] := ⟨⟨by kernel_rfl, by kernel_rfl⟩⟩
instance : FO 160 0 0 := ⟨by kernel_rfl⟩
instance : FO 160 1 1 := ⟨by kernel_rfl⟩
instance : FO 160 2 2 := ⟨by kernel_rfl⟩
instance : FO 160 3 3 := ⟨by kernel_rfl⟩
instance : FO 160 4 4 := ⟨by kernel_rfl⟩
instance : KT 161 none := ⟨⟨by kernel_rfl, by kernel_rfl⟩⟩
instance : ZT 161 [.nilFunc] := ⟨by kernel_rfl⟩
instance : KT 162 none := ⟨⟨by kernel_rfl, by kernel_rfl⟩⟩
instance : ZT 162 [.nilFunc] := ⟨by kernel_rfl⟩
instance : KT 163 none := ⟨⟨by kernel_rfl, by kernel_rfl⟩⟩
instance : ZT 163 [.nilFunc] := ⟨by kernel_rfl⟩
instance : KT 164 none := ⟨⟨by kernel_rfl, by kernel_rfl⟩⟩
instance : ZT 164 [.nilFunc] := ⟨by kernel_rfl⟩
instance : KT 165 (some 2) := ⟨⟨by kernel_rfl, by kernel_rfl⟩⟩
instance : ZT 165 [.int .i64 0, .int .u64 0] := ⟨by kernel_rfl⟩
instance : EQ 165 [.int, .int] := ⟨⟨by kernel_rfl, by kernel_rfl⟩⟩
instance : FO 165 0 0 := ⟨by kernel_rfl⟩
instance : FO 165 1 1 := ⟨by kernel_rfl⟩
instance : KT 166 none := ⟨⟨by kernel_rfl, by kernel_rfl⟩⟩
instance : ZT 166 [.nilFunc] := ⟨by kernel_rfl⟩
instance : KT 167 none := ⟨⟨by kernel_rfl, by kernel_rfl⟩⟩
instance : ZT 167 [.nilFunc] := ⟨by kernel_rfl⟩
instance : KT 168 none := ⟨⟨by kernel_rfl, by kernel_rfl⟩⟩
instance : ZT 168 [.nilFunc] := ⟨by kernel_rfl⟩
instance : KT 169 none := ⟨⟨by kernel_rfl, by kernel_rfl⟩⟩
instance : ZT 169 [.nilFunc] := ⟨by kernel_rfl⟩
instance : KT 170 none := ⟨⟨by kernel_rfl, by kernel_rfl⟩⟩
instance : ZT 170 [.nilFunc] := ⟨by kernel_rfl⟩
instance : KT 171 none := ⟨⟨by kernel_rfl, by kernel_rfl⟩⟩
instance : ZT 171 [.nilFunc] := ⟨by kernel_rfl⟩
instance : KT 172 none := ⟨⟨by kernel_rfl, by kernel_rfl⟩⟩
instance : ZT 172 [.nilFunc] := ⟨by kernel_rfl⟩
instance : KT 173 none := ⟨⟨by kernel_rfl, by kernel_rfl⟩⟩
instance : ZT 173 [.nilFunc] := ⟨by kernel_rfl⟩
instance : KT 174 none := ⟨⟨by kernel_rfl, by kernel_rfl⟩⟩
instance : ZT 174 [.nilFunc] := ⟨by kernel_rfl⟩
instance : KT 175 none := ⟨⟨by kernel_rfl, by kernel_rfl⟩⟩
instance : ZT 175 [.slice none 0 0] := ⟨by kernel_rfl⟩
instance : ST 175 4 (.bool false) 1 1 := ⟨⟨by kernel_rfl, by kernel_rfl, by kernel_rfl⟩⟩
instance : KT 176 none := ⟨⟨by kernel_rfl, by kernel_rfl⟩⟩
instance : ZT 176 [.nilFunc] := ⟨by kernel_rfl⟩
instance : KT 177 none := ⟨⟨by kernel_rfl, by kernel_rfl⟩⟩
instance : ZT 177 [.nilFunc] := ⟨by kernel_rfl⟩
instance : KT 178 none := ⟨⟨by kernel_rfl, by kernel_rfl⟩⟩
instance : ZT 178 [.map none] := ⟨by kernel_rfl⟩
instance : KT 179 (some 5) := ⟨⟨by kernel_rfl, by kernel_rfl⟩⟩
instance : ZT 179 [.int .i64 0, .slice none 0 0, .int .u64 0, .int .u64 0, .map none] := ⟨by kernel_rfl⟩
instance : FO 179 0 0 := ⟨by kernel_rfl⟩
instance : FO 179 1 1 := ⟨by kernel_rfl⟩
instance : FO 179 2 2 := ⟨by kernel_rfl⟩
instance : FO 179 3 3 := ⟨by kernel_rfl⟩
instance : FO 179 4 4 := ⟨by kernel_rfl⟩
instance : KT 180 (some 5) := ⟨⟨by kernel_rfl, by kernel_rfl⟩⟩
instance : ZT 180 [.int .i64 0, .slice none 0 0, .int .u64 0, .int .u64 0, .map none] := ⟨by kernel_rfl⟩
instance : FO 180 0 0 := ⟨by kernel_rfl⟩
instance : FO 180 1 1 := ⟨by kernel_rfl⟩
instance : FO 180 2 2 := ⟨by kernel_rfl⟩
instance : FO 180 3 3 := ⟨by kernel_rfl⟩
instance : FO 180 4 4 := ⟨by kernel_rfl⟩
instance : KT 181 (some 1) := ⟨⟨by kernel_rfl, by kernel_rfl⟩⟩
instance : ZT 181 [.int .i64 0] := ⟨by kernel_rfl⟩
instance : EQ 181 [.int] := ⟨⟨by kernel_rfl, by kernel_rfl⟩⟩
instance : FO 181 0 0 := ⟨by kernel_rfl⟩
instance : KT 182 (some 1) := ⟨⟨by kernel_rfl, by kernel_rfl⟩⟩
instance : ZT 182 [.int .i64 0] := ⟨by kernel_rfl⟩
instance : EQ 182 [.int] := ⟨⟨by kernel_rfl, by kernel_rfl⟩⟩
instance : FO 182 0 0 := ⟨by kernel_rfl⟩
instance : KT 183 (some 2) := ⟨⟨by kernel_rfl, by kernel_rfl⟩⟩
instance : ZT 183 [.int .i64 0, .int .i64 0] := ⟨by kernel_rfl⟩
instance : FO 183 0 0 := ⟨by kernel_rfl⟩
instance : FO 183 1 1 := ⟨by kernel_rfl⟩
instance : KT 184 (some 2) := ⟨⟨by kernel_rfl, by kernel_rfl⟩⟩
instance : ZT 184 [.int .i64 0, .int .i64 0] := ⟨by kernel_rfl⟩
instance : FO 184 0 0 := ⟨by kernel_rfl⟩
instance : FO 184 1 1 := ⟨by kernel_rfl⟩
instance : KT 185 (some 3) := ⟨⟨by kernel_rfl, by kernel_rfl⟩⟩
instance : ZT 185 [.int .u64 0, .int .u64 0, .int .u64 0] := ⟨by kernel_rfl⟩
instance : FO 185 0 0 := ⟨by kernel_rfl⟩
instance : KT 186 (some 3) := ⟨⟨by kernel_rfl, by kernel_rfl⟩⟩
instance : ZT 186 [.int .u64 0, .int .u64 0, .int .u64 0] := ⟨by kernel_rfl⟩
instance : FO 186 0 0 := ⟨by kernel_rfl⟩
instance : KT 187 (some 4) := ⟨⟨by kernel_rfl, by kernel_rfl⟩⟩
instance : ZT 187 [.int .u64 0, .int .u64 0, .int .u64 0, .int .u64 0] := ⟨by kernel_rfl⟩
instance : FO 187 0 0 := ⟨by kernel_rfl⟩
instance : FO 187 1 3 := ⟨by kernel_rfl⟩
instance : KT 188 (some 4) := ⟨⟨by kernel_rfl, by kernel_rfl⟩⟩
instance : ZT 188 [.int .u64 0, .int .u64 0, .int .u64 0, .int .u64 0] := ⟨by kernel_rfl⟩
instance : FO 188 0 0 := ⟨by kernel_rfl⟩
instance : FO 188 1 3 := ⟨by kernel_rfl⟩
instance : KT 189 none := ⟨⟨by kernel_rfl, by kernel_rfl⟩⟩
instance : ZT 189 [.slice none 0 0] := ⟨by kernel_rfl⟩
instance : ST 189 295 (.slice none 0 0) 1 24 := ⟨⟨by kernel_rfl, by kernel_rfl, by kernel_rfl⟩⟩
instance : KT 190 (some 2) := ⟨⟨by kernel_rfl, by kernel_rfl⟩⟩
instance : ZT 190 [.slice none 0 0, .int .i64 0] := ⟨by kernel_rfl⟩
instance : FO 190 0 0 := ⟨by kernel_rfl⟩
instance : FO 190 1 1 := ⟨by kernel_rfl⟩
instance : KT 191 (some 2) := ⟨⟨by kernel_rfl, by kernel_rfl⟩⟩
instance : ZT 191 [.slice none 0 0, .int .i64 0] := ⟨by kernel_rfl⟩
instance : FO 191 0 0 := ⟨by kernel_rfl⟩
instance : FO 191 1 1 := ⟨by kernel_rfl⟩
instance : KT 192 (some 1) := ⟨⟨by kernel_rfl, by kernel_rfl⟩⟩
instance : ZT 192 [.int .i64 0] := ⟨by kernel_rfl⟩
instance : EQ 192 [.int] := ⟨⟨by kernel_rfl, by kernel_rfl⟩⟩
instance : FO 192 0 0 := ⟨by kernel_rfl⟩
instance : KT 193 (some 1) := ⟨⟨by kernel_rfl, by kernel_rfl⟩⟩
instance : ZT 193 [.int .i64 0] := ⟨by kernel_rfl⟩
instance : EQ 193 [.int] := ⟨⟨by kernel_rfl, by kernel_rfl⟩⟩
instance : FO 193 0 0 := ⟨by kernel_rfl⟩
instance : KT 194 (some 3) := ⟨⟨by kernel_rfl, by kernel_rfl⟩⟩
instance : ZT 194 [.int .u64 0, .int .u64 0, .int .u64 0] := ⟨by kernel_rfl⟩
instance : EQ 194 [.int, .int, .int] := ⟨⟨by kernel_rfl, by kernel_rfl⟩⟩
instance : FO 194 0 0 := ⟨by kernel_rfl⟩
instance : FO 194 1 1 := ⟨by kernel_rfl⟩
instance : FO 194 2 2 := ⟨by kernel_rfl⟩
instance : KT 195 (some 3) := ⟨⟨by kernel_rfl, by kernel_rfl⟩⟩
instance : ZT 195 [.int .u64 0, .int .u64 0, .int .u64 0] := ⟨by kernel_rfl⟩
instance : EQ 195 [.int, .int, .int] := ⟨⟨by kernel_rfl, by kernel_rfl⟩⟩
instance : FO 195 0 0 := ⟨by kernel_rfl⟩
instance : FO 195 1 1 := ⟨by kernel_rfl⟩
instance : FO 195 2 2 := ⟨by kernel_rfl⟩
instance : KT 196 (some 3) := ⟨⟨by kernel_rfl, by kernel_rfl⟩⟩
instance : ZT 196 [.int .u64 0, .int .u64 0, .int .u64 0] := ⟨by kernel_rfl⟩
instance : FO 196 0 0 := ⟨by kernel_rfl⟩
instance : KT 197 (some 3) := ⟨⟨by kernel_rfl, by kernel_rfl⟩⟩
instance : ZT 197 [.int .u64 0, .int .u64 0, .int .u64 0] := ⟨by kernel_rfl⟩
instance : FO 197 0 0 := ⟨by kernel_rfl⟩
instance : KT 198 (some 4) := ⟨⟨by kernel_rfl, by kernel_rfl⟩⟩
instance : ZT 198 [.int .u64 0, .int .u64 0, .int .u64 0, .int .u64 0] := ⟨by kernel_rfl⟩
instance : FO 198 0 0 := ⟨by kernel_rfl⟩
instance : FO 198 1 3 := ⟨by kernel_rfl⟩
instance : KT 199 (some 4) := ⟨⟨by kernel_rfl, by kernel_rfl⟩⟩
instance : ZT 199 [.int .u64 0, .int .u64 0, .int .u64 0, .int .u64 0] := ⟨by kernel_rfl⟩
instance : FO 199 0 0 := ⟨by kernel_rfl⟩
instance : FO 199 1 3 := ⟨by kernel_rfl⟩
instance : KT 200 (some 2) := ⟨⟨by kernel_rfl, by kernel_rfl⟩⟩
instance : ZT 200 [.pointer none, .pointer none] := ⟨by kernel_rfl⟩
instance : AT 200 2 125 1 := ⟨⟨by kernel_rfl, by kernel_rfl⟩⟩
instance : KT 201 (some 2) := ⟨⟨by kernel_rfl, by kernel_rfl⟩⟩
instance : ZT 201 [.pointer none, .pointer none] := ⟨by kernel_rfl⟩
instance : FO 201 0 0 := ⟨by kernel_rfl⟩
instance : KT 202 (some 2) := ⟨⟨by kernel_rfl, by kernel_rfl⟩⟩
instance : ZT 202 [.pointer none, .pointer none] := ⟨by kernel_rfl⟩
instance : FO 202 0 0 := ⟨by kernel_rfl⟩
instance : KT 203 (some 2) := ⟨⟨by kernel_rfl, by kernel_rfl⟩⟩
instance : ZT 203 [.pointer none, .pointer none] := ⟨by kernel_rfl⟩
instance : FO 203 0 0 := ⟨by kernel_rfl⟩
instance : KT 204 (some 2) := ⟨⟨by kernel_rfl, by kernel_rfl⟩⟩
instance : ZT 204 [.pointer none, .pointer none] := ⟨by kernel_rfl⟩
instance : FO 204 0 0 := ⟨by kernel_rfl⟩
instance : KT 205 (some 4) := ⟨⟨by kernel_rfl, by kernel_rfl⟩⟩
instance : ZT 205 [.slice none 0 0, .int .i64 0, .int .i64 0, .int .i64 0] := ⟨by kernel_rfl⟩
instance : FO 205 0 0 := ⟨by kernel_rfl⟩
instance : FO 205 1 1 := ⟨by kernel_rfl⟩
instance : FO 205 2 2 := ⟨by kernel_rfl⟩
instance : FO 205 3 3 := ⟨by kernel_rfl⟩
instance : KT 206 (some 4) := ⟨⟨by kernel_rfl, by kernel_rfl⟩⟩
instance : ZT 206 [.slice none 0 0, .int .i64 0, .int .i64 0, .int .i64 0] := ⟨by kernel_rfl⟩
instance : FO 206 0 0 := ⟨by kernel_rfl⟩
instance : FO 206 1 1 := ⟨by kernel_rfl⟩
instance : FO 206 2 2 := ⟨by kernel_rfl⟩
instance : FO 206 3 3 := ⟨by kernel_rfl⟩
instance : KT 207 (some 4) := ⟨⟨by kernel_rfl, by kernel_rfl⟩⟩
instance : ZT 207 [.slice none 0 0, .int .i64 0, .int .i64 0, .int .i64 0] := ⟨by kernel_rfl⟩
instance : FO 207 0 0 := ⟨by kernel_rfl⟩
instance : FO 207 1 1 := ⟨by kernel_rfl⟩
instance : FO 207 2 2 := ⟨by kernel_rfl⟩
instance : FO 207 3 3 := ⟨by kernel_rfl⟩
instance : KT 208 (some 4) := ⟨⟨by kernel_rfl, by kernel_rfl⟩⟩
instance : ZT 208 [.slice none 0 0, .int .i64 0, .int .i64 0, .int .i64 0] := ⟨by kernel_rfl⟩
instance : FO 208 0 0 := ⟨by kernel_rfl⟩
instance : FO 208 1 1 := ⟨by kernel_rfl⟩
instance : FO 208 2 2 := ⟨by kernel_rfl⟩
instance : FO 208 3 3 := ⟨by kernel_rfl⟩
instance : KT 209 (some 4) := ⟨⟨by kernel_rfl, by kernel_rfl⟩⟩
instance : ZT 209 [.slice none 0 0, .int .i64 0, .int .i64 0, .int .i64 0] := ⟨by kernel_rfl⟩
instance : FO 209 0 0 := ⟨by kernel_rfl⟩
instance : FO 209 1 1 := ⟨by kernel_rfl⟩
instance : FO 209 2 2 := ⟨by kernel_rfl⟩
instance : FO 209 3 3 := ⟨by kernel_rfl⟩
instance : KT 210 (some 4) := ⟨⟨by kernel_rfl, by kernel_rfl⟩⟩
instance : ZT 210 [.slice none 0 0, .int .i64 0, .int .i64 0, .int .i64 0] := ⟨by kernel_rfl⟩
instance : FO 210 0 0 := ⟨by kernel_rfl⟩
instance : FO 210 1 1 := ⟨by kernel_rfl⟩
instance : FO 210 2 2 := ⟨by kernel_rfl⟩
instance : FO 210 3 3 := ⟨by kernel_rfl⟩
instance : KT 211 none := ⟨⟨by kernel_rfl, by kernel_rfl⟩⟩
instance : ZT 211 [.nilFunc] := ⟨by kernel_rfl⟩
instance : KT 213 none := ⟨⟨by kernel_rfl, by kernel_rfl⟩⟩
instance : ZT 213 [.nilFunc] := ⟨by kernel_rfl⟩
instance : KT 214 none := ⟨⟨by kernel_rfl, by kernel_rfl⟩⟩
instance : ZT 214 [.nilFunc] := ⟨by kernel_rfl⟩
instance : KT 216 none := ⟨⟨by kernel_rfl, by kernel_rfl⟩⟩
instance : ZT 216 [.nilFunc] := ⟨by kernel_rfl⟩
instance : KT 217 none := ⟨⟨by kernel_rfl, by kernel_rfl⟩⟩
instance : ZT 217 [.nilFunc] := ⟨by kernel_rfl⟩
instance : KT 218 none := ⟨⟨by kernel_rfl, by kernel_rfl⟩⟩
instance : ZT 218 [.nilFunc] := ⟨by kernel_rfl⟩
instance : KT 220 none := ⟨⟨by kernel_rfl, by kernel_rfl⟩⟩
instance : ZT 220 [.nilFunc] := ⟨by kernel_rfl⟩
instance : KT 221 none := ⟨⟨by kernel_rfl, by kernel_rfl⟩⟩
instance : ZT 221 [.nilFunc] := ⟨by kernel_rfl⟩
instance : KT 222 none := ⟨⟨by kernel_rfl, by kernel_rfl⟩⟩
instance : ZT 222 [.nilFunc] := ⟨by kernel_rfl⟩
instance : KT 223 none := ⟨⟨by kernel_rfl, by kernel_rfl⟩⟩
instance : ZT 223 [.nilFunc] := ⟨by kernel_rfl⟩
instance : KT 224 none := ⟨⟨by kernel_rfl, by kernel_rfl⟩⟩
instance : ZT 224 [.nilFunc] := ⟨by kernel_rfl⟩
instance : KT 225 none := ⟨⟨by kernel_rfl, by kernel_rfl⟩⟩
instance : ZT 225 [.nilFunc] := ⟨by kernel_rfl⟩
instance : KT 226 none := ⟨⟨by kernel_rfl, by kernel_rfl⟩⟩
instance : ZT 226 [.nilFunc] := ⟨by kernel_rfl⟩
instance : KT 227 none := ⟨⟨by kernel_rfl, by kernel_rfl⟩⟩
instance : ZT 227 [.nilFunc] := ⟨by kernel_rfl⟩
instance : KT 228 none := ⟨⟨by kernel_rfl, by kernel_rfl⟩⟩
instance : ZT 228 [.nilFunc] := ⟨by kernel_rfl⟩
instance : KT 229 none := ⟨⟨by kernel_rfl, by kernel_rfl⟩⟩
instance : ZT 229 [.nilFunc] := ⟨by kernel_rfl⟩
instance : KT 231 none := ⟨⟨by kernel_rfl, by kernel_rfl⟩⟩
instance : ZT 231 [.nilFunc] := ⟨by kernel_rfl⟩
instance : KT 233 none := ⟨⟨by kernel_rfl, by kernel_rfl⟩⟩
instance : ZT 233 [.nilFunc] := ⟨by kernel_rfl⟩
instance : KT 235 none := ⟨⟨by kernel_rfl, by kernel_rfl⟩⟩
instance : ZT 235 [.nilFunc] := ⟨by kernel_rfl⟩
instance : KT 236 none := ⟨⟨by kernel_rfl, by kernel_rfl⟩⟩
instance : ZT 236 [.nilFunc] := ⟨by kernel_rfl⟩
instance : KT 237 none := ⟨⟨by kernel_rfl, by kernel_rfl⟩⟩
instance : ZT 237 [.nilFunc] := ⟨by kernel_rfl⟩
instance : KT 239 none := ⟨⟨by kernel_rfl, by kernel_rfl⟩⟩
instance : ZT 239 [.nilFunc] := ⟨by kernel_rfl⟩
instance : KT 240 none := ⟨⟨by kernel_rfl, by kernel_rfl⟩⟩
instance : ZT 240 [.nilFunc] := ⟨by kernel_rfl⟩
instance : KT 241 none := ⟨⟨by kernel_rfl, by kernel_rfl⟩⟩
instance : ZT 241 [.nilFunc] := ⟨by kernel_rfl⟩
instance : KT 242 none := ⟨⟨by kernel_rfl, by kernel_rfl⟩⟩
instance : ZT 242 [.nilFunc] := ⟨by kernel_rfl⟩
instance : KT 243 none := ⟨⟨by kernel_rfl, by kernel_rfl⟩⟩
instance : ZT 243 [.nilFunc] := ⟨by kernel_rfl⟩
instance : KT 245 none := ⟨⟨by kernel_rfl, by kernel_rfl⟩⟩
instance : ZT 245 [.nilFunc] := ⟨by kernel_rfl⟩
instance : KT 246 none := ⟨⟨by kernel_rfl, by kernel_rfl⟩⟩
instance : ZT 246 [.nilFunc] := ⟨by kernel_rfl⟩
instance : KT 247 none := ⟨⟨by kernel_rfl, by kernel_rfl⟩⟩
instance : ZT 247 [.nilFunc] := ⟨by kernel_rfl⟩
instance : KT 248 none := ⟨⟨by kernel_rfl, by kernel_rfl⟩⟩
instance : ZT 248 [.nilFunc] := ⟨by kernel_rfl⟩
instance : KT 250 none := ⟨⟨by kernel_rfl, by kernel_rfl⟩⟩
instance : ZT 250 [.nilFunc] := ⟨by kernel_rfl⟩
instance : KT 252 none := ⟨⟨by kernel_rfl, by kernel_rfl⟩⟩
instance : ZT 252 [.nilFunc] := ⟨by kernel_rfl⟩
instance : KT 253 none := ⟨⟨by kernel_rfl, by kernel_rfl⟩⟩
instance : ZT 253 [.nilFunc] := ⟨by kernel_rfl⟩
instance : KT 254 none := ⟨⟨by kernel_rfl, by kernel_rfl⟩⟩
instance : ZT 254 [.nilFunc] := ⟨by kernel_rfl⟩
instance : KT 255 none := ⟨⟨by kernel_rfl, by kernel_rfl⟩⟩
instance : ZT 255 [.nilFunc] := ⟨by kernel_rfl⟩
instance : KT 256 none := ⟨⟨by kernel_rfl, by kernel_rfl⟩⟩
instance : ZT 256 [.map none] := ⟨by kernel_rfl⟩
instance : KT 257 none := ⟨⟨by kernel_rfl, by kernel_rfl⟩⟩
instance : ZT 257 [.nilFunc] := ⟨by kernel_rfl⟩
instance : KT 258 (some 2) := ⟨⟨by kernel_rfl, by kernel_rfl⟩⟩
instance : ZT 258 [.int .i64 0, .int .i64 0] := ⟨by kernel_rfl⟩
instance : EQ 258 [.int, .int] := ⟨⟨by kernel_rfl, by kernel_rfl⟩⟩
instance : FO 258 0 0 := ⟨by kernel_rfl⟩
instance : FO 258 1 1 := ⟨by kernel_rfl⟩
instance : KT 259 (some 2) := ⟨⟨by kernel_rfl, by kernel_rfl⟩⟩
instance : ZT 259 [.int .i64 0, .int .i64 0] := ⟨by kernel_rfl⟩
instance : EQ 259 [.int, .int] := ⟨⟨by kernel_rfl, by kernel_rfl⟩⟩
instance : FO 259 0 0 := ⟨by kernel_rfl⟩
instance : FO 259 1 1 := ⟨by kernel_rfl⟩
instance : KT 260 none := ⟨⟨by kernel_rfl, by kernel_rfl⟩⟩
instance : ZT 260 [.nilFunc] := ⟨by kernel_rfl⟩
instance : KT 261 (some 1) := ⟨⟨by kernel_rfl, by kernel_rfl⟩⟩
instance : ZT 261 [.nilFunc] := ⟨by kernel_rfl⟩
instance : FO 261 0 0 := ⟨by kernel_rfl⟩
instance : KT 262 (some 1) := ⟨⟨by kernel_rfl, by kernel_rfl⟩⟩
instance : ZT 262 [.nilFunc] := ⟨by kernel_rfl⟩
instance : FO 262 0 0 := ⟨by kernel_rfl⟩
instance : KT 263 (some 20) := ⟨⟨by kernel_rfl, by kernel_rfl⟩⟩
instance : ZT 263 [.nilFunc, .nilFunc, .nilFunc, .nilFunc, .nilFunc, .nilFunc, .nilFunc, .nilFunc, .nilFunc, .nilFunc, .nilFunc, .nilFunc, .nilFunc, .nilFunc, .nilFunc, .nilFunc, .nilFunc, .nilFunc, .nilFunc, .nilFunc] := ⟨by kernel_rfl⟩
instance : AT 263 20 262 1 := ⟨⟨by kernel_rfl, by kernel_rfl⟩⟩
instance : KT 264 none := ⟨⟨by kernel_rfl, by kernel_rfl⟩⟩
instance : ZT 264 [.nilFunc] := ⟨by kernel_rfl⟩
instance : KT 265 none := ⟨⟨by kernel_rfl, by kernel_rfl⟩⟩
instance : ZT 265 [.nilFunc] := ⟨by kernel_rfl⟩
instance : KT 266 none := ⟨⟨by kernel_rfl, by kernel_rfl⟩⟩
instance : ZT 266 [.nilFunc] := ⟨by kernel_rfl⟩
instance : KT 267 none := ⟨⟨by kernel_rfl, by kernel_rfl⟩⟩
instance : ZT 267 [.nilFunc] := ⟨by kernel_rfl⟩
instance : KT 268 none := ⟨⟨by kernel_rfl, by kernel_rfl⟩⟩
instance : ZT 268 [.nilFunc] := ⟨by kernel_rfl⟩
instance : KT 269 none := ⟨⟨by kernel_rfl, by kernel_rfl⟩⟩
instance : ZT 269 [.nilFunc] := ⟨by kernel_rfl⟩
instance : KT 271 none := ⟨⟨by kernel_rfl, by kernel_rfl⟩⟩
instance : ZT 271 [.nilFunc] := ⟨by kernel_rfl⟩
instance : KT 272 none := ⟨⟨by kernel_rfl, by kernel_rfl⟩⟩
instance : ZT 272 [.nilFunc] := ⟨by kernel_rfl⟩
instance : KT 273 none := ⟨⟨by kernel_rfl, by kernel_rfl⟩⟩
instance : ZT 273 [.nilFunc] := ⟨by kernel_rfl⟩
instance : KT 274 none := ⟨⟨by kernel_rfl, by kernel_rfl⟩⟩
instance : ZT 274 [.nilFunc] := ⟨by kernel_rfl⟩
instance : KT 275 none := ⟨⟨by kernel_rfl, by kernel_rfl⟩⟩
instance : ZT 275 [.nilFunc] := ⟨by kernel_rfl⟩
instance : KT 277 none := ⟨⟨by kernel_rfl, by kernel_rfl⟩⟩
instance : ZT 277 [.nilFunc] := ⟨by kernel_rfl⟩
instance : KT 278 none := ⟨⟨by kernel_rfl, by kernel_rfl⟩⟩
instance : ZT 278 [.nilFunc] := ⟨by kernel_rfl⟩
instance : KT 279 none := ⟨⟨by kernel_rfl, by kernel_rfl⟩⟩
instance : ZT 279 [.nilFunc] := ⟨by kernel_rfl⟩
instance : KT 281 none := ⟨⟨by kernel_rfl, by kernel_rfl⟩⟩
instance : ZT 281 [.nilFunc] := ⟨by kernel_rfl⟩
instance : KT 282 none := ⟨⟨by kernel_rfl, by kernel_rfl⟩⟩
instance : ZT 282 [.nilFunc] := ⟨by kernel_rfl⟩
instance : KT 283 none := ⟨⟨by kernel_rfl, by kernel_rfl⟩⟩
instance : ZT 283 [.nilFunc] := ⟨by kernel_rfl⟩
instance : KT 284 none := ⟨⟨by kernel_rfl, by kernel_rfl⟩⟩
instance : ZT 284 [.pointer none] := ⟨by kernel_rfl⟩
instance : KT 285 none := ⟨⟨by kernel_rfl, by kernel_rfl⟩⟩
instance : ZT 285 [.nilFunc] := ⟨by kernel_rfl⟩
instance : KT 286 none := ⟨⟨by kernel_rfl, by kernel_rfl⟩⟩
instance : ZT 286 [.nilFunc] := ⟨by kernel_rfl⟩
instance : KT 287 none := ⟨⟨by kernel_rfl, by kernel_rfl⟩⟩
instance : ZT 287 [.nilFunc] := ⟨by kernel_rfl⟩
instance : KT 288 none := ⟨⟨by kernel_rfl, by kernel_rfl⟩⟩
instance : ZT 288 [.nilFunc] := ⟨by kernel_rfl⟩
instance : KT 289 none := ⟨⟨by kernel_rfl, by kernel_rfl⟩⟩
instance : ZT 289 [.nilFunc] := ⟨by kernel_rfl⟩
instance : KT 290 none := ⟨⟨by kernel_rfl, by kernel_rfl⟩⟩
instance : ZT 290 [.nilFunc] := ⟨by kernel_rfl⟩
instance : KT 291 none := ⟨⟨by kernel_rfl, by kernel_rfl⟩⟩
instance : ZT 291 [.nilFunc] := ⟨by kernel_rfl⟩
instance : KT 292 none := ⟨⟨by kernel_rfl, by kernel_rfl⟩⟩
instance : ZT 292 [.pointer none] := ⟨by kernel_rfl⟩
instance : KT 293 none := ⟨⟨by kernel_rfl, by kernel_rfl⟩⟩
instance : ZT 293 [.pointer none] := ⟨by kernel_rfl⟩
instance : KT 294 none := ⟨⟨by kernel_rfl, by kernel_rfl⟩⟩
instance : ZT 294 [.nilFunc] := ⟨by kernel_rfl⟩
instance : KT 295 none := ⟨⟨by kernel_rfl, by kernel_rfl⟩⟩
instance : ZT 295 [.slice none 0 0] := ⟨by kernel_rfl⟩
instance : ST 295 297 (.agg #[.int .i64 0, .int .i64 0]) 2 16 := ⟨⟨by kernel_rfl, by kernel_rfl, by kernel_rfl⟩⟩
instance : KT 296 (some 2) := ⟨⟨by kernel_rfl, by kernel_rfl⟩⟩
instance : ZT 296 [.int .i64 0, .int .i64 0] := ⟨by kernel_rfl⟩
instance : EQ 296 [.int, .int] := ⟨⟨by kernel_rfl, by kernel_rfl⟩⟩
instance : FO 296 0 0 := ⟨by kernel_rfl⟩
instance : FO 296 1 1 := ⟨by kernel_rfl⟩
instance : KT 297 (some 2) := ⟨⟨by kernel_rfl, by kernel_rfl⟩⟩
instance : ZT 297 [.int .i64 0, .int .i64 0] := ⟨by kernel_rfl⟩
instance : EQ 297 [.int, .int] := ⟨⟨by kernel_rfl, by kernel_rfl⟩⟩
instance : FO 297 0 0 := ⟨by kernel_rfl⟩
instance : FO 297 1 1 := ⟨by kernel_rfl⟩
instance : KT 298 none := ⟨⟨by kernel_rfl, by kernel_rfl⟩⟩
instance : ZT 298 [.nilFunc] := ⟨by kernel_rfl⟩
instance : KT 299 none := ⟨⟨by kernel_rfl, by kernel_rfl⟩⟩
instance : ZT 299 [.pointer none] := ⟨by kernel_rfl⟩
instance : KT 300 none := ⟨⟨by kernel_rfl, by kernel_rfl⟩⟩
instance : ZT 300 [.pointer none] := ⟨by kernel_rfl⟩
instance : KT 301 none := ⟨⟨by kernel_rfl, by kernel_rfl⟩⟩
instance : ZT 301 [.nilFunc] := ⟨by kernel_rfl⟩
instance : KT 302 none := ⟨⟨by kernel_rfl, by kernel_rfl⟩⟩
instance : ZT 302 [.nilFunc] := ⟨by kernel_rfl⟩
instance : KT 303 none := ⟨⟨by kernel_rfl, by kernel_rfl⟩⟩
instance : ZT 303 [.nilFunc] := ⟨by kernel_rfl⟩
instance : KT 304 none := ⟨⟨by kernel_rfl, by kernel_rfl⟩⟩
instance : ZT 304 [.nilFunc] := ⟨by kernel_rfl⟩
instance : KT 305 none := ⟨⟨by kernel_rfl, by kernel_rfl⟩⟩
instance : ZT 305 [.nilFunc] := ⟨by kernel_rfl⟩
instance : KT 306 none := ⟨⟨by kernel_rfl, by kernel_rfl⟩⟩
instance : ZT 306 [.slice none 0 0] := ⟨by kernel_rfl⟩
instance : ST 306 309 (.agg #[.int .i64 0, .int .i64 0, .int .i64 0]) 3 24 := ⟨⟨by kernel_rfl, by kernel_rfl, by kernel_rfl⟩⟩
instance : KT 307 none := ⟨⟨by kernel_rfl, by kernel_rfl⟩⟩
instance : ZT 307 [.nilFunc] := ⟨by kernel_rfl⟩
instance : KT 308 none := ⟨⟨by kernel_rfl, by kernel_rfl⟩⟩
instance : ZT 308 [.nilFunc] := ⟨by kernel_rfl⟩
instance : KT 309 (some 3) := ⟨⟨by kernel_rfl, by kernel_rfl⟩⟩
instance : ZT 309 [.int .i64 0, .int .i64 0, .int .i64 0] := ⟨by kernel_rfl⟩
instance : EQ 309 [.int, .int, .int] := ⟨⟨by kernel_rfl, by kernel_rfl⟩⟩
instance : FO 309 0 0 := ⟨by kernel_rfl⟩
instance : FO 309 1 1 := ⟨by kernel_rfl⟩
instance : FO 309 2 2 := ⟨by kernel_rfl⟩
instance : KT 310 none := ⟨⟨by kernel_rfl, by kernel_rfl⟩⟩
instance : ZT 310 [.nilFunc] := ⟨by kernel_rfl⟩
instance : KT 311 none := ⟨⟨by kernel_rfl, by kernel_rfl⟩⟩
instance : ZT 311 [.nilFunc] := ⟨by kernel_rfl⟩
instance : KT 312 none := ⟨⟨by kernel_rfl, by kernel_rfl⟩⟩
instance : ZT 312 [.nilFunc] := ⟨by kernel_rfl⟩
instance : KT 313 none := ⟨⟨by kernel_rfl, by kernel_rfl⟩⟩
instance : ZT 313 [.nilFunc] := ⟨by kernel_rfl⟩
instance : KT 314 none := ⟨⟨by kernel_rfl, by kernel_rfl⟩⟩
instance : ZT 314 [.nilFunc] := ⟨by kernel_rfl⟩
instance : KT 315 none := ⟨⟨by kernel_rfl, by kernel_rfl⟩⟩
instance : ZT 315 [.nilFunc] := ⟨by kernel_rfl⟩
instance : KT 316 none := ⟨⟨by kernel_rfl, by kernel_rfl⟩⟩
instance : ZT 316 [.nilFunc] := ⟨by kernel_rfl⟩
instance : KT 317 none := ⟨⟨by kernel_rfl, by kernel_rfl⟩⟩
instance : ZT 317 [.nilFunc] := ⟨by kernel_rfl⟩
instance : KT 318 none := ⟨⟨by kernel_rfl, by kernel_rfl⟩⟩
instance : ZT 318 [.nilFunc] := ⟨by kernel_rfl⟩
instance : KT 319 none := ⟨⟨by kernel_rfl, by kernel_rfl⟩⟩
instance : ZT 319 [.nilFunc] := ⟨by kernel_rfl⟩
instance : KT 320 none := ⟨⟨by kernel_rfl, by kernel_rfl⟩⟩
instance : ZT 320 [.nilFunc] := ⟨by kernel_rfl⟩
instance : KT 321 none := ⟨⟨by kernel_rfl, by kernel_rfl⟩⟩
instance : ZT 321 [.nilFunc] := ⟨by kernel_rfl⟩
instance : KT 322 none := ⟨⟨by kernel_rfl, by kernel_rfl⟩⟩
instance : ZT 322 [.nilFunc] := ⟨by kernel_rfl⟩
instance : KT 324 none := ⟨⟨by kernel_rfl, by kernel_rfl⟩⟩
instance : ZT 324 [.nilFunc] := ⟨by kernel_rfl⟩
instance : KT 325 none := ⟨⟨by kernel_rfl, by kernel_rfl⟩⟩
instance : ZT 325 [.nilFunc] := ⟨by kernel_rfl⟩
instance : KT 326 (some 2) := ⟨⟨by kernel_rfl, by kernel_rfl⟩⟩
instance : ZT 326 [.bool false, .bool false] := ⟨by kernel_rfl⟩
instance : EQ 326 [.bool, .bool] := ⟨⟨by kernel_rfl, by kernel_rfl⟩⟩
instance : AT 326 2 4 1 := ⟨⟨by kernel_rfl, by kernel_rfl⟩⟩
instance : KT 328 none := ⟨⟨by kernel_rfl, by kernel_rfl⟩⟩
instance : ZT 328 [.nilFunc] := ⟨by kernel_rfl⟩
instance : KT 329 none := ⟨⟨by kernel_rfl, by kernel_rfl⟩⟩
instance : ZT 329 [.nilFunc] := ⟨by kernel_rfl⟩
instance : KT 330 none := ⟨⟨by kernel_rfl, by kernel_rfl⟩⟩
instance : ZT 330 [.nilFunc] := ⟨by kernel_rfl⟩
instance : KT 331 none := ⟨⟨by kernel_rfl, by kernel_rfl⟩⟩
instance : ZT 331 [.nilFunc] := ⟨by kernel_rfl⟩
instance : KT 332 none := ⟨⟨by kernel_rfl, by kernel_rfl⟩⟩
instance : ZT 332 [.nilFunc] := ⟨by kernel_rfl⟩
instance : KT 333 none := ⟨⟨by kernel_rfl, by kernel_rfl⟩⟩
instance : ZT 333 [.pointer none] := ⟨by kernel_rfl⟩
instance : KT 334 none := ⟨⟨by kernel_rfl, by kernel_rfl⟩⟩
instance : ZT 334 [.nilFunc] := ⟨by kernel_rfl⟩
instance : KT 335 none := ⟨⟨by kernel_rfl, by kernel_rfl⟩⟩
instance : ZT 335 [.nilFunc] := ⟨by kernel_rfl⟩
instance : KT 336 none := ⟨⟨by kernel_rfl, by kernel_rfl⟩⟩
instance : ZT 336 [.nilFunc] := ⟨by kernel_rfl⟩
instance : KT 337 none := ⟨⟨by kernel_rfl, by kernel_rfl⟩⟩
instance : ZT 337 [.nilFunc] := ⟨by kernel_rfl⟩
instance : KT 338 none := ⟨⟨by kernel_rfl, by kernel_rfl⟩⟩
instance : ZT 338 [.slice none 0 0] := ⟨by kernel_rfl⟩
instance : ST 338 285 (.nilFunc) 1 8 := ⟨⟨by kernel_rfl, by kernel_rfl, by kernel_rfl⟩⟩
instance : KT 339 none := ⟨⟨by kernel_rfl, by kernel_rfl⟩⟩
instance : ZT 339 [.slice none 0 0] := ⟨by kernel_rfl⟩
instance : ST 339 343 (.agg #[.nilFunc, .int .i64 0]) 2 16 := ⟨⟨by kernel_rfl, by kernel_rfl, by kernel_rfl⟩⟩
instance : KT 340 none := ⟨⟨by kernel_rfl, by kernel_rfl⟩⟩
instance : ZT 340 [.nilFunc] := ⟨by kernel_rfl⟩
instance : KT 341 none := ⟨⟨by kernel_rfl, by kernel_rfl⟩⟩
instance : ZT 341 [.nilFunc] := ⟨by kernel_rfl⟩
instance : KT 342 (some 2) := ⟨⟨by kernel_rfl, by kernel_rfl⟩⟩
instance : ZT 342 [.nilFunc, .int .i64 0] := ⟨by kernel_rfl⟩
instance : FO 342 0 0 := ⟨by kernel_rfl⟩
instance : FO 342 1 1 := ⟨by kernel_rfl⟩
instance : KT 343 (some 2) := ⟨⟨by kernel_rfl, by kernel_rfl⟩⟩
instance : ZT 343 [.nilFunc, .int .i64 0] := ⟨by kernel_rfl⟩
instance : FO 343 0 0 := ⟨by kernel_rfl⟩
instance : FO 343 1 1 := ⟨by kernel_rfl⟩
instance : KT 344 none := ⟨⟨by kernel_rfl, by kernel_rfl⟩⟩
instance : ZT 344 [.pointer none] := ⟨by kernel_rfl⟩
instance : KT 345 none := ⟨⟨by kernel_rfl, by kernel_rfl⟩⟩
instance : ZT 345 [.nilFunc] := ⟨by kernel_rfl⟩
instance : KT 346 none := ⟨⟨by kernel_rfl, by kernel_rfl⟩⟩
instance : ZT 346 [.nilFunc] := ⟨by kernel_rfl⟩
instance : KT 348 none := ⟨⟨by kernel_rfl, by kernel_rfl⟩⟩
instance : ZT 348 [.nilFunc] := ⟨by kernel_rfl⟩
instance : KT 349 none := ⟨⟨by kernel_rfl, by kernel_rfl⟩⟩
instance : ZT 349 [.nilFunc] := ⟨by kernel_rfl⟩
instance : KT 350 none := ⟨⟨by kernel_rfl, by kernel_rfl⟩⟩
instance : ZT 350 [.nilFunc] := ⟨by kernel_rfl⟩
instance : KT 351 none := ⟨⟨by kernel_rfl, by kernel_rfl⟩⟩
instance : ZT 351 [.nilFunc] := ⟨by kernel_rfl⟩
instance : KT 352 none := ⟨⟨by kernel_rfl, by kernel_rfl⟩⟩
instance : ZT 352 [.nilFunc] := ⟨by kernel_rfl⟩
instance : KT 353 none := ⟨⟨by kernel_rfl, by kernel_rfl⟩⟩
instance : ZT 353 [.nilFunc] := ⟨by kernel_rfl⟩
instance : KT 354 none := ⟨⟨by kernel_rfl, by kernel_rfl⟩⟩
instance : ZT 354 [.nilFunc] := ⟨by kernel_rfl⟩
instance : KT 355 none := ⟨⟨by kernel_rfl, by kernel_rfl⟩⟩
instance : ZT 355 [.nilFunc] := ⟨by kernel_rfl⟩
instance : KT 356 none := ⟨⟨by kernel_rfl, by kernel_rfl⟩⟩
instance : ZT 356 [.nilFunc] := ⟨by kernel_rfl⟩
instance : KT 357 none := ⟨⟨by kernel_rfl, by kernel_rfl⟩⟩
instance : ZT 357 [.nilFunc] := ⟨by kernel_rfl⟩
instance : KT 358 none := ⟨⟨by kernel_rfl, by kernel_rfl⟩⟩
instance : ZT 358 [.nilFunc] := ⟨by kernel_rfl⟩
instance : KT 359 none := ⟨⟨by kernel_rfl, by kernel_rfl⟩⟩
instance : ZT 359 [.nilFunc] := ⟨by kernel_rfl⟩
instance : KT 360 none := ⟨⟨by kernel_rfl, by kernel_rfl⟩⟩
instance : ZT 360 [.nilFunc] := ⟨by kernel_rfl⟩
instance : KT 361 none := ⟨⟨by kernel_rfl, by kernel_rfl⟩⟩
instance : ZT 361 [.nilFunc] := ⟨by kernel_rfl⟩
instance : KT 362 (some 2) := ⟨⟨by kernel_rfl, by kernel_rfl⟩⟩
instance : ZT 362 [.int .u64 0, .int .u64 0] := ⟨by kernel_rfl⟩
instance : EQ 362 [.int, .int] := ⟨⟨by kernel_rfl, by kernel_rfl⟩⟩
instance : AT 362 2 23 1 := ⟨⟨by kernel_rfl, by kernel_rfl⟩⟩
instance : KT 363 none := ⟨⟨by kernel_rfl, by kernel_rfl⟩⟩
instance : ZT 363 [.nilFunc] := ⟨by kernel_rfl⟩
instance : KT 365 none := ⟨⟨by kernel_rfl, by kernel_rfl⟩⟩
instance : ZT 365 [.nilFunc] := ⟨by kernel_rfl⟩
instance : KT 366 none := ⟨⟨by kernel_rfl, by kernel_rfl⟩⟩
instance : ZT 366 [.nilFunc] := ⟨by kernel_rfl⟩
instance : KT 368 none := ⟨⟨by kernel_rfl, by kernel_rfl⟩⟩
instance : ZT 368 [.nilFunc] := ⟨by kernel_rfl⟩
instance : KT 369 none := ⟨⟨by kernel_rfl, by kernel_rfl⟩⟩
instance : ZT 369 [.nilFunc] := ⟨by kernel_rfl⟩
instance : KT 370 none := ⟨⟨by kernel_rfl, by kernel_rfl⟩⟩
instance : ZT 370 [.nilFunc] := ⟨by kernel_rfl⟩
instance : KT 371 none := ⟨⟨by kernel_rfl, by kernel_rfl⟩⟩
instance : ZT 371 [.nilFunc] := ⟨by kernel_rfl⟩
instance : KT 372 none := ⟨⟨by kernel_rfl, by kernel_rfl⟩⟩
instance : ZT 372 [.nilFunc] := ⟨by kernel_rfl⟩
instance : KT 373 none := ⟨⟨by kernel_rfl, by kernel_rfl⟩⟩
instance : ZT 373 [.nilFunc] := ⟨by kernel_rfl⟩
instance : KT 374 none := ⟨⟨by kernel_rfl, by kernel_rfl⟩⟩
instance : ZT 374 [.nilIface] := ⟨by kernel_rfl⟩
instance : KT 375 none := ⟨⟨by kernel_rfl, by kernel_rfl⟩⟩
instance : ZT 375 [.nilIface] := ⟨by kernel_rfl⟩
instance : KT 376 none := ⟨⟨by kernel_rfl, by kernel_rfl⟩⟩
instance : ZT 376 [.int .u64 0] := ⟨by kernel_rfl⟩
instance : KT 377 none := ⟨⟨by kernel_rfl, by kernel_rfl⟩⟩
instance : ZT 377 [.nilFunc] := ⟨by kernel_rfl⟩
instance : KT 378 none := ⟨⟨by kernel_rfl, by kernel_rfl⟩⟩
instance : ZT 378 [.pointer none] := ⟨by kernel_rfl⟩
instance : KT 379 none := ⟨⟨by kernel_rfl, by kernel_rfl⟩⟩
instance : ZT 379 [.nilFunc] := ⟨by kernel_rfl⟩
instance : KT 380 (some 4) := ⟨⟨by kernel_rfl, by kernel_rfl⟩⟩
instance : ZT 380 [.pointer none, .pointer none, .pointer none, .string ByteArray.empty] := ⟨by kernel_rfl⟩
instance : FO 380 0 0 := ⟨by kernel_rfl⟩
instance : FO 380 1 1 := ⟨by kernel_rfl⟩
instance : FO 380 2 2 := ⟨by kernel_rfl⟩
instance : FO 380 3 3 := ⟨by kernel_rfl⟩
instance : KT 381 (some 4) := ⟨⟨by kernel_rfl, by kernel_rfl⟩⟩
instance : ZT 381 [.pointer none, .pointer none, .pointer none, .string ByteArray.empty] := ⟨by kernel_rfl⟩
instance : FO 381 0 0 := ⟨by kernel_rfl⟩
instance : FO 381 1 1 := ⟨by kernel_rfl⟩
instance : FO 381 2 2 := ⟨by kernel_rfl⟩
instance : FO 381 3 3 := ⟨by kernel_rfl⟩
instance : KT 382 (some 0) := ⟨⟨by kernel_rfl, by kernel_rfl⟩⟩
instance : ZT 382 [] := ⟨by kernel_rfl⟩
instance : AT 382 0 16 1 := ⟨⟨by kernel_rfl, by kernel_rfl⟩⟩
instance : KT 383 (some 0) := ⟨⟨by kernel_rfl, by kernel_rfl⟩⟩
instance : ZT 383 [] := ⟨by kernel_rfl⟩
instance : KT 384 (some 0) := ⟨⟨by kernel_rfl, by kernel_rfl⟩⟩
instance : ZT 384 [] := ⟨by kernel_rfl⟩
instance : KT 385 none := ⟨⟨by kernel_rfl, by kernel_rfl⟩⟩
instance : ZT 385 [.int .u32 0] := ⟨by kernel_rfl⟩
instance : KT 386 none := ⟨⟨by kernel_rfl, by kernel_rfl⟩⟩
instance : ZT 386 [.int .u8 0] := ⟨by kernel_rfl⟩
instance : KT 387 none := ⟨⟨by kernel_rfl, by kernel_rfl⟩⟩
instance : ZT 387 [.int .u8 0] := ⟨by kernel_rfl⟩
instance : KT 388 none := ⟨⟨by kernel_rfl, by kernel_rfl⟩⟩
instance : ZT 388 [.nilFunc] := ⟨by kernel_rfl⟩
instance : KT 389 none := ⟨⟨by kernel_rfl, by kernel_rfl⟩⟩
instance : ZT 389 [.pointer none] := ⟨by kernel_rfl⟩
instance : KT 390 none := ⟨⟨by kernel_rfl, by kernel_rfl⟩⟩
instance : ZT 390 [.int .i32 0] := ⟨by kernel_rfl⟩
instance : KT 391 none := ⟨⟨by kernel_rfl, by kernel_rfl⟩⟩
instance : ZT 391 [.int .i32 0] := ⟨by kernel_rfl⟩
instance : KT 392 (some 11) := ⟨⟨by kernel_rfl, by kernel_rfl⟩⟩
instance : ZT 392 [.int .u64 0, .int .u64 0, .int .u32 0, .int .u8 0, .int .u8 0, .int .u8 0, .int .u8 0, .nilFunc, .pointer none, .int .i32 0, .int .i32 0] := ⟨by kernel_rfl⟩
instance : FO 392 0 0 := ⟨by kernel_rfl⟩
instance : FO 392 1 1 := ⟨by kernel_rfl⟩
instance : FO 392 2 2 := ⟨by kernel_rfl⟩
instance : FO 392 3 3 := ⟨by kernel_rfl⟩
instance : FO 392 4 4 := ⟨by kernel_rfl⟩
instance : FO 392 5 5 := ⟨by kernel_rfl⟩
instance : FO 392 6 6 := ⟨by kernel_rfl⟩
instance : FO 392 7 7 := ⟨by kernel_rfl⟩
instance : FO 392 8 8 := ⟨by kernel_rfl⟩
instance : FO 392 9 9 := ⟨by kernel_rfl⟩
instance : FO 392 10 10 := ⟨by kernel_rfl⟩
instance : KT 393 (some 11) := ⟨⟨by kernel_rfl, by kernel_rfl⟩⟩
instance : ZT 393 [.int .u64 0, .int .u64 0, .int .u32 0, .int .u8 0, .int .u8 0, .int .u8 0, .int .u8 0, .nilFunc, .pointer none, .int .i32 0, .int .i32 0] := ⟨by kernel_rfl⟩
instance : FO 393 0 0 := ⟨by kernel_rfl⟩
instance : FO 393 1 1 := ⟨by kernel_rfl⟩
instance : FO 393 2 2 := ⟨by kernel_rfl⟩
instance : FO 393 3 3 := ⟨by kernel_rfl⟩
instance : FO 393 4 4 := ⟨by kernel_rfl⟩
instance : FO 393 5 5 := ⟨by kernel_rfl⟩
instance : FO 393 6 6 := ⟨by kernel_rfl⟩
instance : FO 393 7 7 := ⟨by kernel_rfl⟩
instance : FO 393 8 8 := ⟨by kernel_rfl⟩
instance : FO 393 9 9 := ⟨by kernel_rfl⟩
instance : FO 393 10 10 := ⟨by kernel_rfl⟩
instance : KT 394 (some 1) := ⟨⟨by kernel_rfl, by kernel_rfl⟩⟩
instance : ZT 394 [.string ByteArray.empty] := ⟨by kernel_rfl⟩
instance : EQ 394 [.str] := ⟨⟨by kernel_rfl, by kernel_rfl⟩⟩
instance : FO 394 0 0 := ⟨by kernel_rfl⟩
instance : KT 395 (some 1) := ⟨⟨by kernel_rfl, by kernel_rfl⟩⟩
instance : ZT 395 [.string ByteArray.empty] := ⟨by kernel_rfl⟩
instance : EQ 395 [.str] := ⟨⟨by kernel_rfl, by kernel_rfl⟩⟩
instance : FO 395 0 0 := ⟨by kernel_rfl⟩
instance : KT 396 none := ⟨⟨by kernel_rfl, by kernel_rfl⟩⟩
instance : ZT 396 [.pointer none] := ⟨by kernel_rfl⟩
instance : FK 2 := ⟨by kernel_rfl⟩
instance : FK 3 := ⟨by kernel_rfl⟩
instance : FK 4 := ⟨by kernel_rfl⟩
instance : FK 5 := ⟨by kernel_rfl⟩
instance : FK 6 := ⟨by kernel_rfl⟩
instance : FK 7 := ⟨by kernel_rfl⟩
instance : FK 8 := ⟨by kernel_rfl⟩
instance : FK 9 := ⟨by kernel_rfl⟩
instance : FK 10 := ⟨by kernel_rfl⟩
instance : FK 11 := ⟨by kernel_rfl⟩
instance : FK 12 := ⟨by kernel_rfl⟩
instance : FK 13 := ⟨by kernel_rfl⟩
instance : FK 14 := ⟨by kernel_rfl⟩
instance : FK 15 := ⟨by kernel_rfl⟩
instance : FK 16 := ⟨by kernel_rfl⟩
instance : FK 17 := ⟨by kernel_rfl⟩
instance : FK 18 := ⟨by kernel_rfl⟩
instance : FK 19 := ⟨by kernel_rfl⟩
instance : FK 20 := ⟨by kernel_rfl⟩
instance : FK 21 := ⟨by kernel_rfl⟩
instance : FK 22 := ⟨by kernel_rfl⟩
instance : FK 23 := ⟨by kernel_rfl⟩
instance : FK 24 := ⟨by kernel_rfl⟩
instance : FK 25 := ⟨by kernel_rfl⟩
instance : FK 26 := ⟨by kernel_rfl⟩
instance : FK 27 := ⟨by kernel_rfl⟩
instance : FK 28 := ⟨by kernel_rfl⟩
instance : FK 29 := ⟨by kernel_rfl⟩
instance : FK 30 := ⟨by kernel_rfl⟩
instance : FK 31 := ⟨by kernel_rfl⟩
instance : FK 32 := ⟨by kernel_rfl⟩
instance : FK 33 := ⟨by kernel_rfl⟩
instance : FK 34 := ⟨by kernel_rfl⟩
instance : FK 35 := ⟨by kernel_rfl⟩
instance : FK 36 := ⟨by kernel_rfl⟩
instance : FK 37 := ⟨by kernel_rfl⟩
instance : FK 38 := ⟨by kernel_rfl⟩
instance : FK 39 := ⟨by kernel_rfl⟩
instance : FK 40 := ⟨by kernel_rfl⟩
instance : FK 41 := ⟨by kernel_rfl⟩
instance : FK 42 := ⟨by kernel_rfl⟩
instance : FK 43 := ⟨by kernel_rfl⟩
instance : FK 44 := ⟨by kernel_rfl⟩
instance : FK 45 := ⟨by kernel_rfl⟩
instance : FK 46 := ⟨by kernel_rfl⟩
instance : FK 47 := ⟨by kernel_rfl⟩
instance : FK 48 := ⟨by kernel_rfl⟩
instance : FK 49 := ⟨by kernel_rfl⟩
instance : FK 50 := ⟨by kernel_rfl⟩
instance : FK 51 := ⟨by kernel_rfl⟩
instance : FK 52 := ⟨by kernel_rfl⟩
instance : FK 53 := ⟨by kernel_rfl⟩
instance : FK 54 := ⟨by kernel_rfl⟩
instance : FK 55 := ⟨by kernel_rfl⟩
instance : FK 56 := ⟨by kernel_rfl⟩
instance : FK 57 := ⟨by kernel_rfl⟩
instance : FK 58 := ⟨by kernel_rfl⟩
instance : FK 59 := ⟨by kernel_rfl⟩
instance : FK 60 := ⟨by kernel_rfl⟩
instance : FK 61 := ⟨by kernel_rfl⟩
instance : FK 62 := ⟨by kernel_rfl⟩
instance : FK 63 := ⟨by kernel_rfl⟩
instance : FK 64 := ⟨by kernel_rfl⟩
instance : FK 65 := ⟨by kernel_rfl⟩
instance : FK 66 := ⟨by kernel_rfl⟩
instance : FK 67 := ⟨by kernel_rfl⟩
instance : FK 68 := ⟨by kernel_rfl⟩
instance : FK 69 := ⟨by kernel_rfl⟩
instance : FK 70 := ⟨by kernel_rfl⟩
instance : FK 71 := ⟨by kernel_rfl⟩
instance : FK 72 := ⟨by kernel_rfl⟩
instance : FK 73 := ⟨by kernel_rfl⟩
instance : FK 74 := ⟨by kernel_rfl⟩
instance : FK 75 := ⟨by kernel_rfl⟩
instance : FK 76 := ⟨by kernel_rfl⟩
instance : FK 77 := ⟨by kernel_rfl⟩
instance : FK 78 := ⟨by kernel_rfl⟩
instance : FK 79 := ⟨by kernel_rfl⟩
instance : FK 80 := ⟨by kernel_rfl⟩
instance : FK 81 := ⟨by kernel_rfl⟩
instance : FK 82 := ⟨by kernel_rfl⟩
instance : FK 83 := ⟨by kernel_rfl⟩
instance : FK 84 := ⟨by kernel_rfl⟩
instance : FK 85 := ⟨by kernel_rfl⟩
instance : FK 86 := ⟨by kernel_rfl⟩
instance : FK 87 := ⟨by kernel_rfl⟩
instance : FK 88 := ⟨by kernel_rfl⟩
instance : FK 89 := ⟨by kernel_rfl⟩
instance : FK 90 := ⟨by kernel_rfl⟩
instance : FK 91 := ⟨by kernel_rfl⟩
instance : FK 92 := ⟨by kernel_rfl⟩
instance : FK 93 := ⟨by kernel_rfl⟩
instance : FK 94 := ⟨by kernel_rfl⟩
instance : FK 95 := ⟨by kernel_rfl⟩
instance : FK 96 := ⟨by kernel_rfl⟩
instance : FK 97 := ⟨by kernel_rfl⟩
instance : FK 98 := ⟨by kernel_rfl⟩
instance : FK 99 := ⟨by kernel_rfl⟩
instance : FK 100 := ⟨by kernel_rfl⟩
instance : FK 101 := ⟨by kernel_rfl⟩
instance : FK 102 := ⟨by kernel_rfl⟩
instance : FK 103 := ⟨by kernel_rfl⟩
instance : FK 104 := ⟨by kernel_rfl⟩
instance : FK 105 := ⟨by kernel_rfl⟩
instance : FK 106 := ⟨by kernel_rfl⟩
instance : FK 107 := ⟨by kernel_rfl⟩
instance : FK 108 := ⟨by kernel_rfl⟩
instance : FK 109 := ⟨by kernel_rfl⟩
instance : FK 110 := ⟨by kernel_rfl⟩
instance : FK 111 := ⟨by kernel_rfl⟩
instance : FK 112 := ⟨by kernel_rfl⟩
instance : FK 113 := ⟨by kernel_rfl⟩
instance : FK 114 := ⟨by kernel_rfl⟩
instance : FK 115 := ⟨by kernel_rfl⟩
instance : FK 116 := ⟨by kernel_rfl⟩
instance : FK 117 := ⟨by kernel_rfl⟩
instance : FK 118 := ⟨by kernel_rfl⟩
instance : FK 119 := ⟨by kernel_rfl⟩
instance : FK 120 := ⟨by kernel_rfl⟩
instance : FK 121 := ⟨by kernel_rfl⟩
instance : FK 122 := ⟨by kernel_rfl⟩
instance : FK 123 := ⟨by kernel_rfl⟩
instance : FK 124 := ⟨by kernel_rfl⟩
instance : FK 125 := ⟨by kernel_rfl⟩
instance : FK 126 := ⟨by kernel_rfl⟩
instance : FK 127 := ⟨by kernel_rfl⟩
instance : FK 128 := ⟨by kernel_rfl⟩
instance : FK 129 := ⟨by kernel_rfl⟩
instance : FK 130 := ⟨by kernel_rfl⟩
instance : FK 131 := ⟨by kernel_rfl⟩
instance : FK 132 := ⟨by kernel_rfl⟩
instance : FK 133 := ⟨by kernel_rfl⟩
instance : FK 134 := ⟨by kernel_rfl⟩
instance : FK 135 := ⟨by kernel_rfl⟩
instance : FK 136 := ⟨by kernel_rfl⟩
instance : FK 137 := ⟨by kernel_rfl⟩
instance : FK 138 := ⟨by kernel_rfl⟩
instance : FK 139 := ⟨by kernel_rfl⟩
instance : FK 140 := ⟨by kernel_rfl⟩
instance : FK 141 := ⟨by kernel_rfl⟩
instance : FK 142 := ⟨by kernel_rfl⟩
instance : FK 143 := ⟨by kernel_rfl⟩
instance : FK 144 := ⟨by kernel_rfl⟩
instance : FK 145 := ⟨by kernel_rfl⟩
instance : FK 146 := ⟨by kernel_rfl⟩
instance : FK 147 := ⟨by kernel_rfl⟩
instance : FK 148 := ⟨by kernel_rfl⟩
instance : FK 149 := ⟨by kernel_rfl⟩
instance : FK 150 := ⟨by kernel_rfl⟩
instance : FK 151 := ⟨by kernel_rfl⟩
instance : FK 152 := ⟨by kernel_rfl⟩
instance : FK 153 := ⟨by kernel_rfl⟩
instance : FK 154 := ⟨by kernel_rfl⟩
instance : FK 155 := ⟨by kernel_rfl⟩
instance : FK 156 := ⟨by kernel_rfl⟩
instance : FK 157 := ⟨by kernel_rfl⟩
instance : FK 158 := ⟨by kernel_rfl⟩
instance : FK 159 := ⟨by kernel_rfl⟩
instance : FK 160 := ⟨by kernel_rfl⟩
instance : FK 161 := ⟨by kernel_rfl⟩
instance : FK 162 := ⟨by kernel_rfl⟩
instance : FK 163 := ⟨by kernel_rfl⟩
instance : FK 164 := ⟨by kernel_rfl⟩
instance : FK 165 := ⟨by kernel_rfl⟩
instance : FK 166 := ⟨by kernel_rfl⟩
instance : FK 167 := ⟨by kernel_rfl⟩
instance : FK 168 := ⟨by kernel_rfl⟩
instance : FK 169 := ⟨by kernel_rfl⟩
instance : FK 170 := ⟨by kernel_rfl⟩
instance : FK 171 := ⟨by kernel_rfl⟩
instance : FK 172 := ⟨by kernel_rfl⟩
instance : FK 173 := ⟨by kernel_rfl⟩
instance : FK 174 := ⟨by kernel_rfl⟩
instance : FK 175 := ⟨by kernel_rfl⟩
instance : FK 176 := ⟨by kernel_rfl⟩
instance : FK 177 := ⟨by kernel_rfl⟩
instance : FK 178 := ⟨by kernel_rfl⟩
instance : FK 179 := ⟨by kernel_rfl⟩
instance : FK 180 := ⟨by kernel_rfl⟩
instance : FK 181 := ⟨by kernel_rfl⟩
instance : FK 182 := ⟨by kernel_rfl⟩
instance : FK 183 := ⟨by kernel_rfl⟩
instance : FK 184 := ⟨by kernel_rfl⟩
instance : FK 185 := ⟨by kernel_rfl⟩
instance : FK 186 := ⟨by kernel_rfl⟩
instance : FK 187 := ⟨by kernel_rfl⟩
instance : FK 188 := ⟨by kernel_rfl⟩
instance : FK 189 := ⟨by kernel_rfl⟩
instance : FK 190 := ⟨by kernel_rfl⟩
instance : FK 191 := ⟨by kernel_rfl⟩
instance : FK 192 := ⟨by kernel_rfl⟩
instance : FK 193 := ⟨by kernel_rfl⟩
instance : FK 194 := ⟨by kernel_rfl⟩
instance : FK 195 := ⟨by kernel_rfl⟩
instance : FK 196 := ⟨by kernel_rfl⟩
instance : FK 197 := ⟨by kernel_rfl⟩
instance : FK 198 := ⟨by kernel_rfl⟩
instance : FK 199 := ⟨by kernel_rfl⟩
instance : FK 200 := ⟨by kernel_rfl⟩
instance : FK 201 := ⟨by kernel_rfl⟩
instance : FK 202 := ⟨by kernel_rfl⟩
instance : FK 203 := ⟨by kernel_rfl⟩
instance : FK 204 := ⟨by kernel_rfl⟩
instance : FK 205 := ⟨by kernel_rfl⟩
instance : FK 206 := ⟨by kernel_rfl⟩
instance : FK 207 := ⟨by kernel_rfl⟩
instance : FK 208 := ⟨by kernel_rfl⟩
instance : FK 209 := ⟨by kernel_rfl⟩
instance : FK 210 := ⟨by kernel_rfl⟩
instance : FK 211 := ⟨by kernel_rfl⟩
instance : FK 212 := ⟨by kernel_rfl⟩
instance : FK 213 := ⟨by kernel_rfl⟩
instance : FK 214 := ⟨by kernel_rfl⟩
instance : FK 215 := ⟨by kernel_rfl⟩
instance : FK 216 := ⟨by kernel_rfl⟩
instance : FK 217 := ⟨by kernel_rfl⟩
instance : FK 218 := ⟨by kernel_rfl⟩
instance : FK 219 := ⟨by kernel_rfl⟩
instance : FK 220 := ⟨by kernel_rfl⟩
instance : FK 221 := ⟨by kernel_rfl⟩
instance : FK 222 := ⟨by kernel_rfl⟩
instance : FK 223 := ⟨by kernel_rfl⟩
instance : FK 224 := ⟨by kernel_rfl⟩
instance : FK 225 := ⟨by kernel_rfl⟩
instance : FK 226 := ⟨by kernel_rfl⟩
instance : FK 227 := ⟨by kernel_rfl⟩
instance : FK 228 := ⟨by kernel_rfl⟩
instance : FK 229 := ⟨by kernel_rfl⟩
instance : FK 230 := ⟨by kernel_rfl⟩
instance : FK 231 := ⟨by kernel_rfl⟩
instance : FK 232 := ⟨by kernel_rfl⟩
instance : FK 233 := ⟨by kernel_rfl⟩
instance : FK 234 := ⟨by kernel_rfl⟩
instance : FK 235 := ⟨by kernel_rfl⟩
instance : FK 236 := ⟨by kernel_rfl⟩
instance : FK 237 := ⟨by kernel_rfl⟩
instance : FK 238 := ⟨by kernel_rfl⟩
instance : FK 239 := ⟨by kernel_rfl⟩
instance : FK 240 := ⟨by kernel_rfl⟩
instance : FK 241 := ⟨by kernel_rfl⟩
instance : FK 242 := ⟨by kernel_rfl⟩
instance : FK 243 := ⟨by kernel_rfl⟩
instance : FK 244 := ⟨by kernel_rfl⟩
instance : FK 245 := ⟨by kernel_rfl⟩
instance : FK 246 := ⟨by kernel_rfl⟩
instance : FK 247 := ⟨by kernel_rfl⟩
instance : FK 248 := ⟨by kernel_rfl⟩
instance : FK 249 := ⟨by kernel_rfl⟩
instance : FK 250 := ⟨by kernel_rfl⟩
instance : FK 251 := ⟨by kernel_rfl⟩
instance : FK 252 := ⟨by kernel_rfl⟩
instance : FK 253 := ⟨by kernel_rfl⟩
instance : FK 254 := ⟨by kernel_rfl⟩
instance : FK 255 := ⟨by kernel_rfl⟩
instance : FK 256 := ⟨by kernel_rfl⟩
instance : FK 257 := ⟨by kernel_rfl⟩
instance : FK 258 := ⟨by kernel_rfl⟩
instance : FK 259 := ⟨by kernel_rfl⟩
instance : FK 260 := ⟨by kernel_rfl⟩
instance : FK 261 := ⟨by kernel_rfl⟩
instance : FK 262 := ⟨by kernel_rfl⟩
instance : FK 263 := ⟨by kernel_rfl⟩
instance : FK 264 := ⟨by kernel_rfl⟩
instance : FK 265 := ⟨by kernel_rfl⟩
instance : FK 266 := ⟨by kernel_rfl⟩
instance : FK 267 := ⟨by kernel_rfl⟩
instance : FK 268 := ⟨by kernel_rfl⟩
instance : FK 269 := ⟨by kernel_rfl⟩
instance : FK 270 := ⟨by kernel_rfl⟩
instance : FK 271 := ⟨by kernel_rfl⟩
instance : FK 272 := ⟨by kernel_rfl⟩
instance : FK 273 := ⟨by kernel_rfl⟩
instance : FK 274 := ⟨by kernel_rfl⟩
instance : FK 275 := ⟨by kernel_rfl⟩
instance : FK 276 := ⟨by kernel_rfl⟩
instance : FK 277 := ⟨by kernel_rfl⟩
instance : FK 278 := ⟨by kernel_rfl⟩
instance : FK 279 := ⟨by kernel_rfl⟩
instance : FK 280 := ⟨by kernel_rfl⟩
instance : FK 281 := ⟨by kernel_rfl⟩
instance : FK 282 := ⟨by kernel_rfl⟩
instance : FK 283 := ⟨by kernel_rfl⟩
instance : FK 284 := ⟨by kernel_rfl⟩
instance : FK 285 := ⟨by kernel_rfl⟩
instance : FK 286 := ⟨by kernel_rfl⟩
instance : FK 287 := ⟨by kernel_rfl⟩
instance : FK 288 := ⟨by kernel_rfl⟩
instance : FK 289 := ⟨by kernel_rfl⟩
instance : FK 290 := ⟨by kernel_rfl⟩
instance : FK 291 := ⟨by kernel_rfl⟩
instance : FK 292 := ⟨by kernel_rfl⟩
instance : FK 293 := ⟨by kernel_rfl⟩
instance : FK 294 := ⟨by kernel_rfl⟩
instance : FK 295 := ⟨by kernel_rfl⟩
instance : FK 296 := ⟨by kernel_rfl⟩
instance : FK 297 := ⟨by kernel_rfl⟩
instance : FK 298 := ⟨by kernel_rfl⟩
instance : FK 299 := ⟨by kernel_rfl⟩
instance : FK 300 := ⟨by kernel_rfl⟩
instance : FK 301 := ⟨by kernel_rfl⟩
instance : FK 302 := ⟨by kernel_rfl⟩
instance : FK 303 := ⟨by kernel_rfl⟩
instance : FK 304 := ⟨by kernel_rfl⟩
instance : FK 305 := ⟨by kernel_rfl⟩
instance : FK 306 := ⟨by kernel_rfl⟩
instance : FK 307 := ⟨by kernel_rfl⟩
instance : FK 308 := ⟨by kernel_rfl⟩
instance : FK 309 := ⟨by kernel_rfl⟩
instance : FK 310 := ⟨by kernel_rfl⟩
instance : FK 311 := ⟨by kernel_rfl⟩
instance : FK 312 := ⟨by kernel_rfl⟩
instance : FK 313 := ⟨by kernel_rfl⟩
instance : FK 314 := ⟨by kernel_rfl⟩
instance : FK 315 := ⟨by kernel_rfl⟩
instance : FK 316 := ⟨by kernel_rfl⟩
instance : FK 317 := ⟨by kernel_rfl⟩
instance : FK 318 := ⟨by kernel_rfl⟩
instance : FK 319 := ⟨by kernel_rfl⟩
instance : FK 320 := ⟨by kernel_rfl⟩
instance : FK 321 := ⟨by kernel_rfl⟩
instance : FK 322 := ⟨by kernel_rfl⟩
instance : FK 323 := ⟨by kernel_rfl⟩
instance : FK 324 := ⟨by kernel_rfl⟩
instance : FK 325 := ⟨by kernel_rfl⟩
instance : FK 326 := ⟨by kernel_rfl⟩
instance : FK 327 := ⟨by kernel_rfl⟩
instance : FK 328 := ⟨by kernel_rfl⟩
instance : FK 329 := ⟨by kernel_rfl⟩
instance : FK 330 := ⟨by kernel_rfl⟩
instance : FK 331 := ⟨by kernel_rfl⟩
instance : FK 332 := ⟨by kernel_rfl⟩
instance : FK 333 := ⟨by kernel_rfl⟩
instance : FK 334 := ⟨by kernel_rfl⟩
instance : FK 335 := ⟨by kernel_rfl⟩
instance : FK 336 := ⟨by kernel_rfl⟩
instance : FK 337 := ⟨by kernel_rfl⟩
instance : FK 338 := ⟨by kernel_rfl⟩
instance : FK 339 := ⟨by kernel_rfl⟩
instance : FK 340 := ⟨by kernel_rfl⟩
instance : FK 341 := ⟨by kernel_rfl⟩
instance : FK 342 := ⟨by kernel_rfl⟩
instance : FK 343 := ⟨by kernel_rfl⟩
instance : FK 344 := ⟨by kernel_rfl⟩
instance : FK 345 := ⟨by kernel_rfl⟩
instance : FK 346 := ⟨by kernel_rfl⟩
end Go.Proofs.YtopbohbkhljjgaaGreat
end
section
namespace Go.Proofs.YtopbohbkhljjgaaGreat
open Go.RowKit
set_option linter.unusedVariables false
set_option maxRecDepth 100000
section
variable {ops : Array Oper} {Q : Exit → Act → World → Prop} {rest : List Oper} {o : Oper} {a : Act} {w : World} {n : Nat} {l : List (Nat × Value)} {L : List Asn}
def Wanted (o : Oper) (ops : Array Oper) (l : List (Nat × Value)) : Option Bool :=
  match o.guard with
  | none => some true
  | some (j, want) => match ((ops[j]?).bind (·.dst)).bind (look l) with
    | some (.bool b) => some (b == want)
    | some _ => some false
    | none => none
theorem Fr.wanted {x : Bool} (F : Fr a n l) (h : Wanted o ops l = some x) : Region.wanted o (yielded ops a.tmps) = x := by
  unfold Wanted at h
  unfold Region.wanted
  cases hg : o.guard with
  | none => rw [hg] at h; exact Option.some.inj h
  | some p =>
    obtain ⟨j, want⟩ := p
    rw [hg] at h
    simp only at h ⊢
    unfold yielded
    cases hj : (ops[j]?).bind (·.dst) with
    | none => rw [hj] at h; simp at h
    | some d =>
      rw [hj] at h
      simp only [Option.bind_some] at h ⊢
      cases hl : look l d with
      | none => rw [hl] at h; simp at h
      | some u =>
        rw [hl] at h
        obtain ⟨h1, h2⟩ := F.val d u hl
        have h3 : a.tmps[d]? = some u := by
          have hs : d < a.tmps.size := by rw [F.size]; exact h1
          have : a.tmps.getD d undef = a.tmps[d] := by simp [Array.getD, hs]
          rw [Array.getElem?_eq_getElem hs, ← this, h2]
        rw [h3]
        cases u <;> simp_all
theorem sx_val (F : Fr a n l) (hw : Wanted o ops l = some true) {d : Nat} (hd : o.dst = some d) (hn : Nat.ble (d + 1) n = true) {v : Value} {w' : World} (hr : (execOp a.eval o).run Tryz.prog w = .ok (.value v) w')
    (h : ∀ a', Fr a' n ((d, v) :: l) → wpList Tryz.prog ops Q rest a' w') : wpList Tryz.prog ops Q (o :: rest) a w := by
  unfold wpList
  rw [if_pos (F.wanted hw)]
  refine .inl ?_
  unfold Oper.wp
  rw [hr]
  unfold Oper.upon
  rw [hd]
  exact h _ (F.put d v hn)
theorem sx_skip (F : Fr a n l) (hw : Wanted o ops l = some false) {d : Nat} (hd : o.dst = some d) (hn : Nat.ble (d + 1) n = true)
    (h : ∀ a', Fr a' n ((d, undef) :: l) → wpList Tryz.prog ops Q rest a' w) : wpList Tryz.prog ops Q (o :: rest) a w := by
  unfold wpList
  rw [if_neg (by rw [F.wanted hw]; simp), hd]
  exact h _ (F.put d undef hn)
theorem sx_skip0 (F : Fr a n l) (hw : Wanted o ops l = some false) (hd : o.dst = none)
    (h : wpList Tryz.prog ops Q rest a w) : wpList Tryz.prog ops Q (o :: rest) a w := by
  unfold wpList
  rw [if_neg (by rw [F.wanted hw]; simp), hd]
  exact h
theorem sx_nil (h : Q .normal a w) : wpList Tryz.prog ops Q [] a w := h
/-! ### Operations that only compute -/
def pureBin (b : BinOp) (u v : Value) : Option Value :=
  match u, v with
  | .int k x, .int k' y => if k = k' then
      match b with
      | .eql => some (.bool (decide (x = y)))
      | .neq => some (.bool (decide (x ≠ y)))
      | .lss => some (.bool (decide (x < y)))
      | .leq => some (.bool (decide (x ≤ y)))
      | .gtr => some (.bool (decide (y < x)))
      | .geq => some (.bool (decide (y ≤ x)))
      | _ => none
    else none
  | .string x, .string y =>
    match b with
    | .eql => some (.bool (x.toList == y.toList))
    | .neq => some (.bool (!(x.toList == y.toList)))
    | _ => none
  | _, _ => none
def pureOp (op : Op) (l : List (Nat × Value)) : Option Value :=
  match op with
  | .move x => evl l x
  | .assign x => evl l x
  | .binOp b _ x y _ => match evl l x, evl l y with | some u, some v => pureBin b u v | _, _ => none
  | .unOp .not _ x => match evl l x with | some (.bool b) => some (.bool (!b)) | _ => none
  | .nilCheck x => match evl l x with | some (.pointer (some p)) => some (.pointer (some p)) | some (.func (.func f) u v) => some (.func (.func f) u v) | _ => none
  | .makeFunc f u v => match evls l u.toList, evls l v.toList with | some us, some vs => some (.func f us.toArray vs.toArray) | _, _ => none
  | .pick c x y => match evl l c with | some (.bool true) => evl l x | some (.bool false) => evl l y | _ => none
  | _ => none
theorem pureBin_run (b : BinOp) (t : TypeId) (x y : Operand) {u v r : Value} (h : pureBin b u v = some r) (w : World) : (do eqGuard b t x y u v; binOp b t u v : Sem Value).run Tryz.prog w = .ok r w := by
  unfold pureBin at h
  split at h
  · split at h
    · rename_i k x y k' x' y' hk
      subst hk
      cases b <;> simp only [reduceCtorEq] at h <;> (obtain rfl := Option.some.inj h) <;> simp [eqGuard, binOp, Op.intCmp] <;> rfl
    · cases h
  · cases b <;> simp only [reduceCtorEq] at h <;> (obtain rfl := Option.some.inj h) <;> simp [eqGuard, binOp, Op.stringOp]
  · cases h
theorem pure_run (F : Fr a n l) {v : Value} (h : pureOp o.op l = some v) : (execOp a.eval o).run Tryz.prog w = .ok (.value v) w := by
  unfold pureOp at h
  unfold execOp
  split at h
  · rename_i x e; rw [e]; simp [F.eval h]
  · rename_i x e; rw [e]; simp [F.eval h]
  · rename_i b t x y ty e
    rw [e]
    split at h
    · rename_i u v h1 h2
      simp only [F.eval h1, F.eval h2]
      have := pureBin_run b t x y h w
      rw [Sem.run_bind, this]; rfl
    · cases h
  · rename_i t x e
    rw [e]
    split at h
    · rename_i b h1
      obtain rfl := Option.some.inj h
      simp [F.eval h1, Op.unary]
    · cases h
  · rename_i x e
    rw [e]
    split at h
    · rename_i p h1
      obtain rfl := Option.some.inj h
      simp [F.eval h1]
    · rename_i p u v h1
      obtain rfl := Option.some.inj h
      simp [F.eval h1]
    · cases h
  · rename_i f u v e
    rw [e]
    split at h
    · rename_i us vs h1 h2
      obtain rfl := Option.some.inj h
      have e1 : u.map a.eval = us.toArray := by have := F.evals h1; apply Array.toList_inj.1; simpa using this
      have e2 : v.map a.eval = vs.toArray := by have := F.evals h2; apply Array.toList_inj.1; simpa using this
      simp [Instr.makeFunc, e1, e2]
    · cases h
  · rename_i c x y e
    rw [e]
    split at h
    · rename_i h1
      simp [F.eval h1, F.eval h, asBool]
    · rename_i h1
      simp [F.eval h1, F.eval h, asBool]
    · cases h
  · cases h
/-! ### Arithmetic -/
theorem bin_run (F : Fr a n l) {b : BinOp} {t ty : TypeId} {x y : Operand} (ho : o.op = .binOp b t x y ty) {k : IntKind} {m p : Int} (hx : evl l x = some (.int k m)) (hy : evl l y = some (.int k p)) {r : Value}
    (h : (binOp b t (.int k m) (.int k p)).run Tryz.prog w = .ok r w) : (execOp a.eval o).run Tryz.prog w = .ok (.value r) w := by
  unfold execOp
  rw [ho]
  have h1 : (eqGuard b t x y (.int k m) (.int k p)).run Tryz.prog w = .ok () w := by unfold eqGuard; cases b <;> simp [Sem.run_pure]
  simp only [F.eval hx, F.eval hy, Sem.run_bind, h1, Result.andThen_ok, h]
  rfl
theorem u64_in {x : Int} (h1 : 0 ≤ x) (h2 : x ≤ 18446744073709551615) : IntKind.u64.wrap x = x := by
  have := Int.emod_eq_of_lt h1 (show x < 18446744073709551616 by omega)
  first | simpa [IntKind.wrap, IntKind.signed, IntKind.bits] using this | (unfold IntKind.wrap; simp [IntKind.signed, IntKind.bits]; omega)
theorem eq_run (F : Fr a n l) {t ty : TypeId} {x y : Operand} {neg : Bool} (ho : o.op = .binOp (if neg then .neq else .eql) t x y ty) {xs ys : List Value} (hx : evl l x = some (.agg xs.toArray)) (hy : evl l y = some (.agg ys.toArray)) {ks : List Sc} [he : EQ t ks] {r : Bool} (hr : cellsEq ks xs ys = some r) :
    (execOp a.eval o).run Tryz.prog w = .ok (.value (.bool (neg ^^ r))) w := by
  unfold execOp
  rw [ho]
  cases neg
  · simp only [Bool.false_eq_true, if_false, F.eval hx, F.eval hy, Sem.run_bind, run_eqGuard_agg w .eql t x y _ _ he.k.2, Result.andThen_ok, run_eql_struct w t, run_eq_flat hr]
    simp
  · simp only [if_true, F.eval hx, F.eval hy, Sem.run_bind, run_eqGuard_agg w .neq t x y _ _ he.k.2, Result.andThen_ok, run_neq_struct w t, run_eq_flat hr]
    simp
def guardOf (o : Oper) (ops : Array Oper) (l : List (Nat × Value)) : Option Value := match o.guard with | some (j, _) => ((ops[j]?).bind (·.dst)).bind (look l) | none => none
theorem sx_guardb (F : Fr a n l) {b : Bool} (hg : guardOf o ops l = some (.bool b)) (h1 : b = true → wpList Tryz.prog ops Q (o :: rest) a w) (h2 : b = false → wpList Tryz.prog ops Q (o :: rest) a w) : wpList Tryz.prog ops Q (o :: rest) a w := by
  cases b
  · exact h2 rfl
  · exact h1 rfl
theorem cell_pt {L' : List Asn} {b i : Nat} {cs : List Value} {t' : TypeId} {v : Value} (M : Mem w L) (hp : Pull L (pt b cs t') L') (hv : cs[i]? = some v) : w.cell? ⟨b, i, none⟩ = some v := by
  have := M.pt hp
  simp [World.cell?, this, hv]
theorem free_pt {L' : List Asn} {b i : Nat} {cs : List Value} {t' : TypeId} (M : Mem w L) (hp : Pull L (pt b cs t') L') : w.frozen? ⟨b, i, none⟩ = false := by
  have := M.pt hp
  simp [World.frozen?, this]
theorem load_run1 (F : Fr a n l) (M : Mem w L) {t : TypeId} {x : Operand} (ho : o.op = .load t x) {b i : Nat} (hx : evl l x = some (.pointer (some ⟨b, i, none⟩))) (hkt : KT t none) {L' : List Asn} {cs : List Value} {t' : TypeId} (hp : Pull L (pt b cs t') L')
    {v : Value} (hv : cs[i]? = some v) : (execOp a.eval o).run Tryz.prog w = .ok (.value v) w := by
  unfold execOp
  rw [ho]
  simp [F.eval hx, Instr.loadAt, Instr.sureAddr, run_loadVar_one (cell_pt M hp hv)]
theorem load_runA (F : Fr a n l) (M : Mem w L) {t : TypeId} {x : Operand} (ho : o.op = .load t x) {b : Nat} (hx : evl l x = some (.pointer (some ⟨b, 0, none⟩))) {k : Nat} (hkt : KT t (some k)) {L' : List Asn} {cs : List Value} {t' : TypeId} (hp : Pull L (pt b cs t') L')
    (hk : cs.length = k) : (execOp a.eval o).run Tryz.prog w = .ok (.value (.agg cs.toArray)) w := by
  unfold execOp
  rw [ho]
  simp [F.eval hx, Instr.loadAt, Instr.sureAddr, run_loadVar_agg hk (fun j u hu => by rw [Nat.zero_add]; exact cell_pt M hp hu)]
theorem load_runS (F : Fr a n l) (M : Mem w L) {t : TypeId} {x : Operand} (ho : o.op = .load t x) {b i : Nat} (hx : evl l x = some (.pointer (some ⟨b, i, none⟩))) {k : Nat} (hkt : KT t (some k)) {L' : List Asn} {cs : List Value} {t' : TypeId} (hp : Pull L (pt b cs t') L')
    {ds : List Value} (hd : (cs.drop i).take k = ds) (hk : ds.length = k) : (execOp a.eval o).run Tryz.prog w = .ok (.value (.agg ds.toArray)) w := by
  unfold execOp
  rw [ho]
  simp only [F.eval hx, Instr.loadAt, Instr.sureAddr, Sem.run_bind, Sem.run_pure, Result.andThen_ok]
  rw [run_loadVar_agg hk (fun j u hu => cell_pt M hp (by
    rw [← hd] at hu
    rw [List.getElem?_take] at hu
    split at hu
    · rwa [List.getElem?_drop] at hu
    · cases hu))]
  rfl
theorem setCell_row {b i : Nat} {cs : List Value} {t : TypeId} {v : Value} (h : w.heap[b]? = some (.cells cs.toArray t (0, 0))) : w.setCell ⟨b, i, none⟩ v = w.setRow b (cs.set i v).toArray := by
  rw [setCell_eq_setRow w b i _ t (0, 0) v h]; simp
theorem all_one {cs : List Value} (h : cs.all (·.oneCell') = true) : ∀ v ∈ cs, v.oneCell' = true := fun v hv => List.all_eq_true.1 h v hv
/-! ### Calls -/
theorem run_callFunc (f : FuncId) [hf : FK f] (vs : Array Value) (w : World) : (callFunc f vs).run Tryz.prog w = .ok (.enter f vs) w := by
  have h := hf.k
  unfold callFunc
  cases hq : Tryz.prog.funcs[f]? with
  | none => rw [hq] at h; cases h
  | some fn =>
    rw [hq] at h
    simp only [Bool.and_eq_true, Bool.not_eq_true'] at h
    obtain ⟨h1, h2⟩ := h
    have h3 : fn.body.isNone = false := by cases hb : fn.body <;> simp_all
    simp only [Sem.run_bind, program, Sem.run, Result.andThen_ok, hq, h1, h3, Bool.false_eq_true, if_false]
    rfl
/-! ### Control -/
theorem sx_region {id : Nat} {os : List Oper} (h : wpList Tryz.prog os.toArray Q os a w) : (Code.region id os.toArray false).wp Tryz.prog Q a w := wp_region_lit h
section
variable {c : Operand} {x y : Code}
theorem sx_cond_t (F : Fr a n l) (hc : evl l c = some (.bool true)) (h : x.wp Tryz.prog Q a w) : (Code.cond c x y).wp Tryz.prog Q a w := wp_cond_true (F.eval hc) h
theorem sx_cond_f (F : Fr a n l) (hc : evl l c = some (.bool false)) (h : y.wp Tryz.prog Q a w) : (Code.cond c x y).wp Tryz.prog Q a w := wp_cond_false (F.eval hc) h
theorem sx_cond_b (F : Fr a n l) {b : Bool} (hc : evl l c = some (.bool b)) (h1 : b = true → x.wp Tryz.prog Q a w) (h2 : b = false → y.wp Tryz.prog Q a w) : (Code.cond c x y).wp Tryz.prog Q a w := wp_cond_split (F.eval hc) h1 h2
end
/-! ### The end -/
inductive Res (L : List Asn) (l : List (Nat × Value)) : ResultVar → Value → Prop where
  | tmp {t : Tmp} {v : Value} : look l t = some v → Res L l (.tmp t) v
  | one {t : Tmp} {ty : TypeId} {b i : Nat} {L' : List Asn} {cs : List Value} {t' : TypeId} {v : Value} : look l t = some (.pointer (some ⟨b, i, none⟩)) → KT ty none → Pull L (pt b cs t') L' → cs[i]? = some v → Res L l (.cell t ty) v
  | agg {t : Tmp} {ty : TypeId} {b k : Nat} {L' : List Asn} {cs : List Value} {t' : TypeId} : look l t = some (.pointer (some ⟨b, 0, none⟩)) → KT ty (some k) → Pull L (pt b cs t') L' → cs.length = k → Res L l (.cell t ty) (.agg cs.toArray)
inductive Ress (L : List Asn) (l : List (Nat × Value)) : List ResultVar → List Value → Prop where
  | nil : Ress L l [] []
  | cons {r : ResultVar} {v : Value} {rs : List ResultVar} {vs : List Value} : Res L l r v → Ress L l rs vs → Ress L l (r :: rs) (v :: vs)
theorem run_mapM_list {α β : Type} (f : α → Sem β) (P : Program) (w : World) : ∀ (xs : List α) (ys : List β), xs.length = ys.length → (∀ (i : Nat) (x : α) (y : β), xs[i]? = some x → ys[i]? = some y → (f x).run P w = .ok y w) → (xs.mapM f).run P w = .ok ys w
  | [], [], _, _ => by simp
  | x :: xs, y :: ys, h, hf => by
    have h1 := hf 0 x y rfl rfl
    have h2 := run_mapM_list f P w xs ys (by simpa using h) fun i x y hx hy => hf (i + 1) x y (by simpa using hx) (by simpa using hy)
    simp [List.mapM_cons, h1, h2]
  | [], _ :: _, h, _ => by simp at h
  | _ :: _, [], h, _ => by simp at h
def tupOf : List Value → Value
  | [v] => v
  | vs => .tuple vs.toArray
def res1 (tmps : Array Value) (r : ResultVar) : Sem Value :=
  match r with
  | .tmp t => pure (tmps.getD t undef)
  | .cell p t => do loadVar t (← asAddr (tmps.getD p undef))
theorem Ress.run {fn : Func} {rs : List ResultVar} {vs : List Value} (F : Fr a n l) (M : Mem w L) (h : Ress L l rs vs) (hf : fn.results = rs.toArray) : (results fn a.tmps).run Tryz.prog w = .ok (tupOf vs) w := by
  have hlen : rs.length = vs.length := by
    clear hf; induction h with
    | nil => rfl
    | cons _ _ ih => simp [ih]
  have hev : ∀ (i : Nat) (r : ResultVar) (v : Value), rs[i]? = some r → vs[i]? = some v → (res1 a.tmps r).run Tryz.prog w = .ok v w := by
    clear hf hlen
    induction h with
    | nil => intro i r v h; simp at h
    | cons h1 _ ih =>
      intro i r v hr hv
      cases i with
      | succ i => exact ih i r v (by simpa using hr) (by simpa using hv)
      | zero =>
        simp at hr hv
        subst hr; subst hv
        cases h1 with
        | tmp h => simp only [res1, (F.val _ _ h).2, Sem.run_pure]
        | one h hk hp hc => simp only [res1, (F.val _ _ h).2, asAddr, Sem.run_bind, Sem.run_pure, Result.andThen_ok, run_loadVar_one (cell_pt M hp hc)]
        | agg h hk hp hc => simp only [res1, (F.val _ _ h).2, asAddr, Sem.run_bind, Sem.run_pure, Result.andThen_ok, run_loadVar_agg hc (fun j u hu => by rw [Nat.zero_add]; exact cell_pt M hp hu)]
  have hm := run_mapM_list (res1 a.tmps) Tryz.prog w rs vs hlen hev
  have e : results fn a.tmps = (do let vs ← rs.toArray.mapM (res1 a.tmps); pure (if h : vs.size = 1 then vs[0] else .tuple vs)) := by
    unfold results; rw [hf]; rfl
  rw [e, List.mapM_toArray, Sem.run_bind]
  have hm2 : (List.toArray <$> List.mapM (res1 a.tmps) rs).run Tryz.prog w = .ok vs.toArray w := by
    rw [Sem.run_map, hm]; rfl
  rw [hm2]
  simp only [Result.andThen_ok]
  match vs with
  | [] => simp [tupOf]
  | [v] => simp [tupOf]
  | v :: u :: r => simp [tupOf]
theorem sx_end {fn : Func} {R : Ending → World → Prop} {rs : List ResultVar} {vs : List Value} (F : Fr a n l) (M : Mem w L) (hf : fn.results = rs.toArray) (hr : Ress L l rs vs) {v : Value} (hv : tupOf vs = v) (hR : R (.returned v) w) : bodyPost Tryz.prog fn R .normal a w :=
  bodyPost_end (by rw [hr.run F M hf, hv]) F.ds hR
theorem sx_ret {fn : Func} {R : Ending → World → Prop} {rs : List ResultVar} {vs : List Value} (F : Fr a n l) (M : Mem w L) (hf : fn.results = rs.toArray) (hr : Ress L l rs vs) {v : Value} (hv : tupOf vs = v) (hR : R (.returned v) w) : bodyPost Tryz.prog fn R .ret a w :=
  bodyPost_ret (by rw [hr.run F M hf, hv]) F.ds hR
end
end Go.Proofs.YtopbohbkhljjgaaGreat
end
section
namespace Go.Proofs.YtopbohbkhljjgaaGreat
open Go.RowKit
/-- What is asked once an operation has yielded this: the value v, and R of the world. -/
def fixUpon (P : Program) (v : Value) (R : World → Prop) : Result Next → Prop
  | .ok (.value u) w' => u = v ∧ R w'
  | .ok .skip w' => v = undef ∧ R w'
  | .ok (.enter f args) w' => Calls P f args w' fun e w'' => e = .returned v ∧ R w''
  | _ => False
theorem Oper.wp_of_fix {P : Program} {o : Oper} {a : Act} {w : World} {v : Value} {R : World → Prop} {K : Act → World → Prop} {Q : Exit → Act → World → Prop}
    (h : fixUpon P v R ((execOp a.eval o).run P w)) (hK : ∀ w', R w' → K (a.put o.dst v) w') : o.wp P a w K Q := by
  unfold Oper.wp
  generalize (execOp a.eval o).run P w = r at *
  cases r with
  | ok n w' =>
    cases n <;> simp only [fixUpon] at h <;> simp only [Oper.upon]
    case value u => rw [h.1]; exact hK _ h.2
    case skip => rw [← h.1]; exact hK _ h.2
    case enter f args => exact h.mono fun e w'' ⟨he, hr⟩ => by subst he; exact hK _ hr
  | halt x w' => simp only [fixUpon] at h
/-- What the law asks of a region, by reckoning: every edge points back; a slot is written by one operation alone; whoever looks at a slot that the region writes waits for its writer; no select. -/
def fixB (ops : Array Oper) : Bool :=
  (List.range ops.size).all fun i =>
    match ops[i]? with
    | none => false
    | some o =>
      (o.after.toList.all fun e => !Region.binds .any e || decide (e.on < i)) &&
      (match o.op with | .select .. => false | _ => true) &&
      ((List.range ops.size).all fun j =>
        match ops[j]? with
        | none => false
        | some p =>
          match p.dst with
          | none => true
          | some d =>
            (!(o.op.operands.toList.any fun x => match x with | .tmp t => t == d | _ => false) || (o.after.toList.any fun e => Region.binds .any e && e.on == j)) &&
            (match o.guard with | none => true | some (g, _) => !(g == j) || (o.after.toList.any fun e => Region.binds .any e && e.on == j)) &&
            (i == j || !(o.dst == some d)))
section
variable {P : Program} {ops : Array Oper} {a0 : Act} {T : Array Value}
/-- The frame's slots: what has been written is at its end, the rest as it was. -/
def AtFix (ops : Array Oper) (a0 : Act) (T : Array Value) (listed : Array Bool) (a : Act) : Prop :=
  a.defers = a0.defers ∧ a.tmps.size = a0.tmps.size ∧ ∀ t, ((∃ (j : Nat) (o : Oper), ops[j]? = some o ∧ o.dst = some t ∧ listed.getD j true = false) ∨ a.tmps.getD t undef = T.getD t undef) ∧
    ((∀ (j : Nat) (o : Oper), ops[j]? = some o → o.dst ≠ some t) → a.tmps.getD t undef = a0.tmps.getD t undef)
theorem fixB_spec (h : fixB ops = true) {i : Nat} {o : Oper} (hi : ops[i]? = some o) :
    (∀ e ∈ o.after, Region.binds .any e = true → e.on < i) ∧ (∀ cs b, o.op ≠ .select cs b) ∧
    (∀ (j : Nat) (p : Oper) (d : Tmp), ops[j]? = some p → p.dst = some d → ((.tmp d) ∈ o.op.operands → ∃ e ∈ o.after, Region.binds .any e = true ∧ e.on = j) ∧ (∀ g b, o.guard = some (g, b) → g = j → ∃ e ∈ o.after, Region.binds .any e = true ∧ e.on = j) ∧ (i ≠ j → o.dst ≠ some d)) := by
  have hlt : i < ops.size := (Array.getElem?_eq_some_iff.1 hi).1
  have h1 := List.all_eq_true.1 h i (List.mem_range.2 hlt)
  rw [hi] at h1
  simp only [Bool.and_eq_true] at h1
  obtain ⟨⟨ha, hs⟩, hj⟩ := h1
  refine ⟨fun e he hb => ?_, fun cs b hc => ?_, fun j p d hp hd => ?_⟩
  · have := List.all_eq_true.1 ha e (by simpa using he)
    simpa [hb] using this
  · rw [hc] at hs; simp at hs
  · have hlj : j < ops.size := (Array.getElem?_eq_some_iff.1 hp).1
    have h2 := List.all_eq_true.1 hj j (List.mem_range.2 hlj)
    rw [hp] at h2
    simp only [hd, Bool.and_eq_true, Bool.or_eq_true, Bool.not_eq_true'] at h2
    obtain ⟨⟨h3, h4⟩, h5⟩ := h2
    refine ⟨fun hm => ?_, fun g b hg hgj => ?_, fun hij hdd => ?_⟩
    · rcases h3 with h3 | h3
      · exfalso
        have : (o.op.operands.toList.any fun x => match x with | .tmp t => t == d | _ => false) = true := List.any_eq_true.2 ⟨.tmp d, by simpa using hm, by simp⟩
        rw [this] at h3; cases h3
      · obtain ⟨e, he, hb⟩ := List.any_eq_true.1 h3
        simp only [Bool.and_eq_true, beq_iff_eq] at hb
        exact ⟨e, by simpa using he, hb.1, hb.2⟩
    · rw [hg] at h4
      simp only [Bool.or_eq_true, Bool.not_eq_true'] at h4
      rcases h4 with h4 | h4
      · exfalso; simp [hgj] at h4
      · obtain ⟨e, he, hb⟩ := List.any_eq_true.1 h4
        simp only [Bool.and_eq_true, beq_iff_eq] at hb
        exact ⟨e, by simpa using he, hb.1, hb.2⟩
    · rcases h5 with h5 | h5
      · exact hij (by simpa using h5)
      · rw [hdd] at h5; simp at h5
theorem AtFix.slot {listed : Array Bool} {a : Act} (hB : fixB ops = true) (h : AtFix ops a0 T listed a) {i : Nat} {o : Oper} (hi : ops[i]? = some o) (hall : ∀ e ∈ o.after, Region.binds .any e = true → listed.getD e.on false = true)
    (hl : listed.size = ops.size) (t : Tmp) (ht : ∀ (j : Nat) (p : Oper), ops[j]? = some p → p.dst = some t → ∃ e ∈ o.after, Region.binds .any e = true ∧ e.on = j) : a.tmps.getD t undef = T.getD t undef := by
  rcases (h.2.2 t).1 with ⟨j, p, hp, hd, hn⟩ | h1
  · exfalso
    obtain ⟨e, he, hb, rfl⟩ := ht j p hp hd
    have h2 := hall e he hb
    have hlt : e.on < ops.size := (Array.getElem?_eq_some_iff.1 hp).1
    simp [hl, hlt] at hn h2
    rw [hn] at h2; cases h2
  · exact h1
theorem AtFix.put {listed : Array Bool} {a : Act} (hB : fixB ops = true) (h : AtFix ops a0 T listed a) {i : Nat} {o : Oper} (hi : ops[i]? = some o) (hl : listed.size = ops.size) {v : Value} (hv : ∀ d, o.dst = some d → v = T.getD d undef ∧ d < a0.tmps.size) :
    AtFix ops a0 T (listed.setIfInBounds i true) (a.put o.dst v) := by
  have hlt : i < ops.size := (Array.getElem?_eq_some_iff.1 hi).1
  cases hd : o.dst with
  | none =>
    refine ⟨h.1, h.2.1, fun t => ⟨?_, (h.2.2 t).2⟩⟩
    rcases (h.2.2 t).1 with ⟨j, p, hp, hpd, hn⟩ | h1
    · left
      refine ⟨j, p, hp, hpd, ?_⟩
      have hij : i ≠ j := fun e => by subst e; rw [hi] at hp; cases hp; rw [hd] at hpd; cases hpd
      rw [getD_set_ne true hij]; exact hn
    · exact .inr h1
  | some d =>
    obtain ⟨hv1, hv2⟩ := hv d hd
    refine ⟨h.1, by simp [Act.put, h.2.1], fun t => ?_⟩
    by_cases htd : t = d
    · subst htd
      refine ⟨.inr ?_, fun hno => absurd hd (hno i o hi)⟩
      simp [Act.put, h.2.1, hv2, hv1]
    · have e : (a.put (some d) v).tmps.getD t undef = a.tmps.getD t undef := by
        simp [Act.put, Array.getElem?_setIfInBounds, Ne.symm htd]
      rw [e]
      refine ⟨?_, (h.2.2 t).2⟩
      rcases (h.2.2 t).1 with ⟨j, p, hp, hpd, hn⟩ | h1
      · left
        refine ⟨j, p, hp, hpd, ?_⟩
        have hij : i ≠ j := fun e => by
          subst e; rw [hi] at hp; cases hp; rw [hd] at hpd; exact htd (Option.some.inj hpd).symm
        rw [getD_set_ne true hij]; exact hn
      · exact .inr h1
theorem ready_nil_all (hB : fixB ops = true) {listed : Array Bool} (hl : listed.size = ops.size) (h : Region.ready .any ops listed = []) : ∀ i, i < ops.size → listed.getD i true = true := by
  intro i
  induction i using Nat.strongRecOn with
  | ind i ih =>
    intro hi
    cases hu : listed.getD i true with
    | true => rfl
    | false =>
      exfalso
      have : i ∈ Region.ready .any ops listed := mem_ready.2 ⟨hu, ops[i], Array.getElem?_eq_getElem hi, fun e he hb => by
        have h1 := (fixB_spec hB (Array.getElem?_eq_getElem hi)).1 e he hb
        have h2 := ih e.on h1 (by omega)
        simpa [hl, Nat.lt_trans h1 hi] using h2⟩
      rw [h] at this; cases this
def unlisted (listed : Array Bool) : Nat := (listed.toList.filter (fun b => !b)).length
theorem unlisted_set {listed : Array Bool} {i : Nat} (h : i < listed.size) (hf : listed.getD i true = false) : unlisted (listed.setIfInBounds i true) + 1 = unlisted listed := by
  unfold unlisted
  have hf' : listed.toList[i]? = some false := by
    have : listed[i] = false := by simpa [h] using hf
    simp [h, this]
  rw [Array.toList_setIfInBounds]
  generalize listed.toList = l at *
  clear hf h
  induction l generalizing i with
  | nil => simp at hf'
  | cons b l ih =>
    cases i with
    | zero => simp at hf'; subst hf'; simp
    | succ i =>
      simp only [List.set_cons_succ, List.filter_cons]
      have := ih (by simpa using hf')
      cases b <;> simp <;> omega
theorem wpAny_fix {Q : Exit → Act → World → Prop} {J : Array Bool → World → Prop} (hB : fixB ops = true) (hT : ∀ (i : Nat) (o : Oper) (d : Tmp), ops[i]? = some o → o.dst = some d → d < a0.tmps.size)
    (hstep : ∀ (i : Nat) (o : Oper) (listed : Array Bool) (w : World), ops[i]? = some o → listed.size = ops.size → listed.getD i true = false → (∀ e ∈ o.after, Region.binds .any e = true → listed.getD e.on false = true) → J listed w →
      if Region.wanted o (yielded ops T) then ∃ v, (∀ d, o.dst = some d → v = T.getD d undef) ∧ fixUpon P v (J (listed.setIfInBounds i true)) ((execOp (⟨T, a0.defers⟩ : Act).eval o).run P w)
      else (∀ d, o.dst = some d → T.getD d undef = undef) ∧ J (listed.setIfInBounds i true) w)
    (hsz : T.size = a0.tmps.size)
    (hend : ∀ a w, AtFix ops a0 T (Array.replicate ops.size true) a → J (Array.replicate ops.size true) w → Q .normal a w) :
    ∀ (fuel : Nat) (listed : Array Bool) (a : Act) (w : World), listed.size = ops.size → unlisted listed ≤ fuel → AtFix ops a0 T listed a → J listed w → wpAny P .any ops Q fuel listed a w := by
  have stop : ∀ (listed : Array Bool) (a : Act) (w : World), listed.size = ops.size → AtFix ops a0 T listed a → J listed w → Region.ready .any ops listed = [] → Q .normal a w := fun listed a w hl hA hJ hr => by
    have e : listed = Array.replicate ops.size true := Array.ext (by simp [hl]) fun i h1 h2 => by
      have := ready_nil_all hB hl hr i (by omega)
      simpa [h1] using this
    subst e
    exact hend a w hA hJ
  intro fuel
  induction fuel with
  | zero =>
    intro listed a w hl hu hA hJ
    have hr : Region.ready .any ops listed = [] := by
      apply List.eq_nil_iff_forall_not_mem.2
      intro i hi
      obtain ⟨h1, o, ho, _⟩ := mem_ready.1 hi
      have hlt : i < listed.size := by rw [hl]; exact (Array.getElem?_eq_some_iff.1 ho).1
      have := unlisted_set hlt h1
      omega
    exact ⟨hr, stop listed a w hl hA hJ hr⟩
  | succ fuel ih =>
    intro listed a w hl hu hA hJ
    refine ⟨fun hr => stop listed a w hl hA hJ hr, fun i hi => ?_⟩
    obtain ⟨h1, o, ho, hall⟩ := mem_ready.1 hi
    have hlt : i < listed.size := by rw [hl]; exact (Array.getElem?_eq_some_iff.1 ho).1
    have hun := unlisted_set hlt h1
    obtain ⟨hb1, hb2, hb3⟩ := fixB_spec hB ho
    have hev : execOp a.eval o = execOp (⟨T, a0.defers⟩ : Act).eval o := execOp_congr o hb2 fun x hx => by
      cases x with
      | tmp t => exact hA.slot hB ho hall hl t fun j p hp hd => (hb3 j p t hp hd).1 hx
      | const v => rfl
      | global g => rfl
      | func f => rfl
    have hwa : Region.wanted o (yielded ops a.tmps) = Region.wanted o (yielded ops T) := by
      unfold Region.wanted
      cases hg : o.guard with
      | none => rfl
      | some gw =>
        obtain ⟨g, b⟩ := gw
        simp only []
        have : yielded ops a.tmps g = yielded ops T g := by
          unfold yielded
          cases hp : ops[g]? with
          | none => rfl
          | some p =>
            simp only [Option.bind_some]
            cases hd : p.dst with
            | none => rfl
            | some d =>
              simp only [Option.bind_some]
              have h2 := hA.slot hB ho hall hl d fun j p' hp' hd' => by
                by_cases hgj : g = j
                · subst hgj; exact (hb3 g p d hp hd).2.1 g b hg rfl
                · exact absurd hd' ((fixB_spec hB hp').2.2 g p d hp hd |>.2.2 (Ne.symm hgj))
              have hda : d < a.tmps.size := by rw [hA.2.1]; exact hT g p d hp hd
              have hdT : d < T.size := by rw [hsz]; exact hT g p d hp hd
              simp only [Array.getD, hda, hdT, dif_pos] at h2
              rw [Array.getElem?_eq_getElem hda, Array.getElem?_eq_getElem hdT]
              have h3 : a.tmps[d] = T[d] := by simpa using h2
              rw [h3]
        rw [this]
    have hs := hstep i o listed w ho hl h1 hall hJ
    unfold wpOp
    rw [ho]
    simp only []
    rw [hwa]
    split
    · rename_i hw
      rw [if_pos hw] at hs
      obtain ⟨v, hv, hf⟩ := hs
      left
      rw [← hev] at hf
      exact Oper.wp_of_fix hf fun w' hJ' => ih _ _ _ (by simp [hl]) (by omega) (hA.put hB ho hl fun d hd => ⟨hv d hd, hT i o d ho hd⟩) hJ'
    · rename_i hw
      rw [if_neg hw] at hs
      exact ih _ _ _ (by simp [hl]) (by omega) (hA.put hB ho hl fun d hd => ⟨(hs.1 d hd).symm, hT i o d ho hd⟩) hs.2
/-- **The law.** -/
theorem wp_region_fix {id : Nat} {Q : Exit → Act → World → Prop} {w : World} (J : Array Bool → World → Prop) (T : Array Value) (hm : P.follows .mixedOrders = true) (hB : fixB ops = true)
    (hT : ∀ (i : Nat) (o : Oper) (d : Tmp), ops[i]? = some o → o.dst = some d → d < a0.tmps.size) (hsz : T.size = a0.tmps.size) (hrest : ∀ t, (∀ (j : Nat) (o : Oper), ops[j]? = some o → o.dst ≠ some t) → T.getD t undef = a0.tmps.getD t undef)
    (h0 : J (Array.replicate ops.size false) { w with drawn := w.drawn + 1 })
    (hstep : ∀ (i : Nat) (o : Oper) (listed : Array Bool) (w : World), ops[i]? = some o → listed.size = ops.size → listed.getD i true = false → (∀ e ∈ o.after, Region.binds .any e = true → listed.getD e.on false = true) → J listed w →
      if Region.wanted o (yielded ops T) then ∃ v, (∀ d, o.dst = some d → v = T.getD d undef) ∧ fixUpon P v (J (listed.setIfInBounds i true)) ((execOp (⟨T, a0.defers⟩ : Act).eval o).run P w)
      else (∀ d, o.dst = some d → T.getD d undef = undef) ∧ J (listed.setIfInBounds i true) w)
    (hend : ∀ w', J (Array.replicate ops.size true) w' → Q .normal ⟨T, a0.defers⟩ w') : (Code.region id ops true).wp P Q a0 w := by
  refine wp_region_any hm (wpAny_fix (a0 := a0) (T := T) hB hT hstep hsz (fun a w' hA hJ => ?_) ops.size _ a0 _ (by simp) (by simp [unlisted]) ?_ h0)
  · have e : a = ⟨T, a0.defers⟩ := by
      obtain ⟨h1, h2, h3⟩ := hA
      obtain ⟨tm, df⟩ := a
      simp only at h1 h2 h3
      subst h1
      congr 1
      refine Array.ext (by omega) fun i hi1 hi2 => ?_
      rcases (h3 i).1 with ⟨j, o, ho, _, hn⟩ | h4
      · have hlt : j < ops.size := (Array.getElem?_eq_some_iff.1 ho).1
        simp [hlt] at hn
      · simpa [hi1, hi2] using h4
    rw [e]
    exact hend w' hJ
  · refine ⟨rfl, rfl, fun t => ⟨?_, fun _ => rfl⟩⟩
    by_cases h : ∃ (j : Nat) (o : Oper), ops[j]? = some o ∧ o.dst = some t
    · obtain ⟨j, o, ho, hd⟩ := h
      have hlt : j < ops.size := (Array.getElem?_eq_some_iff.1 ho).1
      exact .inl ⟨j, o, ho, hd, by simp [hlt]⟩
    · exact .inr (hrest t fun j o ho hd => h ⟨j, o, ho, hd⟩).symm
end
end Go.Proofs.YtopbohbkhljjgaaGreat
end
section
namespace Go.Proofs.YtopbohbkhljjgaaGreat
open Go.RowKit
set_option linter.unusedVariables false
set_option maxRecDepth 100000
/-- What is asked once an operation has yielded this. -/
def UponD (P : Program) (Φ : Value → World → Prop) : Result Next → Prop
  | .ok (.value u) w' => Φ u w'
  | .ok .skip w' => Φ undef w'
  | .ok (.enter f args) w' => Calls P f args w' fun e w'' => ∃ v, e = .returned v ∧ Φ v w''
  | _ => False
theorem UponD.mono {P : Program} {Φ Ψ : Value → World → Prop} {r : Result Next} (h : UponD P Φ r) (hi : ∀ v w, Φ v w → Ψ v w) : UponD P Ψ r := by
  cases r with
  | ok x w =>
    cases x <;> simp only [UponD] at h ⊢
    case value u => exact hi _ _ h
    case skip => exact hi _ _ h
    case enter f args => exact h.mono fun e w ⟨v, he, hv⟩ => ⟨v, he, hi _ _ hv⟩
  | halt x w => exact h
theorem UponD.wp {P : Program} {o : Oper} {a : Act} {w : World} {Φ : Value → World → Prop} {K : Act → World → Prop} {Q : Exit → Act → World → Prop}
    (h : UponD P Φ ((execOp a.eval o).run P w)) (hK : ∀ v w', Φ v w' → K (a.put o.dst v) w') : o.wp P a w K Q := by
  unfold Oper.wp
  generalize (execOp a.eval o).run P w = r at *
  cases r with
  | ok x w' =>
    cases x <;> simp only [UponD] at h <;> simp only [Oper.upon]
    case value u => exact hK _ _ h
    case skip => exact hK _ _ h
    case enter f args => exact h.mono fun e w'' ⟨v, he, hr⟩ => by subst he; exact hK _ _ hr
  | halt x w' => simp only [UponD] at h
/-! ### Ancestors -/
def befStep (acc : Array Nat) (o : Oper) : Array Nat := acc.push (o.after.foldl (fun s e => if Region.binds .any e then s ||| 2 ^ e.on ||| acc.getD e.on 0 else s) 0)
theorem before_eq (ops : Array Oper) : Region.before ops = ops.toList.foldl befStep #[] := by
  unfold Region.before
  rw [← Array.foldl_toList]; rfl
theorem bef_old : ∀ (l : List Oper) (acc : Array Nat) (k : Nat), k < acc.size → (l.foldl befStep acc).getD k 0 = acc.getD k 0
  | [], acc, k, _ => rfl
  | o :: l, acc, k, h => by
    rw [List.foldl_cons, bef_old l _ k (by simp [befStep]; omega)]
    simp [befStep, Array.getElem?_push, Nat.ne_of_lt h]
theorem bef_at : ∀ (l : List Oper) (acc : Array Nat) (i : Nat) (o : Oper), l[i]? = some o → ∃ acc' : Array Nat, acc'.size = acc.size + i ∧ (∀ k, k < acc.size + i → (l.foldl befStep acc).getD k 0 = acc'.getD k 0) ∧
    (l.foldl befStep acc).getD (acc.size + i) 0 = o.after.foldl (fun s e => if Region.binds .any e then s ||| 2 ^ e.on ||| acc'.getD e.on 0 else s) 0
  | [], _, _, _, h => by simp at h
  | p :: l, acc, 0, o, h => by
    simp at h; subst h
    refine ⟨acc, rfl, fun k hk => ?_, ?_⟩
    · exact bef_old (p :: l) acc k hk
    · rw [List.foldl_cons, Nat.add_zero, bef_old l _ acc.size (by simp [befStep])]
      simp [befStep]
  | p :: l, acc, i + 1, o, h => by
    obtain ⟨acc', h1, h2, h3⟩ := bef_at l (befStep acc p) i o (by simpa using h)
    have hs : (befStep acc p).size = acc.size + 1 := by simp [befStep]
    rw [hs] at h1 h2 h3
    refine ⟨acc', by omega, fun k hk => by rw [List.foldl_cons]; exact h2 k (by omega), ?_⟩
    rw [List.foldl_cons, show acc.size + (i + 1) = acc.size + 1 + i by omega]
    exact h3
theorem fold_bits (f : Edge → Nat) (j : Nat) : ∀ (l : List Edge) (s : Nat), (l.foldl (fun s e => if Region.binds .any e then s ||| 2 ^ e.on ||| f e else s) s).testBit j = true → s.testBit j = true ∨ ∃ e ∈ l, Region.binds .any e = true ∧ (e.on = j ∨ (f e).testBit j = true)
  | [], s, h => .inl h
  | e :: l, s, h => by
    rw [List.foldl_cons] at h
    rcases fold_bits f j l _ h with h1 | ⟨e', he, hb⟩
    · split at h1
      · rename_i hb
        rw [Nat.testBit_or, Nat.testBit_or, Nat.testBit_two_pow] at h1
        simp only [Bool.or_eq_true, decide_eq_true_eq] at h1
        rcases h1 with (h1 | h1) | h1
        · exact .inl h1
        · exact .inr ⟨e, by simp, hb, .inl h1⟩
        · exact .inr ⟨e, by simp, hb, .inr h1⟩
      · exact .inl h1
    · exact .inr ⟨e', by simp [he], hb⟩
theorem anc_listed {ops : Array Oper} {S : Nat → Prop} (hback : ∀ (i : Nat) (o : Oper), ops[i]? = some o → ∀ e ∈ o.after, Region.binds .any e = true → e.on < i)
    (hclosed : ∀ (i : Nat) (o : Oper), ops[i]? = some o → S i → ∀ e ∈ o.after, Region.binds .any e = true → S e.on) :
    ∀ (i : Nat) (o : Oper), ops[i]? = some o → (∀ e ∈ o.after, Region.binds .any e = true → S e.on) → ∀ j, ((Region.before ops).getD i 0).testBit j = true → S j := by
  intro i
  induction i using Nat.strongRecOn with
  | ind i ih =>
    intro o ho he j hj
    have ho' : ops.toList[i]? = some o := by simpa using ho
    obtain ⟨acc', h1, h2, h3⟩ := bef_at ops.toList #[] i o ho'
    rw [before_eq] at hj
    simp only [List.size_toArray, List.length_nil, Nat.zero_add] at h1 h2 h3
    rw [h3, ← Array.foldl_toList] at hj
    rcases fold_bits (fun e => acc'.getD e.on 0) j o.after.toList 0 hj with h | ⟨e, hm, hb, h⟩
    · simp at h
    · have hm' : e ∈ o.after := by simpa using hm
      have hlt := hback i o ho e hm' hb
      rcases h with h | h
      · rw [← h]; exact he e hm' hb
      · cases hoe : ops[e.on]? with
        | none =>
          have : ops.size ≤ e.on := by simpa using hoe
          have : i < ops.size := (Array.getElem?_eq_some_iff.1 ho).1
          omega
        | some oe =>
          refine ih e.on hlt oe hoe (fun e' he' hb' => hclosed e.on oe hoe (he e hm' hb) e' he' hb') j ?_
          rw [before_eq, h2 e.on hlt]; exact h
/-! ### The check -/
def lookS : List (Nat × List Nat) → Nat → List Nat
  | [], _ => []
  | (s, v) :: r, t => cond (Nat.beq s t) v (lookS r t)
def ordOK (ops : Array Oper) (B : Array Nat) (E Fl : List Nat) (S : List (Nat × List Nat)) : List Nat → List Nat → Bool
  | _, [] => true
  | done, i :: rest =>
    (match ops[i]? with
     | none => false
     | some o => o.after.all fun e => !Region.binds .any e || done.contains e.on) &&
    (Fl.contains i || done.all fun e => !(E.contains e || Fl.contains e) || (B.getD i 0).testBit e) && !done.contains i && (!E.contains i || done.all fun j => E.contains j || Fl.contains j || (B.getD i 0).testBit j || (lookS S i).contains j) && ordOK ops B E Fl S (i :: done) rest
def drawOK (ops : Array Oper) (E Fl : List Nat) (S : List (Nat × List Nat)) (σ : List Nat) (n : Nat) : Bool :=
  fixB ops && ordOK ops (Region.before ops) E Fl S [] σ && Nat.beq σ.length ops.size && ((List.range ops.size).all fun i => σ.contains i) && (Fl.all fun i => !E.contains i && (match ops[i]? with | some o => (match o.op, o.guard, o.dst with | .alloc _, none, some _ => true | _, _, _ => false) | none => false)) && ops.all fun o => match o.dst with | none => true | some d => Nat.ble (d + 1) n
section
variable {P : Program} {ops : Array Oper} {Q : Exit → Act → World → Prop} {n : Nat} {E Fl : List Nat} {S : List (Nat × List Nat)}
/-- The operation o reads v (or is not wanted). -/
def RdV (P : Program) (ops : Array Oper) (n : Nat) (o : Oper) (v : Value) (l : List (Nat × Value)) (L : List Asn) : Prop :=
  (Wanted o ops l = some true ∧ ∀ a w, Fr a n l → Mem w L → (execOp a.eval o).run P w = .ok (.value v) w) ∨ (Wanted o ops l = some false ∧ v = undef)
/-- Operation j reads what its slot holds. -/
def Rv (P : Program) (ops : Array Oper) (n : Nat) (j : Nat) (l : List (Nat × Value)) (L : List Asn) : Prop :=
  ∃ o v, ops[j]? = some o ∧ RdV P ops n o v l L ∧ ∀ t, o.dst = some t → look l t = some v
def Rvs (P : Program) (ops : Array Oper) (n : Nat) : List Nat → List (Nat × Value) → List Asn → Prop
  | [], _, _ => True
  | j :: r, l, L => Rv P ops n j l L ∧ Rvs P ops n r l L
theorem Rvs.mem {l : List (Nat × Value)} {L : List Asn} : ∀ {js : List Nat}, Rvs P ops n js l L → ∀ j ∈ js, Rv P ops n j l L
  | [], _, j, hj => by simp at hj
  | i :: r, h, j, hj => by
    rcases List.mem_cons.1 hj with rfl | hj
    · exact h.1
    · exact Rvs.mem h.2 j hj
/-- The operation acts; C is asked of what it yields and of memory behind it; whatever else there is stays. -/
def Acts (P : Program) (o : Oper) (l : List (Nat × Value)) (L : List Asn) (n : Nat) (C : Value → List Asn → Prop) : Prop := ∀ F a w, Fr a n l → Mem w (L ++ F) → UponD P (fun v w' => ∃ L', C v L' ∧ Mem w' (L' ++ F)) ((execOp a.eval o).run P w)
/-- The operation makes a new block of zero cells. -/
def News (P : Program) (o : Oper) (cs : List Value) (t : TypeId) : Prop := ∀ ρ w, (execOp ρ o).run P w = .ok (.value (.pointer (some ⟨w.heap.size, 0, none⟩))) (w.alloc (.cells cs.toArray t))
def PW (P : Program) (ops : Array Oper) (n : Nat) (Q : Exit → Act → World → Prop) (E Fl : List Nat) (S : List (Nat × List Nat)) : List Nat → List Nat → List (Nat × Value) → List Asn → Prop
  | [], _, l, L => ∀ a w, Fr a n l → Mem w L → Q .normal a w
  | i :: rest, done, l, L =>
    match ops[i]? with
    | none => False
    | some o =>
      if Fl.contains i then
        ∃ cs t, News P o cs t ∧ ∀ b, PW P ops n Q E Fl S rest (i :: done) (putL o.dst (.pointer (some ⟨b, 0, none⟩)) l) (pt b cs t :: L)
      else if E.contains i then
        (Wanted o ops l = some true ∧ Acts P o l L n fun v L' => Rvs P ops n (lookS S i) (putL o.dst v l) L' ∧ PW P ops n Q E Fl S rest (i :: done) (putL o.dst v l) L') ∨
        (Wanted o ops l = some false ∧ PW P ops n Q E Fl S rest (i :: done) (putL o.dst undef l) L)
      else ∃ v, RdV P ops n o v l L ∧ PW P ops n Q E Fl S rest (i :: done) (putL o.dst v l) L
/-- A frame with what is known laid over it. -/
def over (a : Act) (l : List (Nat × Value)) : Act := { a with tmps := Array.ofFn (n := a.tmps.size) fun i => (look l i.1).getD (a.tmps.getD i.1 undef) }
theorem over_fr {a : Act} {l : List (Nat × Value)} (hd : a.defers = []) (hs : a.tmps.size = n) (hl : ∀ t v, look l t = some v → t < n) : Fr (over a l) n l := by
  refine ⟨hd, by simp [over, hs], fun t v h => ⟨hl t v h, ?_⟩⟩
  have := hl t v h
  simp [over, hs, this, h]
theorem over_get {a : Act} {l : List (Nat × Value)} {t : Nat} (h : ∀ v, look l t = some v → a.tmps.getD t undef = v) : (over a l).tmps.getD t undef = a.tmps.getD t undef := by
  by_cases ht : t < a.tmps.size
  · cases hl : look l t with
    | none => simp [over, ht, hl]
    | some v =>
      have := h v hl
      simp only [Array.getD_eq_getD_getElem?] at this
      simp [over, ht, hl]
      simpa [ht] using this.symm
  · simp [over, ht]
theorem over_size (a : Act) (l : List (Nat × Value)) : (over a l).tmps.size = a.tmps.size := by simp [over]
/-- The slots at which an operation looks. -/
def looksAt (ops : Array Oper) (o : Oper) (t : Nat) : Prop := (.tmp t) ∈ o.op.operands ∨ ∃ g b p, o.guard = some (g, b) ∧ ops[g]? = some p ∧ p.dst = some t
theorem congr_over {a : Act} {l : List (Nat × Value)} {o : Oper} (hB : ∀ cs b, o.op ≠ .select cs b) (h : ∀ t, looksAt ops o t → ∀ v, look l t = some v → a.tmps.getD t undef = v) :
    execOp a.eval o = execOp (over a l).eval o ∧ Region.wanted o (yielded ops a.tmps) = Region.wanted o (yielded ops (over a l).tmps) := by
  constructor
  · refine execOp_congr o hB fun x hx => ?_
    cases x with
    | tmp t => exact (over_get (h t (.inl hx))).symm
    | const v => rfl
    | global g => rfl
    | func f => rfl
  · unfold Region.wanted
    cases hg : o.guard with
    | none => rfl
    | some gw =>
      obtain ⟨g, b⟩ := gw
      simp only []
      have : yielded ops a.tmps g = yielded ops (over a l).tmps g := by
        unfold yielded
        cases hp : ops[g]? with
        | none => rfl
        | some p =>
          simp only [Option.bind_some]
          cases hd : p.dst with
          | none => rfl
          | some d =>
            simp only [Option.bind_some]
            have h2 := over_get (a := a) (l := l) (h d (.inr ⟨g, b, p, hg, hp, hd⟩))
            have hsz := over_size a l
            by_cases hda : d < a.tmps.size
            · have hda' : d < (over a l).tmps.size := by rw [hsz]; exact hda
              simp only [Array.getD, hda, hda', dif_pos] at h2
              rw [Array.getElem?_eq_getElem hda, Array.getElem?_eq_getElem hda']
              have h3 : (over a l).tmps[d] = a.tmps[d] := by simpa using h2
              rw [h3]
            · rw [Array.getElem?_eq_none (Nat.le_of_not_lt hda), Array.getElem?_eq_none (Nat.le_of_not_lt (by rw [hsz]; exact hda))]
      rw [this]
def Valid (P : Program) (ops : Array Oper) (n : Nat) (l : List (Nat × Value)) (L : List Asn) (j : Nat) : Prop :=
  ∃ (o : Oper) (v : Value) (lj : List (Nat × Value)), ops[j]? = some o ∧ (∀ t, o.dst = some t → look l t = some v) ∧ (∀ t v, look lj t = some v → t < n) ∧ (∀ t, looksAt ops o t → ∀ u, look lj t = some u → look l t = some u) ∧ RdV P ops n o v lj L
theorem look_put {d t : Nat} {v : Value} {l : List (Nat × Value)} (h : d ≠ t) : look ((d, v) :: l) t = look l t := by simp [look, nbeq h]
theorem look_put_self {d : Nat} {v : Value} {l : List (Nat × Value)} : look ((d, v) :: l) d = some v := by simp [look, Nat.beq_refl]
theorem look_putL {ops : Array Oper} {l : List (Nat × Value)} (hn : ∀ (i : Nat) (o : Oper) (d : Nat), ops[i]? = some o → o.dst = some d → d < n) (hl : ∀ t u, look l t = some u → t < n) {k : Nat} {o : Oper} (ho : ops[k]? = some o) (v : Value) : ∀ t u, look (putL o.dst v l) t = some u → t < n := fun t u hu => by
  cases hd : o.dst with
  | none => rw [hd] at hu; exact hl t u hu
  | some t0 =>
    rw [hd] at hu
    by_cases ht : t0 = t
    · subst ht; exact hn k o t0 ho hd
    · rw [putL, look_put ht] at hu; exact hl t u hu
theorem look_put_cases {o : Oper} {v u : Value} {l : List (Nat × Value)} {t : Nat} (h : look (putL o.dst v l) t = some u) : (o.dst = some t ∧ u = v) ∨ (o.dst ≠ some t ∧ look l t = some u) := by
  cases hd : o.dst with
  | none => rw [hd] at h; exact .inr ⟨by simp, h⟩
  | some t0 =>
    rw [hd] at h
    by_cases ht : t0 = t
    · subst ht; rw [putL, look_put_self] at h; exact .inl ⟨rfl, (Option.some.inj h).symm⟩
    · rw [putL, look_put ht] at h; exact .inr ⟨by simp [ht], h⟩
theorem not_looks (hB : fixB ops = true) {done : List Nat} (hcl : ∀ j ∈ done, ∀ oj, ops[j]? = some oj → ∀ e ∈ oj.after, Region.binds .any e = true → e.on ∈ done) {i : Nat} {o : Oper} (hoi : ops[i]? = some o) (hni : i ∉ done) {t : Nat} (ht : o.dst = some t) :
    (∀ j ∈ done, ∀ oj, ops[j]? = some oj → ¬ looksAt ops oj t ∧ oj.dst ≠ some t) ∧ ¬ looksAt ops o t := by
  have key : ∀ (j : Nat) (oj : Oper), ops[j]? = some oj → looksAt ops oj t → ∃ e ∈ oj.after, Region.binds .any e = true ∧ e.on = i := by
    intro j oj hoj hlk
    have h1 := (fixB_spec hB hoj).2.2 i o t hoi ht
    rcases hlk with hlk | ⟨g, b, p, hg, hp, hpd⟩
    · exact h1.1 hlk
    · have hgi : g = i := by
        by_cases hgi : g = i
        · exact hgi
        · exact absurd ht ((fixB_spec hB hoi).2.2 g p t hp hpd |>.2.2 (Ne.symm hgi))
      exact h1.2.1 g b hg hgi
  refine ⟨fun j hj oj hoj => ⟨fun hlk => ?_, ?_⟩, fun hlk => ?_⟩
  · obtain ⟨e, hem, heb, heo⟩ := key j oj hoj hlk
    exact hni (heo ▸ hcl j hj oj hoj e hem heb)
  · have hij : j ≠ i := fun e => hni (e ▸ hj)
    exact ((fixB_spec hB hoj).2.2 i o t hoi ht).2.2 hij
  · obtain ⟨e, hem, heb, heo⟩ := key i o hoi hlk
    have := (fixB_spec hB hoi).1 e hem heb
    omega
theorem Valid.put (hB : fixB ops = true) {done : List Nat} (hcl : ∀ j ∈ done, ∀ oj, ops[j]? = some oj → ∀ e ∈ oj.after, Region.binds .any e = true → e.on ∈ done) {i : Nat} {o : Oper} (hoi : ops[i]? = some o) (hni : i ∉ done) {l : List (Nat × Value)} {L : List Asn} {v : Value} {j : Nat} (hj : j ∈ done)
    (h : Valid P ops n l L j) : Valid P ops n (putL o.dst v l) L j := by
  obtain ⟨oj, u, lj, h1, h2, h3, h4, h5⟩ := h
  cases hd : o.dst with
  | none => exact ⟨oj, u, lj, h1, h2, h3, h4, h5⟩
  | some t0 =>
    obtain ⟨k1, k2⟩ := (not_looks hB hcl hoi hni hd).1 j hj oj h1
    refine ⟨oj, u, lj, h1, fun t ht => ?_, h3, fun t hlk x hx => ?_, h5⟩
    · show look ((t0, v) :: l) t = some u
      rw [look_put (fun e => k2 (by rw [ht, e]))]; exact h2 t ht
    · show look ((t0, v) :: l) t = some x
      rw [look_put (fun e => by subst e; exact k1 hlk)]; exact h4 t hlk x hx
theorem RdV.more {o : Oper} {v : Value} {l : List (Nat × Value)} {L L' : List Asn} (h : RdV P ops n o v l L) (hp : ∀ w, Mem w L' → Mem w L) : RdV P ops n o v l L' := by
  rcases h with ⟨h1, h2⟩ | h
  · exact .inl ⟨h1, fun a w F M => h2 a w F (hp w M)⟩
  · exact .inr h
theorem Valid.more {l : List (Nat × Value)} {L L' : List Asn} {j : Nat} (h : Valid P ops n l L j) (hp : ∀ w, Mem w L' → Mem w L) : Valid P ops n l L' j := by
  obtain ⟨oj, u, lj, h1, h2, h3, h4, h5⟩ := h
  exact ⟨oj, u, lj, h1, h2, h3, h4, h5.more hp⟩
theorem Mem.drop_app {L F : List Asn} {w : World} (M : Mem w (L ++ F)) : Mem w L := by
  induction L generalizing w with
  | nil => exact Mem.nil w
  | cons A L ih =>
    obtain ⟨s, hs⟩ := M
    have key : ∀ (L : List Asn) (s : List Nat) (w : World), Sat (L ++ F) s w → ∃ s', Sat L s' w ∧ ∀ b ∈ s', b ∈ s := by
      intro L
      induction L with
      | nil => exact fun s w _ => ⟨[], .nil w, by simp⟩
      | cons A L ih =>
        intro s w hs
        cases hs with
        | cons h1 h2 h3 =>
          obtain ⟨s', k1, k2⟩ := ih _ _ h2
          refine ⟨_, .cons h1 k1 fun b hb hm => h3 b hb (k2 b hm), fun b hb => ?_⟩
          rcases List.mem_append.1 hb with hb | hb
          · exact List.mem_append.2 (.inl hb)
          · exact List.mem_append.2 (.inr (k2 b hb))
    obtain ⟨s', h, _⟩ := key (A :: L) s w hs
    exact ⟨s', h⟩
theorem pull_mid (L1 L2 : List Asn) (A : Asn) : Pull (L1 ++ A :: L2) A (L1 ++ L2) := by
  induction L1 with
  | nil => exact .here
  | cons X L1 ih => exact .there ih
theorem News.uniq {o : Oper} {cs cs' : List Value} {t t' : TypeId} (h : News P o cs t) (h' : News P o cs' t') : cs = cs' ∧ t = t' := by
  have h1 := h (fun _ => undef) { heap := #[], tape := fun _ _ => 0, drawn := 0, os := default, output := #[] }
  rw [h' (fun _ => undef) _] at h1
  have h2 := Result.ok.inj h1
  have h3 := congrArg World.heap h2.2
  simp [World.alloc] at h3
  exact ⟨h3.1.symm, h3.2.symm⟩
structure Pre (P : Program) (ops : Array Oper) (n : Nat) (Q : Exit → Act → World → Prop) (E Fl : List Nat) (S : List (Nat × List Nat)) (listed : Array Bool) (a : Act) (w : World) (done rest : List Nat) (l : List (Nat × Value)) (L : List Asn) (ear : List (Nat × Nat × Asn)) : Prop where
  pw : PW P ops n Q E Fl S rest done l L
  ord : ordOK ops (Region.before ops) E Fl S done rest = true
  perm : ∀ i, i < ops.size → i ∈ done ∨ i ∈ rest
  mem : Mem w (L ++ ear.map (·.2.2))
  early : ∀ x ∈ ear, ∃ o cs t d, ops[x.1]? = some o ∧ News P o cs t ∧ x.2.2 = pt x.2.1 cs t ∧ o.dst = some d ∧ a.tmps.getD d undef = .pointer (some ⟨x.2.1, 0, none⟩) ∧ Fl.contains x.1 = true ∧ listed.getD x.1 true = true ∧ x.1 ∉ done
  once : (ear.map (·.1)).Nodup
  sub : ∀ j, j < ops.size → listed.getD j true = true → j ∈ done ∨ j ∈ ear.map (·.1)
  effs : ∀ j ∈ done, (E.contains j = true ∨ Fl.contains j = true) → listed.getD j true = true
  dcl : ∀ j ∈ done, ∀ oj, ops[j]? = some oj → ∀ e ∈ oj.after, Region.binds .any e = true → e.on ∈ done
  closed : ∀ (j : Nat) (o : Oper), ops[j]? = some o → listed.getD j true = true → ∀ e ∈ o.after, Region.binds .any e = true → listed.getD e.on true = true
  ds : a.defers = []
  size : a.tmps.size = n
  lt : ∀ t v, look l t = some v → t < n
  slots : ∀ t v, look l t = some v → a.tmps.getD t undef = v ∨ (∃ j o, ops[j]? = some o ∧ listed.getD j true = false ∧ o.dst = some t) ∨ ∃ x ∈ ear, ∃ o, ops[x.1]? = some o ∧ o.dst = some t
  valid : ∀ j ∈ done, listed.getD j true = false → Valid P ops n l L j
def Head (E Fl : List Nat) (listed : Array Bool) (rest : List Nat) : Prop := ∀ i r, rest = i :: r → Fl.contains i = false ∧ E.contains i = true ∨ Fl.contains i = true ∧ listed.getD i true = false
/-- What comes next and only reads, or has been made already, is taken. -/
theorem norm (hB : fixB ops = true) (hn : ∀ (i : Nat) (o : Oper) (d : Nat), ops[i]? = some o → o.dst = some d → d < n) {listed : Array Bool} {a : Act} {w : World} :
    ∀ (rest done : List Nat) (l : List (Nat × Value)) (L : List Asn) (ear : List (Nat × Nat × Asn)), Pre P ops n Q E Fl S listed a w done rest l L ear → ∃ done' rest' l' L' ear', Pre P ops n Q E Fl S listed a w done' rest' l' L' ear' ∧ Head E Fl listed rest' := by
  intro rest
  induction rest with
  | nil => exact fun done l L ear I => ⟨done, [], l, L, ear, I, fun i r h => by cases h⟩
  | cons i rest ih =>
    intro done l L ear I
    have ho := I.ord
    rw [ordOK] at ho
    simp only [Bool.and_eq_true] at ho
    obtain ⟨⟨⟨⟨ho1, ho2⟩, ho3⟩, ho5⟩, ho4⟩ := ho
    have hni : i ∉ done := by simpa using ho3
    have h := I.pw
    rw [PW] at h
    cases hoi : ops[i]? with
    | none => rw [hoi] at h; exact h.elim
    | some o =>
      rw [hoi] at h ho1
      simp only at h
      have hlo : i < ops.size := (Array.getElem?_eq_some_iff.1 hoi).1
      have hedges : ∀ e ∈ o.after, Region.binds .any e = true → e.on ∈ done := fun e hem heb => by
        have := Array.all_eq_true_iff_forall_mem.1 ho1 e hem
        simpa [heb] using this
      have hcl' : ∀ j ∈ i :: done, ∀ oj, ops[j]? = some oj → ∀ e ∈ oj.after, Region.binds .any e = true → e.on ∈ i :: done := fun j hj oj hoj e hem heb => by
        rcases List.mem_cons.1 hj with rfl | hj
        · rw [hoi] at hoj; cases hoj
          exact List.mem_cons_of_mem _ (hedges e hem heb)
        · exact List.mem_cons_of_mem _ (I.dcl j hj oj hoj e hem heb)
      have hperm' : ∀ k, k < ops.size → k ∈ i :: done ∨ k ∈ rest := fun k hk => by
        rcases I.perm k hk with h | h
        · exact .inl (List.mem_cons_of_mem _ h)
        · rcases List.mem_cons.1 h with rfl | h
          · exact .inl (by simp)
          · exact .inr h
      by_cases hf : Fl.contains i = true
      ·
        by_cases hli : listed.getD i true = true
        · have hear := (I.sub i hlo hli).resolve_left hni
          obtain ⟨x, hx, hxi⟩ := List.mem_map.1 hear
          obtain ⟨e1, e2, rfl⟩ := List.append_of_mem hx
          obtain ⟨j, b, A⟩ := x
          simp only at hxi
          subst hxi
          obtain ⟨o', cs', t', d, q1, q2, q3, q4, q5, q6, q7, q8⟩ := I.early (j, b, A) hx
          simp only at q1 q3 q5 q6 q7 q8
          rw [hoi] at q1; cases q1
          simp only [hf, if_true] at h
          obtain ⟨cs, t, hnew, hpw⟩ := h
          obtain ⟨rfl, rfl⟩ := hnew.uniq q2
          subst q3
          have honce := I.once
          simp only [List.map_append, List.map_cons, List.nodup_append, List.nodup_cons, List.mem_cons] at honce
          obtain ⟨n1, ⟨n2, n3⟩, n4⟩ := honce
          have hjne : ∀ y ∈ e1 ++ e2, y.1 ≠ j := fun y hy e => by
            rcases List.mem_append.1 hy with hy | hy
            · exact n4 y.1 (List.mem_map.2 ⟨y, hy, rfl⟩) j (.inl rfl) e
            · exact n2 (List.mem_map.2 ⟨y, hy, e⟩)
          refine ih (j :: done) (putL o.dst (.pointer (some ⟨b, 0, none⟩)) l) (pt b cs t :: L) (e1 ++ e2) ⟨hpw b, ho4, hperm', ?_, fun y hy => ?_, ?_, fun k hk hkl => ?_, fun k hk hke => ?_, hcl', I.closed, I.ds, I.size, look_putL hn I.lt hoi _, fun s u hu => ?_, fun k hk hkl => ?_⟩
          · have M := I.mem
            simp only [List.map_append, List.map_cons] at M
            rw [← List.append_assoc] at M
            have := M.pull (pull_mid _ _ _)
            simpa using this
          · have hy' : y ∈ e1 ++ (j, b, pt b cs t) :: e2 := by
              rcases List.mem_append.1 hy with h | h
              · exact List.mem_append.2 (.inl h)
              · exact List.mem_append.2 (.inr (List.mem_cons_of_mem _ h))
            obtain ⟨oy, csy, ty, dy, r1, r2, r3, r4, r5, r6, r7, r8⟩ := I.early y hy'
            exact ⟨oy, csy, ty, dy, r1, r2, r3, r4, r5, r6, r7, fun hm => (List.mem_cons.1 hm).elim (fun e => hjne y hy e) r8⟩
          · simp only [List.map_append, List.nodup_append]
            exact ⟨n1, n3, fun p hp q hq => n4 p hp q (.inr hq)⟩
          · rcases I.sub k hk hkl with h | h
            · exact .inl (List.mem_cons_of_mem _ h)
            · simp only [List.map_append, List.map_cons, List.mem_append, List.mem_cons] at h
              rcases h with h | rfl | h
              · exact .inr (by simp [h])
              · exact .inl (by simp)
              · exact .inr (by simp only [List.map_append, List.mem_append]; exact .inr h)
          · rcases List.mem_cons.1 hk with rfl | hk
            · exact hli
            · exact I.effs k hk hke
          · rcases look_put_cases hu with ⟨h1, rfl⟩ | ⟨hne, h1⟩
            · rw [q4] at h1; cases h1; exact .inl q5
            · rcases I.slots s u h1 with h | h | ⟨x, hx2, ox, hox, hoxd⟩
              · exact .inl h
              · exact .inr (.inl h)
              · refine .inr (.inr ⟨x, ?_, ox, hox, hoxd⟩)
                rcases List.mem_append.1 hx2 with h | h
                · exact List.mem_append.2 (.inl h)
                · rcases List.mem_cons.1 h with rfl | h
                  · simp only at hox; rw [hoi] at hox; cases hox; exact absurd hoxd hne
                  · exact List.mem_append.2 (.inr h)
          · rcases List.mem_cons.1 hk with rfl | hk
            · rw [hli] at hkl; cases hkl
            · exact ((I.valid k hk hkl).put hB I.dcl hoi hni hk).more fun w M => M.drop
        · exact ⟨done, i :: rest, l, L, ear, I, fun k r e => by cases e; exact .inr ⟨hf, by simpa using hli⟩⟩
      · have hf' : Fl.contains i = false := by simpa using hf
        simp only [hf', Bool.false_eq_true, if_false] at h
        by_cases he : E.contains i = true
        · exact ⟨done, i :: rest, l, L, ear, I, fun k r e => by cases e; exact .inl ⟨hf', he⟩⟩
        · have he' : E.contains i = false := by simpa using he
          simp only [he', Bool.false_eq_true, if_false] at h
          obtain ⟨v, hrd, hpw⟩ := h
          have hli : listed.getD i true = false := by
            cases hli : listed.getD i true with
            | false => rfl
            | true =>
              rcases I.sub i hlo hli with h | h
              · exact absurd h hni
              · obtain ⟨x, hx, hxi⟩ := List.mem_map.1 h
                obtain ⟨_, _, _, _, _, _, _, _, _, q6, _⟩ := I.early x hx
                rw [hxi, hf'] at q6; cases q6
          have hvi : Valid P ops n (putL o.dst v l) L i := by
            refine ⟨o, v, l, hoi, fun t ht => by rw [ht]; exact look_put_self, I.lt, fun t hlk u hu => ?_, hrd⟩
            cases hd : o.dst with
            | none => exact hu
            | some t0 =>
              have := (not_looks hB I.dcl hoi hni hd).2
              show look ((t0, v) :: l) t = some u
              rw [look_put (fun e => by subst e; exact this hlk)]; exact hu
          refine ih (i :: done) (putL o.dst v l) L ear ⟨hpw, ho4, hperm', I.mem, fun y hy => ?_, I.once, fun k hk hkl => ?_, fun k hk hke => ?_, hcl', I.closed, I.ds, I.size, look_putL hn I.lt hoi _, fun s u hu => ?_, fun k hk hkl => ?_⟩
          · obtain ⟨oy, csy, ty, dy, r1, r2, r3, r4, r5, r6, r7, r8⟩ := I.early y hy
            exact ⟨oy, csy, ty, dy, r1, r2, r3, r4, r5, r6, r7, fun hm => (List.mem_cons.1 hm).elim (fun e => by rw [e, hf'] at r6; cases r6) r8⟩
          · rcases I.sub k hk hkl with h | h
            · exact .inl (List.mem_cons_of_mem _ h)
            · exact .inr h
          · rcases List.mem_cons.1 hk with rfl | hk
            · rw [he', hf'] at hke; rcases hke with h | h <;> cases h
            · exact I.effs k hk hke
          · rcases look_put_cases hu with ⟨h1, rfl⟩ | ⟨_, h1⟩
            · exact .inr (.inl ⟨i, o, hoi, hli, h1⟩)
            · exact I.slots s u h1
          · rcases List.mem_cons.1 hk with rfl | hk
            · exact hvi
            · exact (I.valid k hk hkl).put hB I.dcl hoi hni hk
theorem getD_set {listed : Array Bool} {i j : Nat} (hi : i < listed.size) : (listed.setIfInBounds i true).getD j true = (if i = j then true else listed.getD j true) := by
  by_cases h : i = j
  · subst h; simp [hi]
  · rw [if_neg h]
    simp [Array.getElem?_setIfInBounds, h]
/-- The floats: allocations that wait for nothing that they need. -/
def FlOK (P : Program) (ops : Array Oper) (Fl : List Nat) : Prop := ∀ i, Fl.contains i = true → ∀ o, ops[i]? = some o → o.guard = none ∧ (∃ d, o.dst = some d) ∧ ∃ cs t, News P o cs t
theorem pw_any (hB : fixB ops = true) (hn : ∀ (i : Nat) (o : Oper) (d : Nat), ops[i]? = some o → o.dst = some d → d < n) (hFl : FlOK P ops Fl) (hEF : ∀ i, Fl.contains i = true → E.contains i = false) :
    ∀ (fuel : Nat) (listed : Array Bool) (a : Act) (w : World), listed.size = ops.size → unlisted listed ≤ fuel → (∃ done rest l L ear, Pre P ops n Q E Fl S listed a w done rest l L ear ∧ Head E Fl listed rest) → wpAny P .any ops Q fuel listed a w := by
  have stop : ∀ (listed : Array Bool) (a : Act) (w : World), listed.size = ops.size → (∃ done rest l L ear, Pre P ops n Q E Fl S listed a w done rest l L ear ∧ Head E Fl listed rest) → Region.ready .any ops listed = [] → Q .normal a w := by
    intro listed a w hl ⟨done, rest, l, L, ear, I, hhead⟩ hr
    have hall := ready_nil_all hB hl hr
    cases rest with
    | cons i r =>
      exfalso
      have ho := I.ord
      rw [ordOK] at ho
      simp only [Bool.and_eq_true] at ho
      have hlt : i < ops.size := by
        cases hoi : ops[i]? with
        | none => have h1 := ho.1.1.1.1; rw [hoi] at h1; cases h1
        | some o => exact (Array.getElem?_eq_some_iff.1 hoi).1
      have hli := hall i hlt
      rcases hhead i r rfl with ⟨h1, h2⟩ | ⟨_, h2⟩
      · rcases I.sub i hlt hli with h | h
        · simp [h] at ho
        · obtain ⟨x, hx, hxi⟩ := List.mem_map.1 h
          obtain ⟨_, _, _, _, _, _, _, _, _, q6, _⟩ := I.early x hx
          rw [hxi, h1] at q6; cases q6
      · rw [hli] at h2; cases h2
    | nil =>
      have hpw := I.pw
      rw [PW] at hpw
      refine hpw a w ⟨I.ds, I.size, fun t v ht => ⟨I.lt t v ht, ?_⟩⟩ I.mem.drop_app
      rcases I.slots t v ht with h | ⟨j, o, hj, hf, _⟩ | ⟨x, hx, ox, hox, _⟩
      · exact h
      · have := hall j (Array.getElem?_eq_some_iff.1 hj).1
        rw [this] at hf; cases hf
      · obtain ⟨_, _, _, _, _, _, _, _, _, _, _, q8⟩ := I.early x hx
        exact absurd ((I.perm x.1 (Array.getElem?_eq_some_iff.1 hox).1).resolve_right (by simp)) q8
  intro fuel
  induction fuel with
  | zero =>
    intro listed a w hl hu hI
    have hr : Region.ready .any ops listed = [] := by
      apply List.eq_nil_iff_forall_not_mem.2
      intro i hi
      obtain ⟨h1, o, ho, _⟩ := mem_ready.1 hi
      have hlt : i < listed.size := by rw [hl]; exact (Array.getElem?_eq_some_iff.1 ho).1
      have := unlisted_set hlt h1
      omega
    exact ⟨hr, stop listed a w hl hI hr⟩
  | succ fuel ih =>
    intro listed a w hl hu hI
    refine ⟨fun hr => stop listed a w hl hI hr, fun i hi => ?_⟩
    obtain ⟨done, rest, l, L, ear, I, hhead⟩ := hI
    obtain ⟨h1, o, ho, hall0⟩ := mem_ready.1 hi
    have hlt : i < listed.size := by rw [hl]; exact (Array.getElem?_eq_some_iff.1 ho).1
    have hlo : i < ops.size := by rw [← hl]; exact hlt
    have hun := unlisted_set hlt h1
    obtain ⟨hb1, hb2, hb3⟩ := fixB_spec hB ho
    have hall : ∀ e ∈ o.after, Region.binds .any e = true → listed.getD e.on true = true := fun e hem heb => by
      have h2 := hall0 e hem heb
      have h3 := hb1 e hem heb
      have h4 : e.on < listed.size := by omega
      simpa [h4] using h2
    have hedge : ∀ (j : Nat) (oj : Oper) (t : Nat), ops[j]? = some oj → oj.dst = some t → looksAt ops o t → ∃ e ∈ o.after, Region.binds .any e = true ∧ e.on = j := fun j oj t hj hd hlk => by
      rcases hlk with hlk | ⟨g, b, p, hg, hp, hpd⟩
      · exact (hb3 j oj t hj hd).1 hlk
      · have hgj : g = j := by
          by_cases hgj : g = j
          · exact hgj
          · exact absurd hpd ((fixB_spec hB hp).2.2 j oj t hj hd |>.2.2 hgj)
        exact (hb3 j oj t hj hd).2.1 g b hg hgj
    have hslot : (∀ e ∈ o.after, Region.binds .any e = true → e.on ∈ done) → ∀ t, looksAt ops o t → ∀ u, look l t = some u → a.tmps.getD t undef = u := fun hdn t hlk u hu => by
      rcases I.slots t u hu with h | ⟨j, oj, hj, hf, hd⟩ | ⟨x, hx, ox, hox, hoxd⟩
      · exact h
      · exfalso
        obtain ⟨e, hem, heb, heo⟩ := hedge j oj t hj hd hlk
        have := hall e hem heb
        rw [heo, hf] at this; cases this
      · exfalso
        obtain ⟨e, hem, heb, heo⟩ := hedge x.1 ox t hox hoxd hlk
        obtain ⟨_, _, _, _, _, _, _, _, _, _, _, q8⟩ := I.early x hx
        exact q8 (heo ▸ hdn e hem heb)
    have hnd : ∀ t, o.dst = some t → t < n := fun t ht => hn i o t ho ht
    have hclosed' : ∀ (j : Nat) (oj : Oper), ops[j]? = some oj → (listed.setIfInBounds i true).getD j true = true → ∀ e ∈ oj.after, Region.binds .any e = true → (listed.setIfInBounds i true).getD e.on true = true := fun j oj hj hjl e hem heb => by
      rw [getD_set hlt] at hjl ⊢
      split
      · rfl
      · by_cases hij : i = j
        · subst hij; rw [ho] at hj; cases hj; exact hall e hem heb
        · rw [if_neg hij] at hjl; exact I.closed j oj hj hjl e hem heb

    have hother : ∀ (v : Value) (t : Nat), o.dst ≠ some t → (a.put o.dst v).tmps.getD t undef = a.tmps.getD t undef := fun v t htd => by
      cases hod : o.dst with
      | none => rfl
      | some t0 =>
        have : t0 ≠ t := fun e => htd (by rw [hod, e])
        simp [Act.put, Array.getElem?_setIfInBounds, this]
    have hown : ∀ (v : Value) (t : Nat), o.dst = some t → (a.put o.dst v).tmps.getD t undef = v := fun v t htd => by
      rw [htd]; simp [Act.put, I.size, hnd t htd]
    have hdst : ∀ (j : Nat) (oj : Oper) (t : Nat), ops[j]? = some oj → oj.dst = some t → i ≠ j → o.dst ≠ some t := fun j oj t hj ht hij h => (hb3 j oj t hj ht).2.2 hij h
    have hslots' : ∀ (v : Value) (t : Nat) (u : Value), look l t = some u → o.dst ≠ some t → (a.put o.dst v).tmps.getD t undef = u ∨ (∃ j oj, ops[j]? = some oj ∧ (listed.setIfInBounds i true).getD j true = false ∧ oj.dst = some t) ∨ ∃ x ∈ ear, ∃ o, ops[x.1]? = some o ∧ o.dst = some t := fun v t u hu htd => by
      rcases I.slots t u hu with h | ⟨j, oj, hj, hf, hd'⟩ | h
      · exact .inl (by rw [hother v t htd]; exact h)
      · refine .inr (.inl ⟨j, oj, hj, ?_, hd'⟩)
        have hij : i ≠ j := fun e => by subst e; rw [ho] at hj; cases hj; exact htd hd'
        rw [getD_set hlt, if_neg hij]; exact hf
      · exact .inr (.inr h)
    have hearly' : ∀ (v : Value) (done' : List Nat), (∀ k ∈ done', k ∈ done ∨ k = i) → Fl.contains i = false → ∀ x ∈ ear, ∃ o' cs t d, ops[x.1]? = some o' ∧ News P o' cs t ∧ x.2.2 = pt x.2.1 cs t ∧ o'.dst = some d ∧ (a.put o.dst v).tmps.getD d undef = .pointer (some ⟨x.2.1, 0, none⟩) ∧ Fl.contains x.1 = true ∧ (listed.setIfInBounds i true).getD x.1 true = true ∧ x.1 ∉ done' := fun v done' hd' hfi x hx => by
      obtain ⟨o', cs, t, d, q1, q2, q3, q4, q5, q6, q7, q8⟩ := I.early x hx
      have hix : i ≠ x.1 := fun e => by rw [← e, hfi] at q6; cases q6
      refine ⟨o', cs, t, d, q1, q2, q3, q4, by rw [hother v d (hdst x.1 o' d q1 q4 hix)]; exact q5, q6, by rw [getD_set hlt, if_neg hix]; exact q7, fun hm => ?_⟩
      rcases hd' _ hm with h | h
      · exact q8 h
      · exact hix h.symm
    unfold wpOp
    rw [ho]
    simp only []
    by_cases hdone : i ∈ done
    ·
      have hnE : E.contains i = false ∧ Fl.contains i = false := by
        constructor
        · cases hE : E.contains i with
          | false => rfl
          | true => have := I.effs i hdone (.inl hE); rw [this] at h1; cases h1
        · cases hE : Fl.contains i with
          | false => rfl
          | true => have := I.effs i hdone (.inr hE); rw [this] at h1; cases h1
      obtain ⟨o', v, lj, ho', hv1, hv2, hv3, hrd⟩ := I.valid i hdone h1
      rw [ho] at ho'; cases ho'
      have hsl : ∀ t, looksAt ops o t → ∀ u, look lj t = some u → a.tmps.getD t undef = u := fun t hlk u hu => hslot (I.dcl i hdone o ho) t hlk u (hv3 t hlk u hu)
      obtain ⟨c1, c2⟩ := congr_over (a := a) (l := lj) hb2 hsl
      have hF : Fr (over a lj) n lj := over_fr I.ds I.size hv2
      rw [c2]
      have next : Pre P ops n Q E Fl S (listed.setIfInBounds i true) (a.put o.dst v) w done rest l L ear := by
        refine ⟨I.pw, I.ord, I.perm, I.mem, hearly' v done (fun k hk => .inl hk) hnE.2, I.once, fun j hj hjl => ?_, fun j hj he => ?_, I.dcl, hclosed', (by cases o.dst <;> exact I.ds), ?_, I.lt, fun t u hu => ?_, fun j hj hjl => ?_⟩
        · rw [getD_set hlt] at hjl
          by_cases hij : i = j
          · exact .inl (hij ▸ hdone)
          · rw [if_neg hij] at hjl; exact I.sub j hj hjl
        · rw [getD_set hlt]; split
          · rfl
          · exact I.effs j hj he
        · cases o.dst <;> simp [Act.put, I.size]
        · by_cases htd : o.dst = some t
          · have hvt := hv1 t htd
            rw [hvt] at hu; cases hu
            exact .inl (hown _ t htd)
          · exact hslots' v t u hu htd
        · rw [getD_set hlt] at hjl
          split at hjl
          · cases hjl
          · exact I.valid j hj hjl
      have nhead : Head E Fl (listed.setIfInBounds i true) rest := fun k r hk => by
        rcases hhead k r hk with h | ⟨h2, h3⟩
        · exact .inl h
        · refine .inr ⟨h2, ?_⟩
          have hik : i ≠ k := fun e => by rw [e, h2] at hnE; exact absurd hnE.2 (by simp)
          rw [getD_set hlt, if_neg hik]; exact h3
      rcases hrd with ⟨k1, k2⟩ | ⟨k1, rfl⟩
      · rw [if_pos (hF.wanted k1)]
        left
        unfold Oper.wp
        rw [c1, k2 _ w hF I.mem.drop_app]
        exact ih _ _ _ (by simp [hl]) (by omega) ⟨_, _, _, _, _, next, nhead⟩
      · rw [if_neg (by rw [hF.wanted k1]; simp)]
        exact ih _ _ _ (by simp [hl]) (by omega) ⟨_, _, _, _, _, next, nhead⟩
    · have hirest : i ∈ rest := (I.perm i hlo).resolve_left hdone
      have hfin : ∀ (a' : Act) (w' : World) (done' rest' : List Nat) (l' : List (Nat × Value)) (L' : List Asn) (ear' : List (Nat × Nat × Asn)), Pre P ops n Q E Fl S (listed.setIfInBounds i true) a' w' done' rest' l' L' ear' → wpAny P .any ops Q fuel (listed.setIfInBounds i true) a' w' := fun a' w' done' rest' l' L' ear' hp => by
        obtain ⟨d2, r2, l2, L2, e2, hp2, hh2⟩ := norm hB hn rest' done' l' L' ear' hp
        exact ih _ _ _ (by simp [hl]) (by omega) ⟨d2, r2, l2, L2, e2, hp2, hh2⟩
      by_cases hfi : Fl.contains i = true
      ·
        obtain ⟨hg, ⟨d, hd⟩, cs, t, hnew⟩ := hFl i hfi o ho
        rw [if_pos (by simp [Region.wanted, hg])]
        left
        unfold Oper.wp
        rw [hnew a.eval w]
        have hnear : i ∉ ear.map (·.1) := fun hm => by
          obtain ⟨x, hx, hxi⟩ := List.mem_map.1 hm
          obtain ⟨_, _, _, _, _, _, _, _, _, _, q7, _⟩ := I.early x hx
          rw [hxi, h1] at q7; cases q7
        refine hfin _ _ done rest l L ((i, w.heap.size, pt w.heap.size cs t) :: ear) ⟨I.pw, I.ord, I.perm, ?_, fun x hx => ?_, ?_, fun j hj hjl => ?_, fun j hj he => ?_, I.dcl, hclosed', (by cases o.dst <;> exact I.ds), ?_, I.lt, fun t u hu => ?_, fun j hj hjl => ?_⟩
        · exact (I.mem.alloc cs t).push (pull_mid _ _ _)
        · rcases List.mem_cons.1 hx with rfl | hx
          · exact ⟨o, cs, t, d, ho, hnew, rfl, hd, hown _ d hd, hfi, by rw [getD_set hlt, if_pos rfl], hdone⟩
          · obtain ⟨o', cs', t', d', q1, q2, q3, q4, q5, q6, q7, q8⟩ := I.early x hx
            have hix : i ≠ x.1 := fun e => hnear (e ▸ List.mem_map.2 ⟨x, hx, rfl⟩)
            exact ⟨o', cs', t', d', q1, q2, q3, q4, by rw [hother _ d' (hdst x.1 o' d' q1 q4 hix)]; exact q5, q6, by rw [getD_set hlt, if_neg hix]; exact q7, q8⟩
        · simp only [List.map_cons, List.nodup_cons]
          exact ⟨hnear, I.once⟩
        · rw [getD_set hlt] at hjl
          by_cases hij : i = j
          · exact .inr (by simp [hij])
          · rw [if_neg hij] at hjl
            rcases I.sub j hj hjl with h | h
            · exact .inl h
            · exact .inr (by simp only [List.map_cons, List.mem_cons]; exact .inr h)
        · rw [getD_set hlt]; split
          · rfl
          · exact I.effs j hj he
        · cases o.dst <;> simp [Act.put, I.size]
        · by_cases htd : o.dst = some t
          · exact .inr (.inr ⟨_, List.mem_cons_self .., o, ho, htd⟩)
          · rcases hslots' (.pointer (some ⟨w.heap.size, 0, none⟩)) t u hu htd with h | h | ⟨x, hx, h⟩
            · exact .inl h
            · exact .inr (.inl h)
            · exact .inr (.inr ⟨x, List.mem_cons_of_mem _ hx, h⟩)
        · rw [getD_set hlt] at hjl
          split at hjl
          · cases hjl
          · exact I.valid j hj hjl
      ·
        have hfi' : Fl.contains i = false := by simpa using hfi
        have hanc := anc_listed (S := fun j => j < ops.size → listed.getD j true = true) (fun k ok hk => (fixB_spec hB hk).1) (fun k ok hk hS e hem heb hlt2 => I.closed k ok hk (hS (Array.getElem?_eq_some_iff.1 hk).1) e hem heb) i o ho (fun e hem heb _ => hall e hem heb)
        cases rest with
        | nil => simp at hirest
        | cons k r =>
          have hord0 := I.ord
          rw [ordOK] at hord0
          simp only [Bool.and_eq_true] at hord0
          obtain ⟨⟨⟨⟨g1, g2⟩, g3⟩, g5⟩, g4⟩ := hord0
          have hlk : k < ops.size := by
            cases hok : ops[k]? with
            | none => rw [hok] at g1; cases g1
            | some ok => exact (Array.getElem?_eq_some_iff.1 hok).1
          have hkd : k ∉ done := by simpa using g3
          have hkl : listed.getD k true = false := by
            rcases hhead k r rfl with ⟨q1, q2⟩ | ⟨_, q2⟩
            · cases hkl : listed.getD k true with
              | false => rfl
              | true =>
                rcases I.sub k hlk hkl with h | h
                · exact absurd h hkd
                · obtain ⟨x, hx, hxi⟩ := List.mem_map.1 h
                  obtain ⟨_, _, _, _, _, _, _, _, _, q6, _⟩ := I.early x hx
                  rw [hxi, q1] at q6; cases q6
            · exact q2
          have hEF' : E.contains k = true ∨ Fl.contains k = true := by
            rcases hhead k r rfl with ⟨_, q2⟩ | ⟨q2, _⟩
            · exact .inl q2
            · exact .inr q2
          have hki : k = i := by
            by_cases hki : k = i
            · exact hki
            · exfalso
              have hir : i ∈ r := by
                rcases List.mem_cons.1 hirest with h | h
                · exact absurd h.symm hki
                · exact h
              have hka : ∀ (r done : List Nat), ordOK ops (Region.before ops) E Fl S done r = true → i ∈ r → k ∈ done → ((Region.before ops).getD i 0).testBit k = true := by
                intro r
                induction r with
                | nil => intro done _ h; simp at h
                | cons x r ihr =>
                  intro done hor hix hkd
                  rw [ordOK] at hor
                  simp only [Bool.and_eq_true] at hor
                  obtain ⟨⟨⟨⟨_, q2⟩, _⟩, _⟩, q4⟩ := hor
                  rcases List.mem_cons.1 hix with rfl | hix
                  · rw [hfi', Bool.false_or] at q2
                    have := List.all_eq_true.1 q2 k hkd
                    rcases hEF' with h | h <;> rw [h] at this <;> simpa using this
                  · exact ihr (x :: done) q4 hix (List.mem_cons_of_mem _ hkd)
              have hb := hka r (k :: done) g4 hir (by simp)
              have := hanc k hb hlk
              rw [this] at hkl; cases hkl
          subst hki
          have hkE : E.contains k = true := hEF'.resolve_right (by rw [hfi']; simp)
          rw [ho] at g1
          have hedges : ∀ e ∈ o.after, Region.binds .any e = true → e.on ∈ done := fun e hem heb => by
            have := Array.all_eq_true_iff_forall_mem.1 g1 e hem
            simpa [heb] using this
          have hpw := I.pw
          rw [PW, ho] at hpw
          simp only [hfi', hkE, Bool.false_eq_true, if_false, if_true] at hpw
          obtain ⟨c1, c2⟩ := congr_over (a := a) (l := l) hb2 (hslot hedges)
          have hF : Fr (over a l) n l := over_fr I.ds I.size I.lt
          rw [c2]
          have hgo : ∀ (v : Value) (w' : World) (L' : List Asn), Mem w' (L' ++ ear.map (·.2.2)) → (∀ j ∈ done, listed.getD j true = false → Valid P ops n (putL o.dst v l) L' j) → PW P ops n Q E Fl S r (k :: done) (putL o.dst v l) L' → wpAny P .any ops Q fuel (listed.setIfInBounds k true) (a.put o.dst v) w' := by
            intro v w' L' hM hval hpw'
            refine hfin _ _ (k :: done) r (putL o.dst v l) L' ear ⟨hpw', g4, fun j hj => ?_, hM, hearly' v _ (fun j hj => (List.mem_cons.1 hj).symm) hfi', I.once, fun j hj hjl => ?_, fun j hj he => ?_, fun j hj oj hoj e hem heb => ?_, hclosed', (by cases o.dst <;> exact I.ds), ?_, look_putL hn I.lt ho _, fun t u hu => ?_, fun j hj hjl => ?_⟩
            · rcases I.perm j hj with h | h
              · exact .inl (List.mem_cons_of_mem _ h)
              · rcases List.mem_cons.1 h with rfl | h
                · exact .inl (by simp)
                · exact .inr h
            · rw [getD_set hlt] at hjl
              by_cases hkj : k = j
              · subst hkj; exact .inl (by simp)
              · rw [if_neg hkj] at hjl
                rcases I.sub j hj hjl with h | h
                · exact .inl (List.mem_cons_of_mem _ h)
                · exact .inr h
            · rw [getD_set hlt]
              by_cases hkj : k = j
              · rw [if_pos hkj]
              · rw [if_neg hkj]
                exact I.effs j ((List.mem_cons.1 hj).resolve_left (fun e => hkj e.symm)) he
            · rcases List.mem_cons.1 hj with rfl | hj
              · rw [ho] at hoj; cases hoj
                exact List.mem_cons_of_mem _ (hedges e hem heb)
              · exact List.mem_cons_of_mem _ (I.dcl j hj oj hoj e hem heb)
            · cases o.dst <;> simp [Act.put, I.size]
            · rcases look_put_cases hu with ⟨h, rfl⟩ | ⟨hne, h⟩
              · exact .inl (hown _ t h)
              · exact hslots' v t u h hne
            · rw [getD_set hlt] at hjl
              split at hjl
              · cases hjl
              · rename_i hkj
                exact hval j ((List.mem_cons.1 hj).resolve_left (fun e => hkj e.symm)) hjl
          rcases hpw with ⟨k1, k2⟩ | ⟨k1, k2⟩
          · rw [if_pos (hF.wanted k1)]
            left
            have hup := k2 (ear.map (·.2.2)) _ w hF I.mem
            rw [← c1] at hup
            refine hup.wp fun v w' ⟨L', ⟨hrev, e2⟩, hM⟩ => hgo v w' L' hM (fun j hjd hjl => ?_) e2
            have hjs : j < ops.size := by
              by_cases hjs : j < ops.size
              · exact hjs
              · have : listed.getD j true = true := by simp [hl, hjs]
                rw [this] at hjl; cases hjl
            have hej : E.contains j = false := by
              cases hej : E.contains j with
              | false => rfl
              | true => have := I.effs j hjd (.inl hej); rw [this] at hjl; cases hjl
            have hfj : Fl.contains j = false := by
              cases hej : Fl.contains j with
              | false => rfl
              | true => have := I.effs j hjd (.inr hej); rw [this] at hjl; cases hjl
            have hbj : ((Region.before ops).getD k 0).testBit j = false := by
              cases hbj : ((Region.before ops).getD k 0).testBit j with
              | false => rfl
              | true => have := hanc j hbj hjs; rw [this] at hjl; cases hjl
            have hjS : j ∈ lookS S k := by
              have h5 : (done.all fun j => E.contains j || Fl.contains j || ((Region.before ops).getD k 0).testBit j || (lookS S k).contains j) = true := by
                rw [hkE] at g5; simpa using g5
              have := List.all_eq_true.1 h5 j hjd
              simp only [hej, hfj, hbj, Bool.false_or] at this
              simpa using this
            obtain ⟨oj, vj, e1, e2, e3⟩ := hrev.mem j hjS
            exact ⟨oj, vj, putL o.dst v l, e1, e3, look_putL hn I.lt ho _, fun t _ u hu => hu, e2⟩
          · rw [if_neg (by rw [hF.wanted k1]; simp)]
            exact hgo undef w L I.mem (fun j hjd hjl => (I.valid j hjd hjl).put hB I.dcl ho hkd hjd) k2
/-- **A region that draws its order.** -/
theorem region_pw {id : Nat} {a : Act} {w : World} {l : List (Nat × Value)} {L : List Asn} {σ : List Nat} (hm : P.follows .mixedOrders = true) (hok : drawOK ops E Fl S σ n = true) (hFl : FlOK P ops Fl) (F : Fr a n l) (M : Mem w L) (h : PW P ops n Q E Fl S σ [] l L) : (Code.region id ops true).wp P Q a w := by
  simp only [drawOK, Bool.and_eq_true] at hok
  obtain ⟨⟨⟨⟨⟨hB, ho⟩, hlen⟩, hall⟩, hfl⟩, hds⟩ := hok
  have hn : ∀ (i : Nat) (o : Oper) (d : Nat), ops[i]? = some o → o.dst = some d → d < n := fun i o d hi hd => by
    have := Array.all_eq_true_iff_forall_mem.1 hds o (Array.mem_of_getElem? hi)
    rw [hd] at this
    exact Nat.le_of_ble_eq_true this
  have hEF : ∀ i, Fl.contains i = true → E.contains i = false := fun i hi => by
    have := List.all_eq_true.1 hfl i (by simpa using hi)
    simp only [Bool.and_eq_true, Bool.not_eq_true'] at this
    exact this.1
  have hrep : ∀ j, (Array.replicate ops.size false).getD j true = true → ops.size ≤ j := fun j hj => by
    by_cases hlt : j < ops.size
    · simp [hlt] at hj
    · omega
  obtain ⟨done', rest', l', L', ear', hp, hh⟩ := norm hB hn (listed := Array.replicate ops.size false) (a := a) (w := { w with drawn := w.drawn + 1 }) σ [] l L [] ⟨h, ho, fun i hi => .inr (by simpa using List.all_eq_true.1 hall i (List.mem_range.2 hi)), by rw [List.map_nil, List.append_nil]; exact M.drew _, by simp, by simp, fun j hj hjl => by have := hrep j hjl; omega, by simp, by simp,
    fun j o hj hjl => by have := hrep j hjl; have := (Array.getElem?_eq_some_iff.1 hj).1; omega, F.ds, F.size, fun t v ht => (F.val t v ht).1, fun t v ht => .inl (F.val t v ht).2, by simp⟩
  exact wp_region_any hm (pw_any hB hn hFl hEF ops.size _ a _ (by simp) (by simp [unlisted]) ⟨done', rest', l', L', ear', hp, hh⟩)
end
end Go.Proofs.YtopbohbkhljjgaaGreat
end
section
namespace Go.Proofs.YtopbohbkhljjgaaGreat
open Go.RowKit
set_option linter.unusedVariables false
set_option maxRecDepth 100000
set_option linter.unusedSimpArgs false
/-- An integer type. -/
class IK (t : TypeId) (k : outParam IntKind) : Prop where
  k : Tryz.prog.underlying t = some (.int k)
/-- A struct's fields: offset and cells. -/
class BP (t : TypeId) (ps : outParam (List (Nat × Nat))) : Prop where
  k : (match Tryz.prog.underlying t with | some (.struct fs) => fs.toList.mapM (fun f => (Tryz.prog.info? f.type).map fun i => (f.offset, i.size)) | _ => none) = some ps
/-- A boolean type. -/
class BT (t : TypeId) : Prop where
  k : Tryz.prog.underlying t = some .bool
/-- Of what is known of a frame, these slots alone (the newest of each), brought to a form. -/
def hasN : List Nat → Nat → Bool
  | [], _ => false
  | s :: r, t => cond (Nat.beq s t) true (hasN r t)
def filtO : List Nat → List (Nat × Value) → Option (List (Nat × Value))
  | _, [] => some []
  | keep, (s, v) :: r => match hasN keep s with
    | true => match filtO (keep.filter fun t => !Nat.beq s t) r with
      | some r' => some ((s, v) :: r')
      | none => none
    | false => filtO keep r
theorem filtO_look : ∀ (l : List (Nat × Value)) (keep : List Nat) {l' : List (Nat × Value)}, filtO keep l = some l' → ∀ t v, look l' t = some v → hasN keep t = true ∧ look l t = some v
  | [], keep, l', h, t, v, ht => by simp [filtO] at h; subst h; simp [look] at ht
  | (s, u) :: r, keep, l', h, t, v, ht => by
    simp only [filtO] at h
    cases hk : hasN keep s with
    | true =>
      rw [hk] at h
      simp only at h
      split at h
      · rename_i r' hr
        obtain rfl := Option.some.inj h
        simp only [look] at ht ⊢
        by_cases hst : s = t
        · subst hst
          rw [show Nat.beq s s = true from Nat.beq_refl s] at ht ⊢
          exact ⟨hk, ht⟩
        · rw [nbeq hst] at ht ⊢
          obtain ⟨h1, h2⟩ := filtO_look r _ hr t v ht
          refine ⟨?_, h2⟩
          have : ∀ (k : List Nat), hasN (k.filter fun t => !Nat.beq s t) t = true → hasN k t = true := by
            intro k
            induction k with
            | nil => simp [hasN]
            | cons x k ih =>
              intro hx
              simp only [hasN]
              by_cases hxt : x = t
              · subst hxt; rw [show Nat.beq x x = true from Nat.beq_refl x]; rfl
              · rw [nbeq hxt]
                refine ih ?_
                rw [List.filter_cons] at hx
                split at hx
                · simp only [hasN, nbeq hxt] at hx; exact hx
                · exact hx
          exact this keep h1
      · cases h
    | false =>
      rw [hk] at h
      simp only at h
      obtain ⟨h1, h2⟩ := filtO_look r keep h t v ht
      refine ⟨h1, ?_⟩
      simp only [look]
      have hst : s ≠ t := fun e => by rw [e, h1] at hk; cases hk
      rw [nbeq hst]; exact h2
theorem Fr.filt {a : Act} {n : Nat} {l l' : List (Nat × Value)} (F : Fr a n l) (keep : List Nat) (h : filtO keep l = some l') : Fr a n l' :=
  ⟨F.ds, F.size, fun t v ht => F.val t v (filtO_look l keep h t v ht).2⟩
section
variable {ops : Array Oper} {Q : Exit → Act → World → Prop} {rest : List Oper} {o : Oper} {a : Act} {w : World} {n : Nat} {l : List (Nat × Value)} {L : List Asn}
/-- The operation yields v and leaves memory alone. -/
def RT (o : Oper) (l : List (Nat × Value)) (L : List Asn) (n : Nat) (v : Value) : Prop := ∀ a w, Fr a n l → Mem w L → (execOp a.eval o).run Tryz.prog w = .ok (.value v) w
/-- The operation acts; C is asked of what it yields and of memory behind it. -/
def AC (o : Oper) (l : List (Nat × Value)) (L : List Asn) (n : Nat) (C : Value → List Asn → Prop) : Prop := Acts Tryz.prog o l L n C
/-- A called function's contract. -/
def Spec (k : FuncId) (us : List Value) (L : List Asn) (C : Value → List Asn → Prop) : Prop := ∀ G w, Mem w (L ++ G) → Calls Tryz.prog k us.toArray w fun e w' => ∃ v L', e = .returned v ∧ C v L' ∧ Mem w' (L' ++ G)
theorem Spec.mono {k : FuncId} {us : List Value} {C D : Value → List Asn → Prop} (h : Spec k us L C) (hi : ∀ v L', C v L' → D v L') : Spec k us L D :=
  fun G w M => (h G w M).mono fun e w' ⟨v, L', he, hc, hm⟩ => ⟨v, L', he, hi _ _ hc, hm⟩
theorem Pull.app {L L' : List Asn} {A : Asn} (h : Pull L A L') (G : List Asn) : Pull (L ++ G) A (L' ++ G) := by
  induction h with
  | here => exact .here
  | there _ ih => exact .there ih
theorem Rep.app {L L' : List Asn} {A B : Asn} (h : Rep L A B L') (G : List Asn) : Rep (L ++ G) A B (L' ++ G) := by
  induction h with
  | here => exact .here
  | there _ ih => exact .there ih
/-! ### Order of the parts -/
inductive Perms : List Asn → List Asn → Prop where
  | nil {L : List Asn} : Perms L []
  | rest {L : List Asn} : Perms L L
  | cons {L L1 R : List Asn} {A : Asn} : Pull L A L1 → Perms L1 R → Perms L (A :: R)
  | skip {L R : List Asn} {A : Asn} : Perms L R → Perms (A :: L) R
theorem Sat.drop_pre {G : List Asn} : ∀ (L : List Asn) {s : List Nat} {w : World}, Sat (L ++ G) s w → ∃ s', Sat G s' w ∧ ∀ b ∈ s', b ∈ s
  | [], s, w, h => ⟨s, h, fun _ h => h⟩
  | A :: L, s, w, h => by
    cases h with
    | cons _ h2 _ =>
      obtain ⟨s', k1, k2⟩ := Sat.drop_pre L h2
      exact ⟨s', k1, fun b hb => List.mem_append.2 (.inr (k2 b hb))⟩
theorem Sat.perms {L L' : List Asn} (h : Perms L L') (G : List Asn) : ∀ {s : List Nat} {w : World}, Sat (L ++ G) s w → ∃ s', Sat (L' ++ G) s' w ∧ ∀ b ∈ s', b ∈ s := by
  induction h with
  | nil => exact fun hs => Sat.drop_pre _ hs
  | rest => exact fun hs => ⟨_, hs, fun _ h => h⟩
  | skip _ ih =>
    intro s w hs
    cases hs with
    | cons _ h2 _ =>
      obtain ⟨s', k1, k2⟩ := ih h2
      exact ⟨s', k1, fun b hb => List.mem_append.2 (.inr (k2 b hb))⟩
  | cons hp _ ih =>
    intro s w hs
    obtain ⟨s1, k1, k2⟩ := hs.pull (hp.app G)
    cases k1 with
    | @cons _ _ sa ra _ m1 m2 m3 =>
      obtain ⟨s2, q1, q2⟩ := ih m2
      refine ⟨_, .cons m1 q1 fun b hb hm => m3 b hb (q2 b hm), fun b hb => ?_⟩
      rcases List.mem_append.1 hb with hb | hb
      · exact (k2 b).1 (by simp [hb])
      · exact (k2 b).1 (by simp [q2 b hb])
theorem Mem.permsG {L L' : List Asn} {w : World} {G : List Asn} (M : Mem w (L ++ G)) (h : Perms L L') : Mem w (L' ++ G) := by
  obtain ⟨s, hs⟩ := M
  obtain ⟨s', h1, _⟩ := hs.perms h G
  exact ⟨s', h1⟩
theorem Mem.perms {L L' : List Asn} {w : World} (M : Mem w L) (h : Perms L L') : Mem w L' := by
  have := Mem.permsG (G := []) (by simpa using M) h
  simpa using this
theorem Spec.pre {k : FuncId} {us : List Value} {C : Value → List Asn → Prop} {L' : List Asn} (h : Spec k us L' C) (hp : Perms L L') : Spec k us L C := fun G w M => h G w (M.permsG hp)
/-- A contract over a part of memory; the rest stays. -/
theorem Spec.frame {k : FuncId} {us : List Value} {C D : Value → List Asn → Prop} {L1 R : List Asn} (h : Spec k us L1 D) (hp : Perms L (L1 ++ R)) (hc : ∀ v L', D v L' → C v (L' ++ R)) : Spec k us L C := fun G w M => by
  have M1 := M.permsG hp
  rw [List.append_assoc] at M1
  exact (h (R ++ G) w M1).mono fun e w' ⟨v, L', he, hd, hm⟩ => ⟨v, L' ++ R, he, hc _ _ hd, by rw [List.append_assoc]; exact hm⟩
theorem Spec.of_below {k : FuncId} {us : List Value} {v : Value} {C : Value → List Asn → Prop} (h : ∀ w, Calls Tryz.prog k us.toArray w fun e w' => e = .returned v ∧ Below w.heap.size w w') (hC : C v L) : Spec k us L C :=
  fun G w M => (h w).mono fun e w' ⟨he, hb⟩ => ⟨v, L, he, hC, M.of_below hb⟩
/-! ### In a list of operations -/
theorem sv_run (F : Fr a n l) (M : Mem w L) (hw : Wanted o ops l = some true) {d : Nat} (hd : o.dst = some d) (hn : Nat.ble (d + 1) n = true) {v : Value} (hr : RT o l L n v)
    (h : ∀ a', Fr a' n ((d, v) :: l) → wpList Tryz.prog ops Q rest a' w) : wpList Tryz.prog ops Q (o :: rest) a w := sx_val F hw hd hn (hr a w F M) h
theorem upon_wpList (F : Fr a n l) (hw : Wanted o ops l = some true) {Φ : Value → World → Prop} (hu : UponD Tryz.prog Φ ((execOp a.eval o).run Tryz.prog w)) (h : ∀ v w', Φ v w' → wpList Tryz.prog ops Q rest (a.put o.dst v) w') : wpList Tryz.prog ops Q (o :: rest) a w := by
  unfold wpList
  rw [if_pos (F.wanted hw)]
  exact .inl (hu.wp h)
theorem sv_act (F : Fr a n l) (M : Mem w L) (hw : Wanted o ops l = some true) {d : Nat} (hd : o.dst = some d) (hn : Nat.ble (d + 1) n = true)
    (h : AC o l L n (fun v L' => ∀ a' w', Fr a' n ((d, v) :: l) → Mem w' L' → wpList Tryz.prog ops Q rest a' w')) : wpList Tryz.prog ops Q (o :: rest) a w :=
  upon_wpList F hw (h [] a w F (by simpa using M)) fun v w' ⟨L', hC, hM⟩ => by rw [hd]; exact hC _ _ (F.put d v hn) (by simpa using hM)
theorem sv_act0 (F : Fr a n l) (M : Mem w L) (hw : Wanted o ops l = some true) (hd : o.dst = none)
    (h : AC o l L n (fun v L' => ∀ w', Mem w' L' → wpList Tryz.prog ops Q rest a w')) : wpList Tryz.prog ops Q (o :: rest) a w :=
  upon_wpList F hw (h [] a w F (by simpa using M)) fun v w' ⟨L', hC, hM⟩ => by rw [hd]; exact hC _ (by simpa using hM)
section
variable {E Fl : List Nat} {S : List (Nat × List Nat)} {σ done : List Nat} {i : Nat}
theorem pv_nil (h : ∀ a' w', Fr a' n l → Mem w' L → Q .normal a' w') : PW Tryz.prog ops n Q E Fl S [] done l L := h
theorem pv_run (hi : ops[i]? = some o) (hf : Fl.contains i = false) (he : E.contains i = false) (hw : Wanted o ops l = some true) {d : Nat} (hd : o.dst = some d) {v : Value} (hr : RT o l L n v)
    (h : PW Tryz.prog ops n Q E Fl S σ (i :: done) ((d, v) :: l) L) : PW Tryz.prog ops n Q E Fl S (i :: σ) done l L := by
  rw [PW, hi]
  simp only [hf, he, Bool.false_eq_true, if_false]
  refine ⟨v, .inl ⟨hw, hr⟩, ?_⟩
  rw [hd]; exact h
theorem pv_skip (hi : ops[i]? = some o) (hf : Fl.contains i = false) (he : E.contains i = false) (hw : Wanted o ops l = some false) {d : Nat} (hd : o.dst = some d)
    (h : PW Tryz.prog ops n Q E Fl S σ (i :: done) ((d, undef) :: l) L) : PW Tryz.prog ops n Q E Fl S (i :: σ) done l L := by
  rw [PW, hi]
  simp only [hf, he, Bool.false_eq_true, if_false]
  refine ⟨undef, .inr ⟨hw, rfl⟩, ?_⟩
  rw [hd]; exact h
theorem pv_skipE (hi : ops[i]? = some o) (hf : Fl.contains i = false) (he : E.contains i = true) (hw : Wanted o ops l = some false) {d : Nat} (hd : o.dst = some d)
    (h : PW Tryz.prog ops n Q E Fl S σ (i :: done) ((d, undef) :: l) L) : PW Tryz.prog ops n Q E Fl S (i :: σ) done l L := by
  rw [PW, hi]
  simp only [hf, he, Bool.false_eq_true, if_false, if_true]
  refine .inr ⟨hw, ?_⟩
  rw [hd]; exact h
theorem pv_skipE0 (hi : ops[i]? = some o) (hf : Fl.contains i = false) (he : E.contains i = true) (hw : Wanted o ops l = some false) (hd : o.dst = none)
    (h : PW Tryz.prog ops n Q E Fl S σ (i :: done) l L) : PW Tryz.prog ops n Q E Fl S (i :: σ) done l L := by
  rw [PW, hi]
  simp only [hf, he, Bool.false_eq_true, if_false, if_true]
  refine .inr ⟨hw, ?_⟩
  rw [hd]; exact h
theorem pv_act (hi : ops[i]? = some o) (hf : Fl.contains i = false) (he : E.contains i = true) (hw : Wanted o ops l = some true) {d : Nat} (hd : o.dst = some d) {js : List Nat} (hj : lookS S i = js)
    (h : AC o l L n (fun v L' => Rvs Tryz.prog ops n js ((d, v) :: l) L' ∧ PW Tryz.prog ops n Q E Fl S σ (i :: done) ((d, v) :: l) L')) : PW Tryz.prog ops n Q E Fl S (i :: σ) done l L := by
  subst hj
  rw [PW, hi]
  simp only [hf, he, Bool.false_eq_true, if_false, if_true]
  refine .inl ⟨hw, ?_⟩
  rw [hd]; exact h
theorem pv_act0 (hi : ops[i]? = some o) (hf : Fl.contains i = false) (he : E.contains i = true) (hw : Wanted o ops l = some true) (hd : o.dst = none) {js : List Nat} (hj : lookS S i = js)
    (h : AC o l L n (fun v L' => Rvs Tryz.prog ops n js l L' ∧ PW Tryz.prog ops n Q E Fl S σ (i :: done) l L')) : PW Tryz.prog ops n Q E Fl S (i :: σ) done l L := by
  subst hj
  rw [PW, hi]
  simp only [hf, he, Bool.false_eq_true, if_false, if_true]
  refine .inl ⟨hw, ?_⟩
  rw [hd]; exact h
theorem zero_run {t : TypeId} {cs : List Value} (hz : ZT t cs) : ∃ i z, Tryz.prog.info? t = some i ∧ i.zero = some z ∧ z.cells = cs.toArray := by
  have h1 := hz.k
  cases hi : Tryz.prog.info? t with
  | none => rw [hi] at h1; cases h1
  | some i =>
    rw [hi] at h1
    have h2 : i.zero.map Value.cells = some cs.toArray := Option.some.inj h1
    cases hzz : i.zero with
    | none => rw [hzz] at h2; cases h2
    | some z =>
      rw [hzz] at h2
      exact ⟨i, z, rfl, hzz, Option.some.inj h2⟩
theorem news_alloc {t : TypeId} (ho : o.op = .alloc t) {cs : List Value} (hz : ZT t cs) : News Tryz.prog o cs t := fun ρ w => by
  obtain ⟨i, z, hi, hzz, h3⟩ := zero_run hz
  unfold execOp
  rw [ho]
  simp [Instr.alloc, zeroValue, typeInfo, hi, hzz, newVar, newRow, newObj, Sem.run, h3]
theorem pv_float (hi : ops[i]? = some o) (hf : Fl.contains i = true) {t : TypeId} (ho : o.op = .alloc t) {cs : List Value} (hz : ZT t cs) {d : Nat} (hd : o.dst = some d)
    (h : ∀ b, PW Tryz.prog ops n Q E Fl S σ (i :: done) ((d, .pointer (some ⟨b, 0, none⟩)) :: l) (pt b cs t :: L)) : PW Tryz.prog ops n Q E Fl S (i :: σ) done l L := by
  rw [PW, hi]
  simp only [hf, if_true]
  refine ⟨cs, t, news_alloc ho hz, fun b => ?_⟩
  rw [hd]; exact h b
theorem flok_nil : FlOK Tryz.prog ops [] := fun i h => by simp at h
theorem flok_cons {j : Nat} {js : List Nat} (hi : ops[j]? = some o) {t : TypeId} (ho : o.op = .alloc t) {cs : List Value} (hz : ZT t cs) (hg : o.guard = none) {d : Nat} (hd : o.dst = some d) (h : FlOK Tryz.prog ops js) : FlOK Tryz.prog ops (j :: js) := fun i h' p hp => by
  rw [List.contains_cons, Bool.or_eq_true] at h'
  rcases h' with h' | h'
  · obtain rfl : i = j := by simpa using h'
    rw [hi] at hp; cases hp
    exact ⟨hg, ⟨d, hd⟩, cs, t, news_alloc ho hz⟩
  · exact h i h' p hp
theorem rvs_nil : Rvs Tryz.prog ops n [] l L := trivial
theorem rvs_run {j : Nat} {js : List Nat} (hi : ops[j]? = some o) (hw : Wanted o ops l = some true) {d : Nat} (hd : o.dst = some d) {v : Value} (hv : look l d = some v) (hr : RT o l L n v) (h : Rvs Tryz.prog ops n js l L) : Rvs Tryz.prog ops n (j :: js) l L :=
  ⟨⟨o, v, hi, .inl ⟨hw, hr⟩, fun t ht => by rw [hd] at ht; cases ht; exact hv⟩, h⟩
theorem rvs_skip {j : Nat} {js : List Nat} (hi : ops[j]? = some o) (hw : Wanted o ops l = some false) {d : Nat} (hd : o.dst = some d) (hv : look l d = some undef) (h : Rvs Tryz.prog ops n js l L) : Rvs Tryz.prog ops n (j :: js) l L :=
  ⟨⟨o, undef, hi, .inr ⟨hw, rfl⟩, fun t ht => by rw [hd] at ht; cases ht; exact hv⟩, h⟩
theorem mixed : Tryz.prog.follows .mixedOrders = true := by kernel_rfl
theorem sv_draw {id : Nat} (E Fl : List Nat) (S : List (Nat × List Nat)) (σ : List Nat) (F : Fr a n l) (M : Mem w L) (hok : drawOK ops E Fl S σ n = true) (hFl : FlOK Tryz.prog ops Fl) (h : PW Tryz.prog ops n Q E Fl S σ [] l L) : (Code.region id ops true).wp Tryz.prog Q a w := region_pw mixed hok hFl F M h
end
/-! ### What only reads -/
theorem rt_pure {v : Value} (h : pureOp o.op l = some v) : RT o l L n v := fun a w F M => pure_run F h
theorem rt_extract {x : Operand} {i : Nat} (ho : o.op = .extract x i) {vs : List Value} (hx : evl l x = some (.tuple vs.toArray)) {v : Value} (hv : vs[i]? = some v) : RT o l L n v := fun a w F M => by
  unfold execOp
  rw [ho]
  simp [F.eval hx, Instr.extract, hv]
theorem rt_field {t : TypeId} {x : Operand} {f off : Nat} (ho : o.op = .fieldAddr t x f) {b i : Nat} (hx : evl l x = some (.pointer (some ⟨b, i, none⟩))) (hf : FO t f off) {j : Nat} (hj : i + off = j) : RT o l L n (.pointer (some ⟨b, j, none⟩)) := fun a w F M => by
  subst hj
  unfold execOp
  rw [ho]
  have h1 := hf.k
  split at h1
  · rename_i fs hu
    cases hfs : fs[f]? with
    | none => rw [hfs] at h1; cases h1
    | some fd =>
      rw [hfs] at h1
      have h2 := Option.some.inj h1
      simp only at h2
      cases hi : Tryz.prog.info? fd.type with
      | none => rw [hi] at h2; simp at h2
      | some i =>
        rw [hi] at h2
        simp only [Prod.mk.injEq] at h2
        obtain ⟨h2, h3⟩ := h2
        have h4 : ¬ i.size = 0 := by have := Nat.le_of_ble_eq_true h3; omega
        simp [F.eval hx, Instr.fieldAt, run_underlying hu w, hfs, Instr.sureAddr, fieldPlace, sizeOf, typeInfo, hi, h4, h2, add0]
  · cases h1
theorem rt_load {t : TypeId} {x : Operand} (ho : o.op = .load t x) {b i : Nat} (hx : evl l x = some (.pointer (some ⟨b, i, none⟩))) (hkt : KT t none) {L' : List Asn} {cs : List Value} {t' : TypeId} (hp : Pull L (pt b cs t') L') {v : Value} (hv : cs[i]? = some v) : RT o l L n v :=
  fun a w F M => load_run1 F M ho hx hkt hp hv
theorem rt_loadA {t : TypeId} {x : Operand} (ho : o.op = .load t x) {b : Nat} (hx : evl l x = some (.pointer (some ⟨b, 0, none⟩))) {k : Nat} (hkt : KT t (some k)) {L' : List Asn} {cs : List Value} {t' : TypeId} (hp : Pull L (pt b cs t') L') (hk : cs.length = k) : RT o l L n (.agg cs.toArray) :=
  fun a w F M => load_runA F M ho hx hkt hp hk
/-- k elements from i on, brought to a form. -/
def takeN : List Value → Nat → Nat → Option (List Value)
  | cs, 0, 0 => some []
  | c :: cs, 0, k + 1 => match takeN cs 0 k with | some r => some (c :: r) | none => none
  | _ :: cs, i + 1, k => takeN cs i k
  | [], _, _ => none
theorem takeN_spec : ∀ (cs : List Value) (i k : Nat) {r : List Value}, takeN cs i k = some r → (cs.drop i).take k = r ∧ r.length = k
  | cs, 0, 0, r, h => by simp [takeN] at h; subst h; simp
  | c :: cs, 0, k + 1, r, h => by
    simp only [takeN] at h
    split at h
    · rename_i r' hr
      obtain rfl := Option.some.inj h
      have := takeN_spec cs 0 k hr
      simp at this ⊢
      exact ⟨this.1, this.2⟩
    · cases h
  | [], 0, k + 1, r, h => by simp [takeN] at h
  | c :: cs, i + 1, k, r, h => by
    simp only [takeN] at h
    simpa using takeN_spec cs i k h
  | [], i + 1, k, r, h => by simp [takeN] at h
theorem rt_loadS {t : TypeId} {x : Operand} (ho : o.op = .load t x) {b i : Nat} (hx : evl l x = some (.pointer (some ⟨b, i, none⟩))) {k : Nat} (hkt : KT t (some k)) {L' : List Asn} {cs : List Value} {t' : TypeId} (hp : Pull L (pt b cs t') L') {ds : List Value} (hd : takeN cs i k = some ds) : RT o l L n (.agg ds.toArray) :=
  fun a w F M => load_runS F M ho hx hkt hp (takeN_spec cs i k hd).1 (takeN_spec cs i k hd).2
theorem rt_bin {b : BinOp} {t ty : TypeId} {x y : Operand} (ho : o.op = .binOp b t x y ty) {k : IntKind} {m p : Int} (hx : evl l x = some (.int k m)) (hy : evl l y = some (.int k p)) {r : Value} (h : ∀ w, (binOp b t (.int k m) (.int k p)).run Tryz.prog w = .ok r w) : RT o l L n r := fun a w F M => bin_run F ho hx hy (h w)
theorem rt_add {t ty : TypeId} {x y : Operand} (ho : o.op = .binOp .add t x y ty) {m p : Int} (hx : evl l x = some (.int .i64 m)) (hy : evl l y = some (.int .i64 p)) (h1 : -9223372036854775808 ≤ m + p) (h2 : m + p ≤ 9223372036854775807) : RT o l L n (.int .i64 (m + p)) :=
  rt_bin ho hx hy fun w => by simp [binOp, Op.intArith, IntWalk.i64_in _ ⟨h1, h2⟩]
theorem rt_sub {t ty : TypeId} {x y : Operand} (ho : o.op = .binOp .sub t x y ty) {m p : Int} (hx : evl l x = some (.int .i64 m)) (hy : evl l y = some (.int .i64 p)) (h1 : -9223372036854775808 ≤ m - p) (h2 : m - p ≤ 9223372036854775807) : RT o l L n (.int .i64 (m - p)) :=
  rt_bin ho hx hy fun w => by simp [binOp, Op.intArith, IntWalk.i64_in _ ⟨h1, h2⟩]
theorem rt_mul {t ty : TypeId} {x y : Operand} (ho : o.op = .binOp .mul t x y ty) {m p : Int} (hx : evl l x = some (.int .i64 m)) (hy : evl l y = some (.int .i64 p)) (h1 : -9223372036854775808 ≤ m * p) (h2 : m * p ≤ 9223372036854775807) : RT o l L n (.int .i64 (m * p)) :=
  rt_bin ho hx hy fun w => by simp [binOp, Op.intArith, IntWalk.i64_in _ ⟨h1, h2⟩]
theorem rt_addu {t ty : TypeId} {x y : Operand} (ho : o.op = .binOp .add t x y ty) {m p : Int} (hx : evl l x = some (.int .u64 m)) (hy : evl l y = some (.int .u64 p)) (h1 : 0 ≤ m + p) (h2 : m + p ≤ 18446744073709551615) : RT o l L n (.int .u64 (m + p)) :=
  rt_bin ho hx hy fun w => by simp [binOp, Op.intArith, u64_in h1 h2]
theorem rt_subu {t ty : TypeId} {x y : Operand} (ho : o.op = .binOp .sub t x y ty) {m p : Int} (hx : evl l x = some (.int .u64 m)) (hy : evl l y = some (.int .u64 p)) (h1 : 0 ≤ m - p) (h2 : m - p ≤ 18446744073709551615) : RT o l L n (.int .u64 (m - p)) :=
  rt_bin ho hx hy fun w => by simp [binOp, Op.intArith, u64_in h1 h2]
/-- Sums that may wrap. -/
def arithR : BinOp → Int → Int → Option Int
  | .add, m, p => some (m + p)
  | .sub, m, p => some (m - p)
  | .mul, m, p => some (m * p)
  | _, _, _ => none
theorem rt_arith {b : BinOp} {t ty : TypeId} {x y : Operand} (ho : o.op = .binOp b t x y ty) {k : IntKind} {m p : Int} (hx : evl l x = some (.int k m)) (hy : evl l y = some (.int k p)) {r : Int} (hr : arithR b m p = some r) : RT o l L n (.int k (k.wrap r)) :=
  rt_bin ho hx hy fun w => by cases b <;> simp [arithR] at hr <;> subst hr <;> simp [binOp, Op.intArith]
theorem rt_quo {t ty : TypeId} {x y : Operand} (ho : o.op = .binOp .quo t x y ty) {k : IntKind} {m p : Int} (hx : evl l x = some (.int k m)) (hy : evl l y = some (.int k p)) (h0 : 0 ≤ m) (h1 : 0 < p) (hk : k.wrap (m / p) = m / p) : RT o l L n (.int k (m / p)) :=
  rt_bin ho hx hy fun w => by
    have : ¬ p = 0 := by omega
    simp [binOp, Op.intDiv, this, Int.tdiv_eq_ediv_of_nonneg h0, hk]
theorem rt_rem {t ty : TypeId} {x y : Operand} (ho : o.op = .binOp .rem t x y ty) {k : IntKind} {m p : Int} (hx : evl l x = some (.int k m)) (hy : evl l y = some (.int k p)) (h0 : 0 ≤ m) (h1 : 0 < p) : RT o l L n (.int k (m % p)) :=
  rt_bin ho hx hy fun w => by
    have : ¬ p = 0 := by omega
    simp [binOp, Op.intDiv, this, Int.tmod_eq_emod_of_nonneg h0]
theorem rt_eql {t ty : TypeId} {x y : Operand} (ho : o.op = .binOp .eql t x y ty) {xs ys : List Value} (hx : evl l x = some (.agg xs.toArray)) (hy : evl l y = some (.agg ys.toArray)) {ks : List Sc} (he : EQ t ks) {r : Bool} (hr : cellsEq ks xs ys = some r) : RT o l L n (.bool r) := fun a w F M => by
  have := @eq_run o a w n l F t ty x y false ho xs ys hx hy ks he r hr
  rw [Bool.false_xor] at this; exact this
theorem rt_neq {t ty : TypeId} {x y : Operand} (ho : o.op = .binOp .neq t x y ty) {xs ys : List Value} (hx : evl l x = some (.agg xs.toArray)) (hy : evl l y = some (.agg ys.toArray)) {ks : List Sc} (he : EQ t ks) {r : Bool} (hr : cellsEq ks xs ys = some r) : RT o l L n (.bool (!r)) := fun a w F M => by
  have := @eq_run o a w n l F t ty x y true ho xs ys hx hy ks he r hr
  rw [Bool.true_xor] at this; exact this
theorem rt_eql1 {t ty : TypeId} {x y : Operand} (ho : o.op = .binOp .eql t x y ty) {xs : List Value} (hx : evl l x = some (.agg xs.toArray)) (hy : evl l y = some (.agg xs.toArray)) {ks : List Sc} (he : EQ t ks) {r : Bool} (hr : cellsEq ks xs xs = some r) : RT o l L n (.bool true) := by
  have := rt_eql (L := L) (n := n) ho hx hy he hr
  rw [cellsEq_refl hr] at this; exact this
theorem rt_neq1 {t ty : TypeId} {x y : Operand} (ho : o.op = .binOp .neq t x y ty) {xs : List Value} (hx : evl l x = some (.agg xs.toArray)) (hy : evl l y = some (.agg xs.toArray)) {ks : List Sc} (he : EQ t ks) {r : Bool} (hr : cellsEq ks xs xs = some r) : RT o l L n (.bool false) := by
  have := rt_neq (L := L) (n := n) ho hx hy he hr
  rw [cellsEq_refl hr] at this; exact this
theorem rt_eqb {t ty : TypeId} {x y : Operand} (ho : o.op = .binOp .eql t x y ty) {b c : Bool} (hx : evl l x = some (.bool b)) (hy : evl l y = some (.bool c)) (ht : BT t) : RT o l L n (.bool (b == c)) := fun a w F M => by
  unfold execOp
  rw [ho]
  simp [F.eval hx, F.eval hy, eqGuard, binOp, Op.equal, Op.maxDepth, run_equalIn_bool' w 9999 t b c ht.k]
theorem rt_neb {t ty : TypeId} {x y : Operand} (ho : o.op = .binOp .neq t x y ty) {b c : Bool} (hx : evl l x = some (.bool b)) (hy : evl l y = some (.bool c)) (ht : BT t) : RT o l L n (.bool (!(b == c))) := fun a w F M => by
  unfold execOp
  rw [ho]
  simp [F.eval hx, F.eval hy, eqGuard, binOp, Op.equal, Op.maxDepth, run_equalIn_bool' w 9999 t b c ht.k]
/-- The address of an element of an array; of a slice. -/
theorem rt_indexA {t : TypeId} {x y : Operand} (ho : o.op = .indexAddr t x y) {b i : Nat} (hx : evl l x = some (.pointer (some ⟨b, i, none⟩))) {k : IntKind} {j : Int} (hy : evl l y = some (.int k j)) {len e size : Nat} (ht : AT t len e size) (h0 : 0 ≤ j) (h1 : j < len) {p : Nat} (hp : i + j.toNat * size = p) : RT o l L n (.pointer (some ⟨b, p, none⟩)) := fun a w F M => by
  subst hp
  obtain ⟨hu, hs⟩ := ht.k
  unfold execOp
  rw [ho]
  cases hi : Tryz.prog.info? e with
  | none => rw [hi] at hs; cases hs
  | some ie =>
    rw [hi] at hs
    have hs := Option.some.inj hs
    simp [F.eval hx, F.eval hy, Instr.indexAt, asIntOf, run_underlying hu w, Instr.sureAddr, h0, h1, sizeOf, typeInfo, hi, hs, add0]
theorem rt_indexS {t : TypeId} {x y : Operand} (ho : o.op = .indexAddr t x y) {b i len cap : Nat} (hx : evl l x = some (.slice (some ⟨b, i, none⟩) len cap)) {k : IntKind} {j : Int} (hy : evl l y = some (.int k j)) {e : TypeId} {z : Value} {size bytes : Nat} (ht : ST t e z size bytes) (h0 : 0 ≤ j) (h1 : j < len) {p : Nat} (hp : i + j.toNat * size = p) : RT o l L n (.pointer (some ⟨b, p, none⟩)) := fun a w F M => by
  subst hp
  obtain ⟨hu, hs, _⟩ := ht.k
  unfold execOp
  rw [ho]
  cases hi : Tryz.prog.info? e with
  | none => rw [hi] at hs; cases hs
  | some ie =>
    rw [hi] at hs
    have hs := Option.some.inj hs
    simp only [Prod.mk.injEq] at hs
    simp [F.eval hx, F.eval hy, Instr.indexAt, asIntOf, run_underlying hu w, h0, h1, sizeOf, typeInfo, hi, hs.2.1, add0]
/-- len of a slice, a string. -/
theorem rt_lenS {x : Operand} {ats : Array TypeId} {t : TypeId} (ho : o.op = .call { callee := .builtin .len, args := #[x], argTypes := ats }) (hat : ats = #[t]) {p : Option Addr} {m c : Nat} (hx : evl l x = some (.slice p m c)) {e : TypeId} {z : Value} {size bytes : Nat} (ht : ST t e z size bytes) : RT o l L n (.int .i64 m) := fun a w F M => by
  unfold execOp
  rw [ho]
  subst hat
  simp [resolve, invoke, builtin, Builtin.len_, F.eval hx, run_underlying ht.k.1 w, goInt]
theorem rt_lenT {x : Operand} {ats : Array TypeId} {t : TypeId} (ho : o.op = .call { callee := .builtin .len, args := #[x], argTypes := ats }) (hat : ats = #[t]) {s : ByteArray} (hx : evl l x = some (.string s)) (ht : Tryz.prog.underlying t = some .string) : RT o l L n (.int .i64 s.size) := fun a w F M => by
  unfold execOp
  rw [ho]
  subst hat
  simp [resolve, invoke, builtin, Builtin.len_, F.eval hx, run_underlying ht w, goInt]
/-- min, max of integers. -/
def minL (k : IntKind) : Int → List Value → Option Int
  | x, [] => some x
  | x, .int k' y :: r => if k = k' then minL k (if y < x then y else x) r else none
  | _, _ => none
def maxL (k : IntKind) : Int → List Value → Option Int
  | x, [] => some x
  | x, .int k' y :: r => if k = k' then maxL k (if y > x then y else x) r else none
  | _, _ => none
theorem minL_run (k : IntKind) (w : World) : ∀ (vs : List Value) (x r : Int), minL k x vs = some r → (vs.foldlM Builtin.min2 (.int k x)).run Tryz.prog w = .ok (.int k r) w
  | [], x, r, h => by simp [minL] at h; subst h; simp
  | v :: vs, x, r, h => by
    cases v <;> simp [minL] at h
    rename_i k' y
    obtain ⟨rfl, h⟩ := h
    have := minL_run k w vs _ r h
    simp only [List.foldlM_cons, Sem.run_bind, Builtin.min2, Sem.run_pure, Result.andThen_ok]
    exact this
theorem maxL_run (k : IntKind) (w : World) : ∀ (vs : List Value) (x r : Int), maxL k x vs = some r → (vs.foldlM Builtin.max2 (.int k x)).run Tryz.prog w = .ok (.int k r) w
  | [], x, r, h => by simp [maxL] at h; subst h; simp
  | v :: vs, x, r, h => by
    cases v <;> simp [maxL] at h
    rename_i k' y
    obtain ⟨rfl, h⟩ := h
    have := maxL_run k w vs _ r h
    simp only [List.foldlM_cons, Sem.run_bind, Builtin.max2, Sem.run_pure, Result.andThen_ok]
    exact this
theorem rt_min {xs : Array Operand} {ats : Array TypeId} (ho : o.op = .call { callee := .builtin .min, args := xs, argTypes := ats }) {k : IntKind} {x : Int} {vs : List Value} (hx : evls l xs.toList = some (.int k x :: vs)) {r : Int} (hr : minL k x vs = some r) : RT o l L n (.int k r) := fun a w F M => by
  unfold execOp
  rw [ho]
  have e1 : xs.map a.eval = (Value.int k x :: vs).toArray := by have := F.evals hx; apply Array.toList_inj.1; simpa using this
  simp [resolve, invoke, builtin, Builtin.min_, e1, minL_run k w vs x r hr]
theorem rt_max {xs : Array Operand} {ats : Array TypeId} (ho : o.op = .call { callee := .builtin .max, args := xs, argTypes := ats }) {k : IntKind} {x : Int} {vs : List Value} (hx : evls l xs.toList = some (.int k x :: vs)) {r : Int} (hr : maxL k x vs = some r) : RT o l L n (.int k r) := fun a w F M => by
  unfold execOp
  rw [ho]
  have e1 : xs.map a.eval = (Value.int k x :: vs).toArray := by have := F.evals hx; apply Array.toList_inj.1; simpa using this
  simp [resolve, invoke, builtin, Builtin.max_, e1, maxL_run k w vs x r hr]
/-- A number of another integer type. -/
theorem rt_conv {s t : TypeId} {x : Operand} (ho : o.op = .convert s t x) {k k' : IntKind} {m : Int} (hx : evl l x = some (.int k' m)) (hs : IK s k') (ht : IK t k) {r : Int} (hr : k.wrap m = r) : RT o l L n (.int k r) := fun a w F M => by
  subst hr
  unfold execOp
  rw [ho]
  simp [F.eval hx, convert, run_underlying hs.k w, run_underlying ht.k w, Conv.intToInt]
/-- A cell set, brought to a form. -/
def setN : List Value → Nat → Value → Option (List Value)
  | [], _, _ => none
  | _ :: cs, 0, v => some (v :: cs)
  | c :: cs, i + 1, v => match setN cs i v with | some r => some (c :: r) | none => none
theorem setN_spec : ∀ (cs : List Value) (i : Nat) (v : Value) {r : List Value}, setN cs i v = some r → cs.set i v = r ∧ (cs[i]?).isSome = true
  | [], _, _, r, h => by simp [setN] at h
  | c :: cs, 0, v, r, h => by simp [setN] at h; subst h; simp
  | c :: cs, i + 1, v, r, h => by
    simp only [setN] at h
    split at h
    · rename_i r' hr
      obtain rfl := Option.some.inj h
      have := setN_spec cs i v hr
      simpa using this
    · cases h
/-- Cells laid over from i on, brought to a form. -/
def putN : List Value → Nat → List Value → Option (List Value)
  | cs, 0, [] => some cs
  | _ :: cs, 0, v :: vs => match putN cs 0 vs with | some r => some (v :: r) | none => none
  | c :: cs, i + 1, vs => match putN cs i vs with | some r => some (c :: r) | none => none
  | [], _, _ => none
theorem putN_spec : ∀ (cs : List Value) (i : Nat) (vs : List Value) {r : List Value}, putN cs i vs = some r → cs.take i ++ vs ++ cs.drop (i + vs.length) = r ∧ i + vs.length ≤ cs.length
  | cs, 0, [], r, h => by simp [putN] at h; subst h; simp
  | c :: cs, 0, v :: vs, r, h => by
    simp only [putN] at h
    split at h
    · rename_i r' hr
      obtain rfl := Option.some.inj h
      have := putN_spec cs 0 vs hr
      simp only [List.take_zero, List.nil_append, Nat.zero_add] at this ⊢
      refine ⟨?_, by simp; omega⟩
      simp [this.1]
    · cases h
  | c :: cs, i + 1, vs, r, h => by
    simp only [putN] at h
    split at h
    · rename_i r' hr
      obtain rfl := Option.some.inj h
      have := putN_spec cs i vs hr
      refine ⟨?_, by simp; omega⟩
      rw [show i + 1 + vs.length = (i + vs.length) + 1 by omega]
      simp [← this.1]
    · cases h
  | [], 0, v :: vs, r, h => by simp [putN] at h
  | [], i + 1, vs, r, h => by simp [putN] at h
/-! ### Literals of structs -/
def setMany : List Value → Nat → List Value → List Value
  | cs, _, [] => cs
  | cs, off, v :: vs => setMany (cs.set off v) (off + 1) vs
theorem setMany_eq : ∀ (vs cs : List Value) (off : Nat), off + vs.length ≤ cs.length → setMany cs off vs = cs.take off ++ vs ++ cs.drop (off + vs.length)
  | [], cs, off, _ => by simp [setMany]
  | v :: vs, cs, off, h => by
    simp only [List.length_cons] at h
    rw [setMany, setMany_eq vs (cs.set off v) (off + 1) (by simp; omega)]
    have h1 : (cs.set off v).take (off + 1) = cs.take off ++ [v] := by
      have hlt : off < cs.length := by omega
      rw [List.take_succ_eq_append_getElem (by simpa using hlt), List.take_set_of_le (Nat.le_refl off)]
      simp
    have h2 : (cs.set off v).drop (off + 1 + vs.length) = cs.drop (off + (v :: vs).length) := by
      rw [List.drop_set_of_lt (by omega)]
      simp only [List.length_cons]
      congr 1
      omega
    rw [h1, h2]
    simp
theorem fold_set (off : Nat) : ∀ (vs : List Value) (k : Nat) (cells : Array Value), ((vs.zipIdx k).foldl (fun cs x => cs.setIfInBounds (off + x.2) x.1) cells).toList = setMany cells.toList (off + k) vs
  | [], k, cells => by simp [setMany]
  | v :: vs, k, cells => by
    rw [List.zipIdx_cons, List.foldl_cons, fold_set off vs (k + 1), setMany]
    simp [Nat.add_assoc]
def fillN (ps : List (Nat × Nat)) : List Value → List (Nat × List Value) → Option (List Value)
  | zs, [] => some zs
  | zs, (i, vs) :: r => match ps[i]? with
    | some (off, size) => match Nat.beq vs.length size with
      | true => match putN zs off vs with
        | some zs' => fillN ps zs' r
        | none => none
      | false => none
    | none => none
theorem fillN_run (ps : List (Nat × Nat)) : ∀ (parts : List (Nat × Value)) (zs cs : List Value), fillN ps zs (parts.map fun p => (p.1, p.2.cells.toList)) = some cs → Instr.fill (fun i => ps[i]?) zs.toArray parts = some cs.toArray
  | [], zs, cs, h => by simp [fillN] at h; simp [Instr.fill, h]
  | (i, v) :: r, zs, cs, h => by
    simp only [List.map_cons, fillN] at h
    unfold Instr.fill
    cases hp : ps[i]? with
    | none => rw [hp] at h; cases h
    | some q =>
      obtain ⟨off, size⟩ := q
      rw [hp] at h
      simp only at h ⊢
      cases hb : Nat.beq v.cells.toList.length size with
      | false => rw [hb] at h; cases h
      | true =>
        rw [hb] at h
        simp only at h
        have hsz : v.cells.size = size := by simpa using Nat.eq_of_beq_eq_true hb
        cases hq : putN zs off v.cells.toList with
        | none => rw [hq] at h; cases h
        | some zs' =>
          rw [hq] at h
          simp only at h
          obtain ⟨h1, h2⟩ := putN_spec zs off _ hq
          have hle : off + v.cells.size ≤ zs.length := by simpa using h2
          have hcond : ¬ ((decide (v.cells.size ≠ size) || decide (off + v.cells.size > zs.toArray.size)) = true) := by
            simp [hsz]
            rw [hsz] at hle; omega
          rw [if_neg hcond]
          have hfold : (v.cells.zipIdx.foldl (fun cs x => cs.setIfInBounds (off + x.2) x.1) zs.toArray) = zs'.toArray := by
            apply Array.toList_inj.1
            rw [← Array.foldl_toList, Array.toList_zipIdx]
            have := fold_set off v.cells.toList 0 zs.toArray
            simp only [Nat.add_zero] at this
            rw [this, setMany_eq _ _ _ (by simpa using hle)]
            simpa using h1
          have := fillN_run ps r zs' cs h
          rw [← this]
          congr 1
/-- A part's cells, brought to a form. -/
def partL : Value → List Value
  | .agg cs => cs.toList
  | v => [v]
theorem partL_eq (v : Value) : v.cells.toList = partL v := by cases v <;> rfl
def evps (l : List (Nat × Value)) : List (Nat × Operand) → Option (List (Nat × Value))
  | [] => some []
  | (i, x) :: r => match evl l x, evps l r with
    | some v, some vs => some ((i, v) :: vs)
    | _, _ => none
theorem Fr.evps (F : Fr a n l) : ∀ {xs : List (Nat × Operand)} {vs : List (Nat × Value)}, Go.Proofs.YtopbohbkhljjgaaGreat.evps l xs = some vs → xs.map (fun p => (p.1, a.eval p.2)) = vs
  | [], vs, h => by simp [Go.Proofs.YtopbohbkhljjgaaGreat.evps] at h; simp [h]
  | (i, x) :: r, vs, h => by
    simp only [Go.Proofs.YtopbohbkhljjgaaGreat.evps] at h
    split at h
    · rename_i v us h1 h2
      obtain rfl := Option.some.inj h
      simp [F.eval h1, F.evps h2]
    · cases h
def partsL : List (Nat × Value) → List (Nat × List Value)
  | [] => []
  | (i, v) :: r => (i, partL v) :: partsL r
theorem partsL_eq : ∀ (ps : List (Nat × Value)), ps.map (fun p => (p.1, p.2.cells.toList)) = partsL ps
  | [] => rfl
  | (i, v) :: r => by rw [List.map_cons, partsL, partsL_eq r, partL_eq]
theorem rt_build {t : TypeId} {parts : Array (Nat × Operand)} (ho : o.op = .build t parts) {zs : List Value} (hz : ZT t zs) {ps : List (Nat × Nat)} (hb : BP t ps) {vs : List (Nat × Value)} (hv : evps l parts.toList = some vs) {cs : List Value} (hf : fillN ps zs (partsL vs) = some cs) : RT o l L n (.agg cs.toArray) := fun a w F M => by
  have hbk := hb.k
  have h1 := hz.k
  cases hu : Tryz.prog.underlying t with
  | none => rw [hu] at hbk; cases hbk
  | some d =>
    rw [hu] at hbk
    cases d with
    | struct fs =>
      simp only at hbk
      cases hi : Tryz.prog.info? t with
      | none => rw [hi] at h1; cases h1
      | some i =>
        rw [hi] at h1
        have h2 : i.zero.map Value.cells = some zs.toArray := Option.some.inj h1
        cases hzz : i.zero with
        | none => rw [hzz] at h2; cases h2
        | some z =>
          rw [hzz] at h2
          have h3 : z.cells = zs.toArray := Option.some.inj h2
          have hplaces : (fs.mapM fun f => do pure (f.offset, ← sizeOf f.type) : Sem (Array (Nat × Nat))).run Tryz.prog w = .ok ps.toArray w := by
            have : ∀ (fl : List Field) (ps : List (Nat × Nat)), fl.mapM (fun f => (Tryz.prog.info? f.type).map fun i => (f.offset, i.size)) = some ps → (fl.mapM fun f => do pure (f.offset, ← sizeOf f.type) : Sem (List (Nat × Nat))).run Tryz.prog w = .ok ps w := by
              intro fl
              induction fl with
              | nil => intro ps h; simp at h; subst h; simp
              | cons f fl ih =>
                intro ps h
                rw [List.mapM_cons] at h
                simp only [bind, Option.bind_eq_some_iff, pure, Option.some.injEq] at h
                obtain ⟨p, h1, ps', h2, rfl⟩ := h
                cases hfi : Tryz.prog.info? f.type with
                | none => rw [hfi] at h1; cases h1
                | some fi =>
                  rw [hfi] at h1
                  obtain rfl := Option.some.inj h1
                  rw [List.mapM_cons]
                  have hs : (sizeOf f.type).run Tryz.prog w = .ok fi.size w := by simp [sizeOf, typeInfo, hfi]
                  simp only [Sem.run_bind, hs, Result.andThen_ok, Sem.run_pure, ih ps' h2]
            have h := this fs.toList ps hbk
            have e : fs = fs.toList.toArray := by simp
            rw [e, List.mapM_toArray, Sem.run_map]
            rw [h]; rfl
          have hparts : (parts.map fun x => (x.1, a.eval x.2)).toList = vs := by have := F.evps hv; simpa using this
          unfold execOp
          rw [ho]
          have hfill := fillN_run ps vs zs cs (by rw [partsL_eq]; exact hf)
          have hps : (fun (i : Nat) => ps.toArray[i]?) = fun (i : Nat) => ps[i]? := by funext i; simp
          have hzero : (zeroValue t).run Tryz.prog w = .ok z w := by simp [zeroValue, typeInfo, hi, hzz]
          simp only [Instr.build, Sem.run_bind, hzero, run_underlying hu w, Result.andThen_ok, hplaces, h3, hparts, hps, hfill, Sem.run_pure]
    | _ => simp at hbk
variable {C : Value → List Asn → Prop}
theorem ac_boxA {t : TypeId} {x : Operand} (ho : o.op = .box t x) {cs : List Value} (hx : evl l x = some (.agg cs.toArray)) (h : ∀ b, C (.pointer (some ⟨b, 0, none⟩)) (pt b cs t :: L)) : AC o l L n C := fun G a w F M => by
  have : (execOp a.eval o).run Tryz.prog w = .ok (.value (.pointer (some ⟨w.heap.size, 0, none⟩))) (w.alloc (.cells cs.toArray t)) := by
    unfold execOp
    rw [ho]
    simp [F.eval hx, Instr.box, newVar, newRow, newObj, Sem.run, Value.cells]
  rw [this]
  exact ⟨_, h _, M.alloc cs t⟩
theorem ac_box {t : TypeId} {x : Operand} (ho : o.op = .box t x) {v : Value} (hx : evl l x = some v) (hv : v.oneCell' = true) (h : ∀ b, C (.pointer (some ⟨b, 0, none⟩)) (pt b [v] t :: L)) : AC o l L n C := fun G a w F M => by
  have h1 : v.cells = #[v] := by cases v <;> simp_all [Value.oneCell', Value.cells]
  have : (execOp a.eval o).run Tryz.prog w = .ok (.value (.pointer (some ⟨w.heap.size, 0, none⟩))) (w.alloc (.cells [v].toArray t)) := by
    unfold execOp
    rw [ho]
    simp [F.eval hx, Instr.box, newVar, newRow, newObj, Sem.run, h1]
  rw [this]
  exact ⟨_, h _, M.alloc [v] t⟩
theorem ac_alloc {t : TypeId} (ho : o.op = .alloc t) {cs : List Value} (hz : ZT t cs) (h : ∀ b, C (.pointer (some ⟨b, 0, none⟩)) (pt b cs t :: L)) : AC o l L n C := fun G a w F M => by
  obtain ⟨i, z, hi, hzz, h3⟩ := zero_run hz
  have : (execOp a.eval o).run Tryz.prog w = .ok (.value (.pointer (some ⟨w.heap.size, 0, none⟩))) (w.alloc (.cells cs.toArray t)) := by
    unfold execOp
    rw [ho]
    simp [Instr.alloc, zeroValue, typeInfo, hi, hzz, newVar, newRow, newObj, Sem.run, h3]
  rw [this]
  exact ⟨_, h _, M.alloc cs t⟩
theorem ac_store {t : TypeId} {x y : Operand} (ho : o.op = .store t x y) {b i : Nat} (hx : evl l x = some (.pointer (some ⟨b, i, none⟩))) (hkt : KT t none) {v : Value} (hy : evl l y = some v) (hv : v.oneCell' = true)
    {L2 : List Asn} {cs cs' : List Value} {t' : TypeId} (hp : Rep L (pt b cs t') (pt b cs' t') L2) (hs : setN cs i v = some cs') (h : C undef L2) : AC o l L n C := fun G a w F M => by
  obtain ⟨L', h1, _⟩ := hp.both
  obtain ⟨hs1, hs2⟩ := setN_spec cs i v hs
  subst hs1
  obtain ⟨u, hu⟩ := Option.isSome_iff_exists.1 hs2
  have h2 := cell_pt M (h1.app G) hu
  have h3 := free_pt (i := i) M (h1.app G)
  have : (execOp a.eval o).run Tryz.prog w = .ok .skip (w.setCell ⟨b, i, none⟩ v) := by
    unfold execOp
    rw [ho]
    simp [F.eval hx, F.eval hy, Instr.storeAt, Instr.sureAddr, run_storeVar_one h2 h3 hv]
  rw [this]
  refine ⟨L2, h, ?_⟩
  rw [setCell_row (M.pt (h1.app G))]
  exact M.setRow (hp.app G)
theorem ac_storeA {t : TypeId} {x y : Operand} (ho : o.op = .store t x y) {b i : Nat} (hx : evl l x = some (.pointer (some ⟨b, i, none⟩))) {k : Nat} (hkt : KT t (some k)) {vs : List Value} (hy : evl l y = some (.agg vs.toArray)) (hk : vs.length = k) (hv : vs.all (·.oneCell') = true)
    {L2 : List Asn} {cs cs' : List Value} {t' : TypeId} (hp : Rep L (pt b cs t') (pt b cs' t') L2) (hs : putN cs i vs = some cs') (h : C undef L2) : AC o l L n C := fun G a w F M => by
  obtain ⟨L', h1, _⟩ := hp.both
  obtain ⟨hs1, hle⟩ := putN_spec cs i vs hs
  subst hs1
  have h2 := M.pt (h1.app G)
  have h3 := run_storeCells_at (P := Tryz.prog) b i t' vs 0 cs.toArray w h2 (by simp; omega) (all_one hv)
  simp only [Nat.add_zero] at h3
  have hsz : (Value.agg vs.toArray).cells.size = k := by simp [Value.cells, hk]
  have : (execOp a.eval o).run Tryz.prog w = .ok .skip (w.setRow b (cs.take i ++ vs ++ cs.drop (i + vs.length)).toArray) := by
    unfold execOp
    rw [ho]
    simp only [F.eval hx, F.eval hy, Instr.storeAt, Instr.sureAddr, storeVar, Sem.run_bind, Sem.run_pure, Result.andThen_ok, (run_isAgg (t := t) w).2, hsz]
    simp [Value.cells, h3]
  rw [this]
  exact ⟨L2, h, M.setRow (hp.app G)⟩
theorem ac_storeW {t : TypeId} {x y : Operand} (ho : o.op = .store t x y) {b : Nat} (hx : evl l x = some (.pointer (some ⟨b, 0, none⟩))) {k : Nat} (hkt : KT t (some k)) {vs : List Value} (hy : evl l y = some (.agg vs.toArray)) (hk : vs.length = k) (hv : vs.all (·.oneCell') = true)
    {L2 : List Asn} {cs : List Value} {t' : TypeId} (hp : Rep L (pt b cs t') (pt b vs t') L2) (hc : Nat.beq cs.length k = true) (h : C undef L2) : AC o l L n C := fun G a w F M => by
  obtain ⟨L', h1, _⟩ := hp.both
  have hc' : cs.length = k := Nat.eq_of_beq_eq_true hc
  have h2 := M.pt (h1.app G)
  have h3 := run_storeCells_at (P := Tryz.prog) b 0 t' vs 0 cs.toArray w h2 (by simp; omega) (all_one hv)
  have e1 : cs.toArray.toList.take (0 + 0) ++ vs ++ cs.toArray.toList.drop (0 + 0 + vs.length) = vs := by simp [hk, hc']
  rw [e1] at h3
  have hsz : (Value.agg vs.toArray).cells.size = k := by simp [Value.cells, hk]
  have : (execOp a.eval o).run Tryz.prog w = .ok .skip (w.setRow b vs.toArray) := by
    unfold execOp
    rw [ho]
    simp only [F.eval hx, F.eval hy, Instr.storeAt, Instr.sureAddr, storeVar, Sem.run_bind, Sem.run_pure, Result.andThen_ok, (run_isAgg (t := t) w).2, hsz]
    simp [Value.cells, h3]
  rw [this]
  exact ⟨L2, h, M.setRow (hp.app G)⟩
theorem ac_call {f : Operand} {xs : Array Operand} {ats : Array TypeId} (ho : o.op = .call { callee := .value f, args := xs, argTypes := ats }) {k : FuncId} {caps : Array Value} (hf : evl l f = some (.func (.func k) #[] caps)) (hfk : FK k)
    {vs us : List Value} (hx : evls l xs.toList = some vs) (hu : vs ++ caps.toList = us) (hs : Spec k us L C) : AC o l L n C := fun G a w F M => by
  have e1 : xs.map a.eval = vs.toArray := by have := F.evals hx; apply Array.toList_inj.1; simpa using this
  have hrun : (execOp a.eval o).run Tryz.prog w = .ok (.enter k us.toArray) w := by
    unfold execOp
    rw [ho]
    rw [Sem.run_bind]
    simp only [resolve, F.eval hf, Deferred.ofValue, Sem.run_pure, Result.andThen_ok, invoke, e1]
    have : #[] ++ vs.toArray ++ caps = us.toArray := by rw [← hu]; simp
    first | rw [this] | (simp only [Array.empty_append] at this ⊢; rw [this])
    exact @run_callFunc k hfk _ w
  rw [hrun]
  exact (hs G w M).mono fun e w' ⟨v, L', he, hc, hm⟩ => ⟨v, he, L', hc, hm⟩
/-! ### What memory gives -/
def Gives (L : List Asn) (φ : World → Prop) : Prop := ∀ w, Mem w L → φ w
theorem Gives.tail {A : Asn} {L : List Asn} {φ : World → Prop} (h : Gives L φ) : Gives (A :: L) φ := fun w M => h w M.drop
theorem Gives.imp {L : List Asn} {φ ψ : World → Prop} (h : Gives L φ) (hi : ∀ w, φ w → ψ w) : Gives L ψ := fun w M => hi w (h w M)
theorem rt_loadg {t : TypeId} {x : Operand} (ho : o.op = .load t x) {b i : Nat} (hx : evl l x = some (.pointer (some ⟨b, i, none⟩))) (hkt : KT t none) {v : Value} (hg : Gives L fun w => w.cell? ⟨b, i, none⟩ = some v) : RT o l L n v := fun a w F M => by
  unfold execOp
  rw [ho]
  simp [F.eval hx, Instr.loadAt, Instr.sureAddr, run_loadVar_one (hg w M)]
theorem rt_loadgA {t : TypeId} {x : Operand} (ho : o.op = .load t x) {b i : Nat} (hx : evl l x = some (.pointer (some ⟨b, i, none⟩))) {k : Nat} (hkt : KT t (some k)) {cs : List Value} (hk : cs.length = k) (hg : Gives L fun w => ∀ j u, cs[j]? = some u → w.cell? ⟨b, i + j, none⟩ = some u) : RT o l L n (.agg cs.toArray) := fun a w F M => by
  unfold execOp
  rw [ho]
  simp [F.eval hx, Instr.loadAt, Instr.sureAddr, run_loadVar_agg hk (hg w M)]
theorem Old.slr {w0 : World} {size m : Nat} {v : Value} {xs : List Value} (h : SlR w0 size v m xs) {L' : List Asn} (hp : Pull L (Old w0) L') : Gives L fun w => SlR w size v m xs := fun w M => h.below_all (M.below hp)
/-- The slice v owns its array: m elements of so many cells each, the cells xs. -/
def own (e : TypeId) (size : Nat) (v : Value) (m : Nat) (xs : List Value) : Asn := fun s w => xs.length = m * size ∧
  ((v = .slice none 0 0 ∧ m = 0 ∧ s = []) ∨ ∃ g cap cur, v = .slice (some ⟨g, 0, none⟩) m cap ∧ s = [g] ∧ w.heap[g]? = some (.cells cur e (0, 0)) ∧ m ≤ cap ∧ cap ≤ maxLen ∧ cur.size = cap * size ∧ cur.toList.take (m * size) = xs)
theorem own_slr {e : TypeId} {size : Nat} {v : Value} {m : Nat} {xs : List Value} {s : List Nat} (h : own e size v m xs s w) : SlR w size v m xs := by
  refine ⟨h.1, ?_⟩
  rcases h.2 with ⟨h0, h1, _⟩ | ⟨g, cap, cur, rfl, _, hg, hn, hc, hs, ht⟩
  · exact .inl ⟨⟨_, _, h0⟩, h1⟩
  · refine .inr ⟨g, 0, cap, rfl, (Array.getElem?_eq_some_iff.1 hg).1, by omega, fun j u hu => ?_⟩
    have h1 : cur[j]? = some u := by
      rw [← ht, List.getElem?_take] at hu
      split at hu
      · simpa using hu
      · cases hu
    simp [World.cell?, hg, h1]
theorem gives_own {e : TypeId} {size : Nat} {v : Value} {m : Nat} {xs : List Value} {L' : List Asn} (hp : Pull L (own e size v m xs) L') : Gives L fun w => SlR w size v m xs := fun w M => by
  obtain ⟨s, hs, _⟩ := (M.pull hp).head
  exact own_slr hs
theorem ok_own {e : TypeId} {size : Nat} {g cap m : Nat} {cur : Array Value} {xs : List Value} (hx : xs.length = m * size) (hg : w.heap[g]? = some (.cells cur e (0, 0))) (hm : m ≤ cap) (hc : cap ≤ maxLen) (hs : cur.size = cap * size) (ht : cur.toList.take (m * size) = xs) : Ok (own e size (.slice (some ⟨g, 0, none⟩) m cap) m xs) [g] w :=
  ⟨fun b hb => by obtain rfl : b = g := by simpa using hb
                  exact (Array.getElem?_eq_some_iff.1 hg).1,
   fun w' hw => ⟨hx, .inr ⟨g, cap, cur, rfl, rfl, by rw [hw.2.2.2 g (by simp)]; exact hg, hm, hc, hs, ht⟩⟩⟩
theorem ok_own_nil {e : TypeId} {size : Nat} : Ok (own e size (.slice none 0 0) 0 []) [] w := ⟨by simp, fun w' hw => ⟨by simp, .inl ⟨rfl, rfl, rfl⟩⟩⟩
theorem Mem.own_nil {L : List Asn} (M : Mem w L) (e : TypeId) (size : Nat) : Mem w (own e size (.slice none 0 0) 0 [] :: L) := M.new ⟨rfl, rfl, rfl, Nat.le_refl _, fun _ _ _ => rfl⟩ ⟨[], ok_own_nil, by simp⟩
theorem Mem.own_pt {L : List Asn} {b : Nat} {cs : List Value} {e : TypeId} (M : Mem w (Go.Proofs.YtopbohbkhljjgaaGreat.pt b cs e :: L)) {size m : Nat} (hl : cs.length = m * size) (hm : m ≤ maxLen) : Mem w (own e size (.slice (some ⟨b, 0, none⟩) m m) m cs :: L) :=
  M.imp fun s w' ⟨h1, h2⟩ => ⟨hl, .inr ⟨b, m, _, rfl, h1, h2, Nat.le_refl _, hm, by simp [hl], by simp [← hl]⟩⟩
theorem st_info {t e : TypeId} {z : Value} {size bytes : Nat} (ht : ST t e z size bytes) : ∃ i, Tryz.prog.underlying t = some (.slice e) ∧ Tryz.prog.info? e = some i ∧ i.zero = some z ∧ i.size = size ∧ i.bytes = bytes ∧ z.cells.size = size ∧ 0 < size := by
  obtain ⟨h1, h2, h3⟩ := ht.k
  cases hi : Tryz.prog.info? e with
  | none => rw [hi] at h2; cases h2
  | some i =>
    rw [hi] at h2
    have h2 := Option.some.inj h2
    simp only [Prod.mk.injEq] at h2
    simp only [Bool.and_eq_true, beq_iff_eq] at h3
    exact ⟨i, h1, rfl, h2.1, h2.2.1, h2.2.2, h3.1, Nat.le_of_ble_eq_true h3.2⟩
theorem append_run {t ty e : TypeId} {z : Value} {size bytes : Nat} (ht : ST t e z size bytes) {v : Value} {m : Nat} {xs : List Value} {L' : List Asn} (M : Mem w (own e size v m xs :: L')) {y : Value} {k : Nat} {news : List Value} (hy : SlR w size y k news) (h1 : ∀ u ∈ news, u.oneCell' = true)
    (h63 : m + k ≤ maxLen) (hbytes : (m + k) * bytes ≤ 140737488355328) : ∃ v' w', (Builtin.append_ #[t, t] ty #[v, y]).run Tryz.prog w = .ok v' w' ∧ Mem w' (own e size v' (m + k) (xs ++ news) :: L') := by
  obtain ⟨i, hu, hi, hz, hsize, hby, hzs, hsz⟩ := st_info ht
  have h := ht
  clear ht
  subst hsize
  subst hby
  have hsmall : m + k ≤ 9223372036854775807 := by simp only [maxLen] at h63; omega
  obtain ⟨s, hs, hslt⟩ := M.head
  have hxl := hs.1
  have hlen : (xs ++ news).length = (m + k) * i.size := by rw [List.length_append, hxl, hy.1, Nat.add_mul]

  have grown : ∀ (old : Nat), old < m + k → ∀ (w1 : World), w1 = w.drew.alloc (.cells (xs.toArray ++ news.toArray ++ Builtin.zeroCells z.cells (grownCap w (m + k) old e - (m + k))) e) → Mem w1 (own e i.size (.slice (some ⟨w.heap.size, 0, none⟩) (m + k) (grownCap w (m + k) old e)) (m + k) (xs ++ news) :: L') := by
    intro old ho w1 hw1
    subst hw1
    have hge := grownCap_ge w (m + k) old e
    have hcm : grownCap w (m + k) old e ≤ maxLen := grownCap_le_maxLen w (m + k) old e h63
    refine M.drop.new ⟨rfl, rfl, rfl, by simp, fun k hk _ => ((Below.refl w.drew.heap.size w.drew).alloc (Nat.le_refl _) _).block k hk⟩ ⟨[w.heap.size], ok_own hlen (heap_alloc_new w.drew _) hge hcm ?_ ?_, by simp⟩
    · simp only [Array.size_append, List.size_toArray, size_zeroCells, hzs, hxl, hy.1, ← Nat.add_mul]
      congr 1
      omega
    · simp only [Array.toList_append, List.append_assoc]
      rw [← List.append_assoc, ← hlen]
      exact List.take_left
  have src : k = 0 ∧ news = [] ∧ (∃ a c, y = .slice a 0 c) ∨ ∃ (a : Addr) (c : Nat), y = .slice (some a) k c ∧ ∀ j u, news[j]? = some u → w.cell? (a.add j) = some u := by
    rcases hy.parts with ⟨⟨ao, c, rfl⟩, rfl, rfl⟩ | ⟨b, off, c, rfl, _, _, hc⟩
    · exact .inl ⟨rfl, rfl, ao, c, rfl⟩
    · exact .inr ⟨⟨b, off, none⟩, c, rfl, fun j u hu => by rw [add0]; exact hc j u hu⟩
  rcases hs.2 with ⟨rfl, rfl, rfl⟩ | ⟨g, cap, cur, rfl, rfl, hg, hnc, hcm, hcs, htake⟩
  · have hx : xs = [] := List.eq_nil_of_length_eq_zero (by simpa using hxl)
    subst hx
    by_cases hk : k = 0
    · subst hk
      have hn : news = [] := List.eq_nil_of_length_eq_zero (by simpa using hy.1)
      subst hn
      refine ⟨.slice none 0 0, w, ?_, M⟩
      obtain ⟨ao, c, rfl⟩ := hy.form
      cases ao <;> simp [Builtin.append_, run_underlying hu, sizeOf, typeInfo, hi, Builtin.lenOf, Builtin.firstCells, loadCells, loadCellsFrom]
    · rcases src with ⟨h0, _⟩ | ⟨a, c, rfl, hnews⟩
      · exact absurd h0 hk
      · have hr := run_append_nil (P := Tryz.prog) w t ty e i z hu hi hz a k c news hy.1 hnews (by omega) (by omega) (by have hb := hbytes; simp only [Nat.zero_add] at hb; omega)
        have hgr := grown 0 (by omega) _ rfl
        simp only [Nat.zero_add, List.nil_append, Array.empty_append] at hgr ⊢
        exact ⟨_, _, hr, hgr⟩
  · rcases src with ⟨rfl, rfl, ao, c, rfl⟩ | ⟨a, c, rfl, hnews⟩
    · refine ⟨.slice (some ⟨g, 0, none⟩) m cap, w, ?_, by simpa using M⟩
      cases ao with
      | none => simp [Builtin.append_, run_underlying hu, sizeOf, typeInfo, hi, Builtin.lenOf, Builtin.firstCells, hnc, storeCells]
      | some a => simp [Builtin.append_, run_underlying hu, sizeOf, typeInfo, hi, Builtin.lenOf, Builtin.firstCells, hnc, storeCells, loadCells, loadCellsFrom]
    · by_cases hroom : m + k ≤ cap
      · have hfit : m * i.size + news.length ≤ cur.size := by rw [hy.1, hcs, ← Nat.add_mul]; exact Nat.mul_le_mul_right _ hroom
        have hr := run_append_room (P := Tryz.prog) w t ty e i hu hi g m cap cur hg a k c news hy.1 hnews h1 hroom hfit
        refine ⟨_, _, hr, M.change fun s' hs' => ?_⟩
        obtain ⟨_, h2⟩ := hs'.now
        rcases h2 with ⟨h2, _⟩ | ⟨g', cap', cur', h3, rfl, h5, _⟩
        · cases h2
        · have hgg : g' = g := by cases h3; rfl
          subst hgg
          refine ⟨chg_setRow, [g'], ok_own hlen (setRow_heap w g' cur _ e _ hg) hroom hcm ?_ ?_, fun b hb => .inl hb⟩
          · simp only [List.size_toArray, List.length_append, List.length_take, List.length_drop, Array.length_toList]
            omega
          · rw [htake, ← hlen]
            exact List.take_left
      · have holds : ∀ j u, xs[j]? = some u → w.cell? ((⟨g, 0, none⟩ : Addr).add j) = some u := fun j u hu' => by
          have h1 : cur[j]? = some u := by
            rw [← htake, List.getElem?_take] at hu'
            split at hu'
            · simpa using hu'
            · cases hu'
          rw [add0]
          simp [World.cell?, hg, h1]
        have hr := run_append_grow (P := Tryz.prog) w t ty e i z hu hi hz ⟨g, 0, none⟩ m cap xs hxl holds a k c news hy.1 hnews (by omega) (by omega) (growslice_fits (by omega) hbytes)
        exact ⟨_, _, hr, grown cap (by omega) _ rfl⟩
end
end Go.Proofs.YtopbohbkhljjgaaGreat
end
