import Derived.Test.YtaggjikjohamjaaGreatDoorRows
import Derived.Test.YtaggjikjohamjaaGreatDoorProg
import Derived.Test.YtaggjikjohamjaaGreatDoorTie
import Derived.Test.YtaggjikjohamjaaGreatDoorCards
import Derived.WalkKit
import Derived.WalkSpells
import Derived.WalkLawsBesides
import Derived.Deep.QuietTactic
import Derived.BigQuiet
import Derived.Lib.Hide
import Derived.ProofKit
import Derived.Laws.CopyOwn
import Derived.Laws.StructEq
import Derived.ChangeKeysEq
import Derived.Orders
import Derived.Laws.Strings2
import Derived.Laws.IdiomStrings
import Derived.Lib.LaidTab
import Derived.Lib.LazyBuf
import Derived.OpenShut
import Derived.ShutString
import Derived.Lib.ItoaNum
import Derived.Lib.ParseIntBCases
import Derived.Maps.Own
import Derived.DeepKeys4
import Derived.WalkMore
import Derived.Laws.MakeOwn
import Derived.Lib.BitFns
import Derived.Defers
import Derived.RangeFuncLeaves
import Derived.RangeFuncRecord
import Derived.TacticsIn
import Derived.Shelf.Strings.Builder1
import Derived.Shelf.Strings.Builder2
import Derived.Shelf.Strings.OnBuilder
import Derived.Shelf.Strings.BuilderF
import Derived.Shelf.Strings.BuilderK
import Derived.Shelf.Utf8.RuneCount
import Derived.Shelf.Strings.Builder2Cap
import Derived.Shelf.Strconv.Itoa0
import Derived.Shelf.Strconv.Itoa1
import Derived.Shelf.LaysM
import Derived.Shelf.Strconv.Itoa2
import Derived.Shelf.Strconv.Itoa3
import Derived.Shelf.Strconv.Clone
import Derived.Shelf.Strconv.SyntaxError
import Derived.Shelf.LaysC
import Derived.Shelf.Strconv.ToError
import Derived.Shelf.Strconv.Lower
import Derived.Shelf.Strconv.ParseUint10
import Derived.Shelf.Strconv.ParseUint10Empty
import Derived.Shelf.Strconv.ParseUint10Any
import Derived.Shelf.Strconv.RangeError
import Derived.Shelf.Strconv.ToErrorRange
import Derived.Shelf.Strconv.ParseUintEmpty
import Derived.Shelf.Strconv.ParseUint10b64
import Derived.Shelf.Strconv.ParseUint10b32
import Derived.Shelf.Strconv.ParseUint10b16
import Derived.Shelf.Strconv.ParseUint10b8
import Derived.Shelf.Strconv.ParseUint10At
import Derived.Ground.MpProg
import Derived.Shelf.Pu.ParseUintPublic10
import Derived.Shelf.Pu.ErrVarParseUint
import Derived.Shelf.Strings.Search1
import Derived.Shelf.Strings.Search2
import Derived.Shelf.Strings.Search3
import Derived.Shelf.Strings.Count
import Derived.Shelf.Strings.Shaped
import Derived.Shelf.Strings.Split
import Derived.Shelf.Strings.SplitShaped
import Derived.Shelf.Unicode.Decode
import Derived.Shelf.Strings.RuneCount
import Derived.Shelf.Strings.Explode
import Derived.Shelf.Bits.Mul64
import Derived.Shelf.Unicode.DecodeSlow
import Derived.Shelf.Unicode.DecodeAny
import Derived.Shelf.Strings.BuilderCap
import Derived.Shelf.Slices.Turned
import Derived.Lib.ItoaMem
import Derived.Stop.IfaceNil
import Derived.Lib.AtoiErrMem
import Derived.Shelf.Vars
import Derived.HandedShaped
import Derived.LaidMore
import Derived.LaidSub
import Derived.Stop.Joined
import Derived.SevenTiedAt
set_option linter.unusedVariables false
set_option linter.unusedSimpArgs false
section
namespace Go.Proofs.YtaggjikjohamjaaGreatDoor
open Go.RowKit
theorem below_drewN {B : Nat} {a w : World} (h : Below B a w) (d : Nat) : Below B a (w.drewN d) := ⟨h.os, h.tape, h.output, h.size, h.block⟩
/-- w' is w after some draws. -/
def Same (w w' : World) : Prop := ∃ d, w' = w.drewN d
theorem Same.refl (w : World) : Same w w := ⟨0, rfl⟩
theorem Same.more {w w' : World} (h : Same w w') (n : Nat) : Same w (w'.drewN n) := by
  obtain ⟨d, rfl⟩ := h
  exact ⟨_, World.drewN_drewN ..⟩
theorem Same.trans {w w' w'' : World} (h : Same w w') (k : Same w' w'') : Same w w'' := by
  obtain ⟨d, rfl⟩ := k
  exact h.more d
theorem Same.cell {w w' : World} (h : Same w w') (a : Addr) : w'.cell? a = w.cell? a := by obtain ⟨d, rfl⟩ := h; rfl
theorem Same.heap {w w' : World} (h : Same w w') : w'.heap = w.heap := by obtain ⟨d, rfl⟩ := h; rfl
theorem Same.below {w w' : World} (h : Same w w') (B : Nat) : Below B w w' := by
  obtain ⟨d, rfl⟩ := h
  exact below_drewN (Below.refl _ _) d
/-! ### Frames: all blocks but those of S are as they were -/
structure Upd (S : List Nat) (w w' : World) : Prop where
  os : w'.os = w.os
  tape : w'.tape = w.tape
  output : w'.output = w.output
  size : w.heap.size ≤ w'.heap.size
  block : ∀ k, k < w.heap.size → k ∉ S → w'.heap[k]? = w.heap[k]?
theorem Upd.refl (S : List Nat) (w : World) : Upd S w w := ⟨rfl, rfl, rfl, Nat.le_refl _, fun _ _ _ => rfl⟩
theorem Upd.trans {S : List Nat} {a b c : World} (h : Upd S a b) (k : Upd S b c) : Upd S a c :=
  ⟨k.os.trans h.os, k.tape.trans h.tape, k.output.trans h.output, Nat.le_trans h.size k.size, fun i hi hn => (k.block i (Nat.lt_of_lt_of_le hi h.size) hn).trans (h.block i hi hn)⟩
theorem Upd.mono {S S' : List Nat} {w w' : World} (h : Upd S w w') (hs : ∀ k, k ∈ S → k < w.heap.size → k ∈ S') : Upd S' w w' :=
  ⟨h.os, h.tape, h.output, h.size, fun k hk hn => h.block k hk fun hm => hn (hs k hm hk)⟩
theorem Upd.of_below {S : List Nat} {w w' : World} (h : Below w.heap.size w w') : Upd S w w' := ⟨h.os, h.tape, h.output, h.size, fun k hk _ => h.block k hk⟩
theorem Upd.below {S : List Nat} {w w' : World} {B : Nat} (h : Upd S w w') (hB : B ≤ w.heap.size) (hS : ∀ k, k ∈ S → B ≤ k) : Below B w w' :=
  ⟨h.os, h.tape, h.output, h.size, fun k hk => h.block k (by omega) fun hm => by have := hS k hm; omega⟩
theorem Upd.setCell {S : List Nat} {a w : World} (h : Upd S a w) {b : Nat} (hb : b ∈ S) (i : Nat) (v : Value) : Upd S a (w.setCell ⟨b, i, none⟩ v) :=
  h.trans ⟨rfl, rfl, rfl, by simp [World.setCell], fun k _ hn => Below.heap_setCell _ _ _ _ (fun e => hn (by rw [e]; exact hb))⟩
theorem Upd.drewN {S : List Nat} {a w : World} (h : Upd S a w) (d : Nat) : Upd S a (w.drewN d) := ⟨h.os, h.tape, h.output, h.size, h.block⟩
theorem Upd.alloc {S : List Nat} {a w : World} (h : Upd S a w) (o : Obj) : Upd S a (w.alloc o) := h.trans (Upd.of_below ((Below.refl _ _).alloc (Nat.le_refl _) o))
/-- Block b holds the cells c. -/
def BlockIs (w : World) (b : Nat) (c : Array Value) (t : TypeId) : Prop := w.heap[b]? = some (.cells c t (0, 0))
theorem BlockIs.cell {w : World} {b : Nat} {c : Array Value} {t : TypeId} (h : BlockIs w b c t) {i : Nat} {v : Value} (hi : c[i]? = some v) : w.cell? ⟨b, i, none⟩ = some v := by
  unfold BlockIs at h
  simp [World.cell?, h, hi]
theorem BlockIs.lt {w : World} {b : Nat} {c : Array Value} {t : TypeId} (h : BlockIs w b c t) : b < w.heap.size := (Array.getElem?_eq_some_iff.1 h).1
theorem BlockIs.set {w : World} {b : Nat} {c : Array Value} {t : TypeId} (h : BlockIs w b c t) (i : Nat) (v : Value) : BlockIs (w.setCell ⟨b, i, none⟩ v) b (c.setIfInBounds i v) t := by
  unfold BlockIs at *
  simp [World.setCell, Array.getElem?_modify, h]
theorem BlockIs.below {w w' : World} {B b : Nat} {c : Array Value} {t : TypeId} (h : BlockIs w b c t) (hu : Below B w w') (hb : b < B) : BlockIs w' b c t := (hu.block b hb).trans h
theorem BlockIs.drewN {w : World} {b : Nat} {c : Array Value} {t : TypeId} (h : BlockIs w b c t) (d : Nat) : BlockIs (w.drewN d) b c t := h
theorem BlockIs.new (w : World) (c : Array Value) (t : TypeId) : BlockIs (w.alloc (.cells c t)) w.heap.size c t := heap_alloc_new w _
theorem BlockIs.alloc {w : World} {b : Nat} {c : Array Value} {t : TypeId} (h : BlockIs w b c t) (o : Obj) : BlockIs (w.alloc o) b c t := h.below ((Below.refl _ _).alloc (Nat.le_refl _) o) h.lt
/-! ### Slices that are read -/
/-- The slice v reads as n elements of 'size' cells each, the cells xs. -/
def SlR (w : World) (size : Nat) (v : Value) (n : Nat) (xs : List Value) : Prop :=
  xs.length = n * size ∧
  (((∃ a cap, v = .slice a 0 cap) ∧ n = 0) ∨
   ∃ b off cap, v = .slice (some ⟨b, off, none⟩) n cap ∧ b < w.heap.size ∧ n ≤ maxLen ∧ ∀ j u, xs[j]? = some u → w.cell? ⟨b, off + j, none⟩ = some u)
theorem SlR.nil (w : World) (size : Nat) : SlR w size (.slice none 0 0) 0 [] := ⟨by simp, .inl ⟨⟨_, _, rfl⟩, rfl⟩⟩
theorem SlR.len_le {w : World} {size : Nat} {v : Value} {n : Nat} {xs : List Value} (h : SlR w size v n xs) : n ≤ maxLen := by
  rcases h.2 with ⟨_, h⟩ | ⟨b, off, cap, _, _, h, _⟩
  · omega
  · exact h
theorem SlR.openSome {w : World} {size : Nat} {v : Value} {n : Nat} {xs : List Value} (h : SlR w size v n xs) (hn : 0 < n) :
    ∃ b off cap, v = .slice (some ⟨b, off, none⟩) n cap ∧ b < w.heap.size ∧ ∀ j u, xs[j]? = some u → w.cell? ⟨b, off + j, none⟩ = some u := by
  rcases h.2 with ⟨_, h⟩ | ⟨b, off, cap, e, hb, _, hc⟩
  · omega
  · exact ⟨b, off, cap, e, hb, hc⟩
theorem SlR.parts {w : World} {size : Nat} {v : Value} {n : Nat} {xs : List Value} (h : SlR w size v n xs) :
    ((∃ a cap, v = .slice a 0 cap) ∧ n = 0 ∧ xs = []) ∨ ∃ b off cap, v = .slice (some ⟨b, off, none⟩) n cap ∧ b < w.heap.size ∧ n ≤ maxLen ∧ ∀ j u, xs[j]? = some u → w.cell? ⟨b, off + j, none⟩ = some u := by
  rcases h.2 with ⟨e, h0⟩ | h'
  · refine .inl ⟨e, h0, List.eq_nil_of_length_eq_zero (by rw [h.1, h0]; simp)⟩
  · exact .inr h'
theorem SlR.form {w : World} {size : Nat} {v : Value} {n : Nat} {xs : List Value} (h : SlR w size v n xs) : ∃ a cap, v = .slice a n cap := by
  rcases h.2 with ⟨⟨_, _, rfl⟩, rfl⟩ | ⟨b, off, cap, rfl, _⟩
  · exact ⟨_, _, rfl⟩
  · exact ⟨_, _, rfl⟩
theorem SlR.below {w w' : World} {B size : Nat} {v : Value} {n : Nat} {xs : List Value} (h : SlR w size v n xs) (hb : Below B w w') (hB : ∀ b, v.ownBlock = Option.some b → 0 < n → b < B) : SlR w' size v n xs := by
  refine ⟨h.1, ?_⟩
  rcases h.2 with h0 | ⟨b, off, cap, rfl, hlt, hn, hc⟩
  · exact .inl h0
  · by_cases h0 : 0 < n
    · exact .inr ⟨b, off, cap, rfl, Nat.lt_of_lt_of_le hlt hb.size, hn, fun j u hu => by rw [hb.cell (p := ⟨b, off + j, none⟩) (hB b rfl h0)]; exact hc j u hu⟩
    · obtain rfl : n = 0 := by omega
      exact .inl ⟨⟨_, _, rfl⟩, rfl⟩
theorem SlR.below_all {w w' : World} {size : Nat} {v : Value} {n : Nat} {xs : List Value} (h : SlR w size v n xs) (hb : Below w.heap.size w w') : SlR w' size v n xs := by
  refine h.below hb fun b e h0 => ?_
  rcases h.2 with ⟨_, rfl⟩ | ⟨b', off, cap, rfl, hlt, hn, hc⟩
  · omega
  · simp [Value.ownBlock] at e; omega
end Go.Proofs.YtaggjikjohamjaaGreatDoor
end
section
namespace Go.Proofs.YtaggjikjohamjaaGreatDoor
open Go.RowKit
set_option linter.unusedVariables false
set_option maxRecDepth 100000
/-! ### Frames -/
def look : List (Nat × Value) → Nat → Option Value
  | [], _ => none
  | (s, v) :: r, t => cond (Nat.beq s t) (some v) (look r t)
theorem nbeq {a b : Nat} (h : a ≠ b) : Nat.beq a b = false := by
  cases h' : Nat.beq a b
  · rfl
  · exact absurd (Nat.eq_of_beq_eq_true h') h
/-- What is known of a frame of n slots. -/
structure Fr (a : Act) (n : Nat) (l : List (Nat × Value)) : Prop where
  ds : a.defers = []
  size : a.tmps.size = n
  val : ∀ t v, look l t = some v → t < n ∧ a.tmps.getD t undef = v
def evl (l : List (Nat × Value)) : Operand → Option Value
  | .tmp t => look l t
  | .const v => some v
  | .global g => some (.pointer (some ⟨g, 0, none⟩))
  | .func f => some (.func (.func f) #[] #[])
def evls (l : List (Nat × Value)) : List Operand → Option (List Value)
  | [] => some []
  | x :: r => match evl l x, evls l r with
    | some v, some vs => some (v :: vs)
    | _, _ => none
theorem Fr.eval {a : Act} {n : Nat} {l : List (Nat × Value)} (F : Fr a n l) {x : Operand} {v : Value} (h : evl l x = some v) : a.eval x = v := by
  cases x with
  | tmp t => exact (F.val t v h).2
  | const u => exact Option.some.inj h
  | global g => exact Option.some.inj h
  | func f => exact Option.some.inj h
theorem Fr.evals {a : Act} {n : Nat} {l : List (Nat × Value)} (F : Fr a n l) : ∀ {xs : List Operand} {vs : List Value}, evls l xs = some vs → xs.map a.eval = vs
  | [], vs, h => by simp [evls] at h; simp [h]
  | x :: r, vs, h => by
    simp only [evls] at h
    split at h
    · rename_i v us h1 h2
      obtain rfl := Option.some.inj h
      simp [F.eval h1, F.evals h2]
    · cases h
theorem Fr.put {a : Act} {n : Nat} {l : List (Nat × Value)} (F : Fr a n l) (d : Nat) (v : Value) (hd : Nat.ble (d + 1) n = true) : Fr (a.put (some d) v) n ((d, v) :: l) := by
  have hd' : d < n := Nat.le_of_ble_eq_true hd
  refine ⟨F.ds, by simp [Act.put, F.size], fun t u h => ?_⟩
  simp only [look] at h
  by_cases ht : d = t
  · subst ht
    rw [show Nat.beq d d = true from Nat.beq_refl d] at h
    obtain rfl := Option.some.inj h
    exact ⟨hd', by simp [Act.put, F.size, hd']⟩
  · rw [nbeq ht] at h
    obtain ⟨h1, h2⟩ := F.val t u h
    refine ⟨h1, ?_⟩
    rw [← h2]
    simp [Act.put, Array.getElem?_setIfInBounds, ht]
/-- The put's slot, or none. -/
def putL (d : Option Nat) (v : Value) (l : List (Nat × Value)) : List (Nat × Value) := match d with | some t => (t, v) :: l | none => l
/-- Keep of a frame these slots alone. -/
theorem Fr.keep {a : Act} {n : Nat} {l l' : List (Nat × Value)} (F : Fr a n l) (h : ∀ p ∈ l', look l p.1 = some p.2) : Fr a n l' := by
  refine ⟨F.ds, F.size, fun t v ht => F.val t v ?_⟩
  induction l' with
  | nil => simp [look] at ht
  | cons p r ih =>
    obtain ⟨s, u⟩ := p
    simp only [look] at ht
    by_cases hs : s = t
    · subst hs
      rw [show Nat.beq s s = true from Nat.beq_refl s] at ht
      obtain rfl : u = v := Option.some.inj ht
      exact h (s, u) (by simp)
    · rw [nbeq hs] at ht
      exact ih (fun p hp => h p (by simp [hp])) ht
theorem keep_nil {l : List (Nat × Value)} : ∀ p ∈ ([] : List (Nat × Value)), look l p.1 = some p.2 := by simp
theorem keep_cons {l r : List (Nat × Value)} {t : Nat} {v : Value} (h : look l t = some v) (hr : ∀ p ∈ r, look l p.1 = some p.2) : ∀ p ∈ (t, v) :: r, look l p.1 = some p.2 := by
  intro p hp
  rcases List.mem_cons.1 hp with rfl | hp
  · exact h
  · exact hr p hp
def initL : Nat → List Value → List (Nat × Value)
  | _, [] => []
  | k, v :: r => (k, v) :: initL (k + 1) r
theorem look_initL : ∀ (vs : List Value) (k t : Nat) (v : Value), look (initL k vs) t = some v → k ≤ t ∧ t < k + vs.length ∧ vs[t - k]? = some v
  | [], k, t, v, h => by simp [initL, look] at h
  | u :: r, k, t, v, h => by
    simp only [initL, look] at h
    by_cases hk : k = t
    · subst hk
      rw [show Nat.beq k k = true from Nat.beq_refl k] at h
      obtain rfl := Option.some.inj h
      simp
    · rw [nbeq hk] at h
      obtain ⟨h1, h2, h3⟩ := look_initL r (k + 1) t v h
      refine ⟨by omega, by simp; omega, ?_⟩
      rw [show t - k = (t - (k + 1)) + 1 from by omega]
      simpa using h3
theorem Fr.init (vs : List Value) (k : Nat) : Fr { tmps := vs.toArray ++ Array.replicate k undef, defers := [] } (vs.length + k) (initL 0 vs) := by
  refine ⟨rfl, by simp, fun t v h => ?_⟩
  obtain ⟨_, h2, h3⟩ := look_initL vs 0 t v h
  simp only [Nat.sub_zero, Nat.zero_add] at h2 h3
  refine ⟨by omega, ?_⟩
  have h4 : vs[t] = v := by
    have := List.getElem?_eq_getElem h2
    rw [h3] at this; exact (Option.some.inj this).symm
  rw [Array.getD_eq_getD_getElem?, Array.getElem?_append_left (by simpa using h2)]
  simp [h2, h4]
theorem sx_enter {P : Program} {f : FuncId} {fn : Func} {c : Code} {vs : List Value} {w : World} {R : Ending → World → Prop} (hf : P.funcs[f]? = some fn) (hb : fn.body = some c) {n k : Nat} (hn : fn.ntmps = n) (hle : Nat.ble vs.length n = true) (hk0 : n - vs.length = k)
    (h : ∀ a, Fr a n (initL 0 vs) → c.wp P (bodyPost P fn R) a w) : Calls P f vs.toArray w R := by
  have hk : vs.length + k = n := by have := Nat.le_of_ble_eq_true hle; omega
  subst hn
  refine calls_of_wp hf hb (h _ ?_)
  have := Fr.init vs k
  rw [hk] at this
  rw [show fn.ntmps - vs.toArray.size = k by simp; omega]
  exact this
/-! ### Memory: separate parts -/
def Agree (s : List Nat) (w w' : World) : Prop := w'.os = w.os ∧ w'.tape = w.tape ∧ w'.output = w.output ∧ ∀ b ∈ s, w'.heap[b]? = w.heap[b]?
theorem Agree.refl (s : List Nat) (w : World) : Agree s w w := ⟨rfl, rfl, rfl, fun _ _ => rfl⟩
theorem Agree.trans {s : List Nat} {a b c : World} (h : Agree s a b) (k : Agree s b c) : Agree s a c := ⟨k.1.trans h.1, k.2.1.trans h.2.1, k.2.2.1.trans h.2.2.1, fun x hx => (k.2.2.2 x hx).trans (h.2.2.2 x hx)⟩
theorem Agree.sub {s r : List Nat} {a b : World} (h : Agree s a b) (hr : ∀ x ∈ r, x ∈ s) : Agree r a b := ⟨h.1, h.2.1, h.2.2.1, fun x hx => h.2.2.2 x (hr x hx)⟩
/-- A part of memory: it holds of some blocks (its own) in a world. -/
abbrev Asn := List Nat → World → Prop
structure Ok (A : Asn) (s : List Nat) (w : World) : Prop where
  lt : ∀ b ∈ s, b < w.heap.size
  all : ∀ w', Agree s w w' → A s w'
theorem Ok.now {A : Asn} {s : List Nat} {w : World} (h : Ok A s w) : A s w := h.all w (Agree.refl s w)
theorem Ok.agree {A : Asn} {s : List Nat} {w w' : World} (h : Ok A s w) (hw : Agree s w w') (hsz : w.heap.size ≤ w'.heap.size) : Ok A s w' :=
  ⟨fun b hb => Nat.lt_of_lt_of_le (h.lt b hb) hsz, fun w'' hw'' => h.all w'' (hw.trans hw'')⟩
theorem Ok.imp {A B : Asn} {s : List Nat} {w : World} (h : Ok A s w) (hi : ∀ w', A s w' → B s w') : Ok B s w := ⟨h.lt, fun w' hw => hi w' (h.all w' hw)⟩
inductive Sat : List Asn → List Nat → World → Prop where
  | nil (w : World) : Sat [] [] w
  | cons {A : Asn} {L : List Asn} {s r : List Nat} {w : World} : Ok A s w → Sat L r w → (∀ b ∈ s, b ∉ r) → Sat (A :: L) (s ++ r) w
theorem Sat.agree {L : List Asn} {s : List Nat} {w w' : World} (h : Sat L s w) (hw : Agree s w w') (hsz : w.heap.size ≤ w'.heap.size) : Sat L s w' := by
  induction h with
  | nil => exact .nil w'
  | cons h1 _ h3 ih => exact .cons (h1.agree (hw.sub fun x hx => by simp [hx]) hsz) (ih (hw.sub fun x hx => by simp [hx]) hsz) h3
theorem Sat.lt {L : List Asn} {s : List Nat} {w : World} (h : Sat L s w) : ∀ b ∈ s, b < w.heap.size := by
  induction h with
  | nil => simp
  | cons h1 _ _ ih =>
    intro b hb
    rcases List.mem_append.1 hb with hb | hb
    · exact h1.lt b hb
    · exact ih b hb
/-- The world's memory holds these separate parts (and whatever else). -/
def Mem (w : World) (L : List Asn) : Prop := ∃ s, Sat L s w
/-- w' is w but for the blocks s, and new ones. -/
structure Chg (s : List Nat) (w w' : World) : Prop where
  os : w'.os = w.os
  tape : w'.tape = w.tape
  output : w'.output = w.output
  size : w.heap.size ≤ w'.heap.size
  block : ∀ k, k < w.heap.size → k ∉ s → w'.heap[k]? = w.heap[k]?
theorem Chg.agree {s r : List Nat} {w w' : World} (h : Chg s w w') (hr : ∀ b ∈ r, b < w.heap.size ∧ b ∉ s) : Agree r w w' := ⟨h.os, h.tape, h.output, fun b hb => h.block b (hr b hb).1 (hr b hb).2⟩
theorem Mem.change {A : Asn} {L : List Asn} {w w' : World} (M : Mem w (A :: L)) {B : Asn} (h : ∀ s, Ok A s w → Chg s w w' ∧ ∃ s', Ok B s' w' ∧ ∀ b ∈ s', b ∈ s ∨ w.heap.size ≤ b) : Mem w' (B :: L) := by
  obtain ⟨s, hs⟩ := M
  cases hs with
  | @cons _ _ s r _ h1 h2 h3 =>
    obtain ⟨hc, s', hB, hsub⟩ := h s h1
    refine ⟨s' ++ r, .cons hB (h2.agree (hc.agree fun b hb => ⟨h2.lt b hb, fun hm => h3 b hm hb⟩) hc.size) fun b hb hr => ?_⟩
    rcases hsub b hb with hb | hb
    · exact h3 b hb hr
    · have := h2.lt b hr; omega
theorem Mem.new {L : List Asn} {w w' : World} (M : Mem w L) {B : Asn} (hc : Chg [] w w') (h : ∃ s', Ok B s' w' ∧ ∀ b ∈ s', w.heap.size ≤ b) : Mem w' (B :: L) := by
  obtain ⟨r, hr⟩ := M
  obtain ⟨s', hB, hsub⟩ := h
  refine ⟨s' ++ r, .cons hB (hr.agree (hc.agree fun b hb => ⟨hr.lt b hb, by simp⟩) hc.size) fun b hb hbr => ?_⟩
  have := hr.lt b hbr
  have := hsub b hb
  omega
theorem Mem.same {L : List Asn} {w w' : World} (M : Mem w L) (hc : Chg [] w w') : Mem w' L := by
  obtain ⟨r, hr⟩ := M
  exact ⟨r, hr.agree (hc.agree fun b hb => ⟨hr.lt b hb, by simp⟩) hc.size⟩
theorem Mem.drew {L : List Asn} {w : World} (M : Mem w L) (n : Nat) : Mem { w with drawn := n } L := M.same ⟨rfl, rfl, rfl, Nat.le_refl _, fun _ _ _ => rfl⟩
theorem Mem.nil (w : World) : Mem w [] := ⟨[], .nil w⟩
theorem Mem.drop {A : Asn} {L : List Asn} {w : World} (M : Mem w (A :: L)) : Mem w L := by
  obtain ⟨s, hs⟩ := M
  cases hs with
  | cons _ h2 _ => exact ⟨_, h2⟩
theorem Mem.imp {A B : Asn} {L : List Asn} {w : World} (M : Mem w (A :: L)) (h : ∀ s w', A s w' → B s w') : Mem w (B :: L) :=
  M.change fun s hs => ⟨⟨rfl, rfl, rfl, Nat.le_refl _, fun _ _ _ => rfl⟩, s, hs.imp (h s), fun b hb => .inl hb⟩
theorem Mem.head {A : Asn} {L : List Asn} {w : World} (M : Mem w (A :: L)) : ∃ s, A s w ∧ ∀ b ∈ s, b < w.heap.size := by
  obtain ⟨s, hs⟩ := M
  cases hs with
  | cons h1 _ _ => exact ⟨_, h1.now, h1.lt⟩
/-- L is L' with A ahead, up to order. -/
inductive Pull : List Asn → Asn → List Asn → Prop where
  | here {A : Asn} {L : List Asn} : Pull (A :: L) A L
  | there {X A : Asn} {L L' : List Asn} : Pull L A L' → Pull (X :: L) A (X :: L')
theorem Sat.pull {L L' : List Asn} {A : Asn} (h : Pull L A L') : ∀ {s : List Nat} {w : World}, Sat L s w → ∃ s', Sat (A :: L') s' w ∧ (∀ b, b ∈ s' ↔ b ∈ s) := by
  induction h with
  | here => exact fun hs => ⟨_, hs, fun _ => Iff.rfl⟩
  | there h ih =>
    intro s w hs
    cases hs with
    | cons h1 h2 h3 =>
      obtain ⟨s', k1, k2⟩ := ih h2
      cases k1 with
      | @cons _ _ sa ra _ m1 m2 m3 =>
        refine ⟨_, .cons m1 (.cons h1 m2 fun b hb hr => h3 b hb ((k2 b).1 (by simp [hr]))) fun b hb hm => ?_, fun b => ?_⟩
        · rcases List.mem_append.1 hm with hm | hm
          · exact h3 b hm ((k2 b).1 (by simp [hb]))
          · exact m3 b hb hm
        · have := k2 b
          simp only [List.mem_append] at this ⊢
          constructor
          · rintro (h | h | h)
            · exact .inr (this.1 (.inl h))
            · exact .inl h
            · exact .inr (this.1 (.inr h))
          · rintro (h | h)
            · exact .inr (.inl h)
            · rcases this.2 h with h | h
              · exact .inl h
              · exact .inr (.inr h)
theorem Sat.push {L L' : List Asn} {A : Asn} (h : Pull L A L') : ∀ {s : List Nat} {w : World}, Sat (A :: L') s w → ∃ s', Sat L s' w ∧ (∀ b, b ∈ s' ↔ b ∈ s) := by
  induction h with
  | here => exact fun hs => ⟨_, hs, fun _ => Iff.rfl⟩
  | there h ih =>
    intro s w hs
    cases hs with
    | cons h1 h2 h3 =>
      cases h2 with
      | @cons _ _ sx rx _ m1 m2 m3 =>
        obtain ⟨s', k1, k2⟩ := ih (Sat.cons h1 m2 fun b hb hr => h3 b hb (by simp [hr]))
        refine ⟨_, .cons m1 k1 fun b hb hm => ?_, fun b => ?_⟩
        · rcases List.mem_append.1 ((k2 b).1 hm) with hm | hm
          · exact h3 b hm (by simp [hb])
          · exact m3 b hb hm
        · have := k2 b
          simp only [List.mem_append] at this ⊢
          constructor
          · rintro (h | h)
            · exact .inr (.inl h)
            · rcases this.1 h with h | h
              · exact .inl h
              · exact .inr (.inr h)
          · rintro (h | h | h)
            · exact .inr (this.2 (.inl h))
            · exact .inl h
            · exact .inr (this.2 (.inr h))
theorem Mem.pull {L L' : List Asn} {A : Asn} {w : World} (M : Mem w L) (h : Pull L A L') : Mem w (A :: L') := by
  obtain ⟨s, hs⟩ := M
  obtain ⟨s', h1, _⟩ := hs.pull h
  exact ⟨s', h1⟩
theorem Mem.push {L L' : List Asn} {A : Asn} {w : World} (M : Mem w (A :: L')) (h : Pull L A L') : Mem w L := by
  obtain ⟨s, hs⟩ := M
  obtain ⟨s', h1, _⟩ := hs.push h
  exact ⟨s', h1⟩
/-- L2 is L with B in the place of A. -/
inductive Rep : List Asn → Asn → Asn → List Asn → Prop where
  | here {A B : Asn} {L : List Asn} : Rep (A :: L) A B (B :: L)
  | there {X A B : Asn} {L L' : List Asn} : Rep L A B L' → Rep (X :: L) A B (X :: L')
theorem Rep.both {L L2 : List Asn} {A B : Asn} (h : Rep L A B L2) : ∃ L', Pull L A L' ∧ Pull L2 B L' := by
  induction h with
  | here => exact ⟨_, .here, .here⟩
  | there h ih => obtain ⟨L', h1, h2⟩ := ih; exact ⟨_, .there h1, .there h2⟩
theorem Mem.rep {L L2 : List Asn} {A B : Asn} {w w' : World} (M : Mem w L) (h : Rep L A B L2) (hc : ∀ s, Ok A s w → Chg s w w' ∧ ∃ s', Ok B s' w' ∧ ∀ b ∈ s', b ∈ s ∨ w.heap.size ≤ b) : Mem w' L2 := by
  obtain ⟨L', h1, h2⟩ := h.both
  exact ((M.pull h1).change hc).push h2
/-- Block b is a row of these cells. -/
def pt (b : Nat) (cs : List Value) (t : TypeId) : Asn := fun s w => s = [b] ∧ w.heap[b]? = some (.cells cs.toArray t (0, 0))
theorem Mem.pt {L L' : List Asn} {b : Nat} {cs : List Value} {t : TypeId} {w : World} (M : Mem w L) (h : Pull L (pt b cs t) L') : w.heap[b]? = some (.cells cs.toArray t (0, 0)) := by
  obtain ⟨s, hs, _⟩ := (M.pull h).head
  exact hs.2
theorem ok_pt {w : World} {b : Nat} {cs : List Value} {t : TypeId} (h : w.heap[b]? = some (.cells cs.toArray t (0, 0))) : Ok (pt b cs t) [b] w := by
  refine ⟨fun x hx => ?_, fun w' hw => ⟨rfl, ?_⟩⟩
  · obtain rfl : x = b := by simpa using hx
    exact (Array.getElem?_eq_some_iff.1 h).1
  · rw [hw.2.2.2 b (by simp)]; exact h
theorem Mem.alloc {L : List Asn} {w : World} (M : Mem w L) (cs : List Value) (t : TypeId) : Mem (w.alloc (.cells cs.toArray t)) (Go.Proofs.YtaggjikjohamjaaGreatDoor.pt w.heap.size cs t :: L) :=
  M.new ⟨rfl, rfl, rfl, by simp, fun k hk _ => (((Below.refl _ _).alloc (Nat.le_refl _) _).block k hk)⟩ ⟨[w.heap.size], ok_pt (heap_alloc_new w _), by simp⟩
theorem chg_setRow {w : World} {b : Nat} {cs : Array Value} : Chg [b] w (w.setRow b cs) :=
  ⟨rfl, rfl, rfl, by simp, fun k _ hk => setRow_other w b k cs (by simpa using hk)⟩
theorem Mem.setRow {L L2 : List Asn} {b : Nat} {cs cs' : List Value} {t : TypeId} {w : World} (M : Mem w L) (h : Rep L (Go.Proofs.YtaggjikjohamjaaGreatDoor.pt b cs t) (Go.Proofs.YtaggjikjohamjaaGreatDoor.pt b cs' t) L2) : Mem (w.setRow b cs'.toArray) L2 :=
  M.rep h fun s hs => by
    obtain ⟨rfl, hb⟩ := hs.now
    exact ⟨chg_setRow, [b], ok_pt (setRow_heap w b _ _ t _ hb), fun x hx => .inl hx⟩
/-- All that the world w0 held is as it was. -/
def Old (w0 : World) : Asn := fun s w => s = List.range w0.heap.size ∧ w.os = w0.os ∧ w.tape = w0.tape ∧ w.output = w0.output ∧ ∀ b, b < w0.heap.size → w.heap[b]? = w0.heap[b]?
theorem Mem.old (w : World) : Mem w [Old w] := by
  refine ⟨List.range w.heap.size ++ [], .cons ⟨by simp, fun w' h => ⟨rfl, h.1, h.2.1, h.2.2.1, fun b hb => h.2.2.2 b (by simpa using hb)⟩⟩ (.nil w) (by simp)⟩
theorem Mem.below {w0 w : World} {L L' : List Asn} (M : Mem w L) (h : Pull L (Old w0) L') : Below w0.heap.size w0 w := by
  obtain ⟨s, ⟨rfl, h1, h2, h3, h4⟩, h5⟩ := (M.pull h).head
  refine ⟨h1, h2, h3, ?_, h4⟩
  rcases Nat.lt_or_ge w.heap.size w0.heap.size with hlt | hge
  · have := h5 w.heap.size (by simpa using hlt); omega
  · exact hge
theorem Mem.of_below {w w' : World} {L : List Asn} (M : Mem w L) (h : Below w.heap.size w w') : Mem w' L := M.same ⟨h.os, h.tape, h.output, h.size, fun k hk _ => h.block k hk⟩
/-! ### Tables of the program's types -/
/-- How values of a type are read: one cell, or so many. -/
class KT (t : TypeId) (r : outParam (Option Nat)) : Prop where
  k : (Tryz.prog.underlying t).map (fun d => (match d with | .struct _ | .array _ _ => true | _ => false)) = some r.isSome ∧ (Tryz.prog.info? t).map (·.size) = some (r.getD 1)
class ZT (t : TypeId) (zs : outParam (List Value)) : Prop where
  k : (Tryz.prog.info? t).map (fun i => i.zero.map Value.cells) = some (some zs.toArray)
class FO (t : TypeId) (f : Nat) (off : outParam Nat) : Prop where
  k : (match Tryz.prog.underlying t with | some (.struct fs) => (fs[f]?).map (fun f => (f.offset, (match Tryz.prog.info? f.type with | some i => Nat.ble 1 i.size | none => false))) | _ => none) = some (off, true)
/-- A slice type: its elements' type, their zero value, their cells and bytes. -/
class ST (t : TypeId) (e : outParam TypeId) (z : outParam Value) (size bytes : outParam Nat) : Prop where
  k : Tryz.prog.underlying t = some (.slice e) ∧ (Tryz.prog.info? e).map (fun i => (i.zero, i.size, i.bytes)) = some (some z, size, bytes) ∧ (z.cells.size == size && Nat.ble 1 size) = true
/-- An array type: its length, its elements' type and their cells. -/
class AT (t : TypeId) (len : outParam Nat) (e : outParam TypeId) (size : outParam Nat) : Prop where
  k : Tryz.prog.underlying t = some (.array len e) ∧ (Tryz.prog.info? e).map (fun i => i.size) = some size
class FK (f : FuncId) : Prop where
  k : (match Tryz.prog.funcs[f]? with | some fn => !(fn.name == "runtime.NumGoroutine") && fn.body.isSome | none => false) = true
theorem run_isAgg {t : TypeId} {r : Option Nat} [h : KT t r] (w : World) : (isAgg t).run Tryz.prog w = .ok r.isSome w ∧ (sizeOf t).run Tryz.prog w = .ok (r.getD 1) w := by
  obtain ⟨h1, h2⟩ := h.k
  constructor
  · cases hu : Tryz.prog.underlying t with
    | none => rw [hu] at h1; cases h1
    | some d =>
      rw [hu] at h1
      have h1 := Option.some.inj h1
      unfold isAgg
      rw [Sem.run_bind, run_underlying hu w]
      cases d <;> simp_all
  · cases hi : Tryz.prog.info? t with
    | none => rw [hi] at h2; cases h2
    | some i =>
      rw [hi] at h2
      have h2 := Option.some.inj h2
      simp [sizeOf, typeInfo, hi, h2]
theorem add0 (b i j : Nat) : (⟨b, i, none⟩ : Addr).add j = ⟨b, i + j, none⟩ := by unfold Addr.add; split <;> simp_all
theorem run_loadVar_one {t : TypeId} [KT t none] {w : World} {b i : Nat} {v : Value} (h : w.cell? ⟨b, i, none⟩ = some v) : (loadVar t ⟨b, i, none⟩).run Tryz.prog w = .ok v w := by
  simp [loadVar, Sem.run_bind, (run_isAgg (t := t) w).1, load, Sem.run, h]
theorem run_loadVar_agg {t : TypeId} {k : Nat} [KT t (some k)] {w : World} {b i : Nat} {cs : List Value} (hl : cs.length = k) (h : ∀ j u, cs[j]? = some u → w.cell? ⟨b, i + j, none⟩ = some u) : (loadVar t ⟨b, i, none⟩).run Tryz.prog w = .ok (.agg cs.toArray) w := by
  subst hl
  have hl := run_loadCells_list (P := Tryz.prog) w ⟨b, i, none⟩ cs (fun j v hv => by rw [add0]; exact h j v hv)
  simp [loadVar, Sem.run_bind, (run_isAgg (t := t) w).1, (run_isAgg (t := t) w).2, hl]
theorem run_storeVar_one {t : TypeId} [KT t none] {w : World} {b i : Nat} {v u : Value} (h : w.cell? ⟨b, i, none⟩ = some u) (hf : w.frozen? ⟨b, i, none⟩ = false) (hv : v.oneCell' = true) : (storeVar t ⟨b, i, none⟩ v).run Tryz.prog w = .ok () (w.setCell ⟨b, i, none⟩ v) := by
  have h1 : v.cells = #[v] := by cases v <;> simp_all [Value.oneCell', Value.cells]
  have h2 : (⟨b, i, none⟩ : Addr).add 0 = ⟨b, i, none⟩ := by rw [add0]; rfl
  simp only [storeVar, Sem.run_bind, (run_isAgg (t := t) w).2, Result.andThen_ok, h1]
  cases v <;> simp_all [storeCells, store, Sem.run, Value.oneCell']
/-! ### Comparing values of flat types -/
inductive Sc where
  | int | bool | str
def scEq : Sc → Value → Value → Option Bool
  | .int, .int k x, .int k' y => if k = k' then some (decide (x = y)) else none
  | .bool, .bool x, .bool y => some (x == y)
  | .str, .string x, .string y => some (x.toList == y.toList)
  | _, _, _ => none
def cellsEq : List Sc → List Value → List Value → Option Bool
  | [], [], [] => some true
  | k :: ks, x :: xs, y :: ys => match scEq k x y, cellsEq ks xs ys with
    | some a, some b => some (a && b)
    | _, _ => none
  | _, _, _ => none
def scOf (P : Program) (t : TypeId) : Option Sc := match P.underlying t with | some .bool => some .bool | some (.int _) => some .int | some .string => some .str | _ => none
def flatFs (P : Program) : List Field → List Sc → Nat → Bool
  | [], [], _ => true
  | f :: fs, k :: ks, o => f.name != "_" && Nat.beq f.offset o && (match scOf P f.type, k with | some .int, .int | some .bool, .bool | some .str, .str => true | _, _ => false) && flatFs P fs ks (o + 1)
  | _, _, _ => false
theorem scEq_run {P : Program} {t : TypeId} {k : Sc} {x y : Value} {r : Bool} (hk : (match scOf P t, k with | some .int, .int | some .bool, .bool | some .str, .str => true | _, _ => false) = true) (h : scEq k x y = some r) (d : Nat) (w : World) :
    P.plainKey t = true ∧ (Op.equalIn (d + 1) t x y).run P w = .ok r w := by
  unfold scOf at hk
  cases hu : P.underlying t with
  | none => rw [hu] at hk; simp at hk
  | some u =>
    rw [hu] at hk
    cases u <;> simp at hk
    all_goals
      cases k <;> simp at hk
      cases x <;> cases y <;> simp [scEq] at h
    case int.int.int.int k' k1 x1 k2 y1 =>
      obtain ⟨rfl, rfl⟩ := h
      refine ⟨by simp [Program.plainKey, hu], ?_⟩
      rw [run_equalIn_int w d t k1 k' x1 y1 hu]; rfl
    case bool.bool.bool.bool x1 y1 =>
      subst h
      exact ⟨by simp [Program.plainKey, hu], run_equalIn_bool' w d t x1 y1 hu⟩
    case string.str.string.string x1 y1 =>
      subst h
      exact ⟨by simp [Program.plainKey, hu], run_equalIn_string w d t x1 y1 hu⟩
theorem eqFields_flat {P : Program} (d : Nat) (w : World) (xs ys : List Value) : ∀ (fs : List Field) (ks : List Sc) (o : Nat) (r : Bool), flatFs P fs ks o = true → cellsEq ks (xs.drop o) (ys.drop o) = some r → (Op.eqFields (d + 1) xs.toArray ys.toArray fs).run P w = .ok r w
  | [], [], o, r, _, h => by
    cases hx : xs.drop o <;> cases hy : ys.drop o <;> rw [hx, hy] at h <;> simp [cellsEq] at h
    subst h
    simp [Op.eqFields]
  | f :: fs, k :: ks, o, r, hf, h => by
    simp only [flatFs, Bool.and_eq_true] at hf
    obtain ⟨⟨⟨h1, h2⟩, h3⟩, h4⟩ := hf
    cases hx : xs.drop o with
    | nil => rw [hx] at h; cases hy : ys.drop o <;> rw [hy] at h <;> simp [cellsEq] at h
    | cons x xs' =>
      cases hy : ys.drop o with
      | nil => rw [hx, hy] at h; simp [cellsEq] at h
      | cons y ys' =>
        rw [hx, hy] at h
        simp only [cellsEq] at h
        split at h
        · rename_i p q hp hq
          obtain rfl := Option.some.inj h
          have ho : f.offset = o := Nat.eq_of_beq_eq_true h2
          obtain ⟨hk, he⟩ := scEq_run h3 hp d w
          have hx1 : xs.toArray[f.offset]? = some x := by
            have : xs[o]? = some x := by have := congrArg (fun l => l[0]?) hx; simpa using this
            rw [ho]; simpa using this
          have hy1 : ys.toArray[f.offset]? = some y := by
            have : ys[o]? = some y := by have := congrArg (fun l => l[0]?) hy; simpa using this
            rw [ho]; simpa using this
          have hx2 : xs.drop (o + 1) = xs' := by rw [← List.drop_drop, hx]; rfl
          have hy2 : ys.drop (o + 1) = ys' := by rw [← List.drop_drop, hy]; rfl
          have ih := eqFields_flat d w xs ys fs ks (o + 1) q h4 (by rw [hx2, hy2]; exact hq)
          have hn : f.name ≠ "_" := by simpa using h1
          simp only [Op.eqFields, if_pos hn, Sem.run_bind, run_part_plain w hk hx1, run_part_plain w hk hy1, Result.andThen_ok, he]
          cases p <;> simp [ih]
        · cases h
  | [], _ :: _, _, _, hf, _ => by simp [flatFs] at hf
  | _ :: _, [], _, _, hf, _ => by simp [flatFs] at hf
theorem eqItems_flat {P : Program} (d : Nat) (w : World) {e : TypeId} {k : Sc} (hk : (match scOf P e, k with | some .int, .int | some .bool, .bool | some .str, .str => true | _, _ => false) = true) (xs ys : List Value) : ∀ (m o : Nat) (r : Bool), cellsEq (List.replicate m k) (xs.drop o) (ys.drop o) = some r →
    (Op.eqItems (d + 1) e 1 xs.toArray ys.toArray (List.range' o m)).run P w = .ok r w
  | 0, o, r, h => by
    cases hx : xs.drop o <;> cases hy : ys.drop o <;> rw [hx, hy] at h <;> simp [cellsEq] at h
    subst h
    simp [Op.eqItems]
  | m + 1, o, r, h => by
    rw [List.replicate_succ] at h
    cases hx : xs.drop o with
    | nil => rw [hx] at h; cases hy : ys.drop o <;> rw [hy] at h <;> simp [cellsEq] at h
    | cons x xs' =>
      cases hy : ys.drop o with
      | nil => rw [hx, hy] at h; simp [cellsEq] at h
      | cons y ys' =>
        rw [hx, hy] at h
        simp only [cellsEq] at h
        split at h
        · rename_i p q hp hq
          obtain rfl := Option.some.inj h
          obtain ⟨hk', he⟩ := scEq_run hk hp d w
          have hx1 : xs.toArray[o * 1]? = some x := by
            have : xs[o]? = some x := by have := congrArg (fun l => l[0]?) hx; simpa using this
            simpa using this
          have hy1 : ys.toArray[o * 1]? = some y := by
            have : ys[o]? = some y := by have := congrArg (fun l => l[0]?) hy; simpa using this
            simpa using this
          have hx2 : xs.drop (o + 1) = xs' := by rw [← List.drop_drop, hx]; rfl
          have hy2 : ys.drop (o + 1) = ys' := by rw [← List.drop_drop, hy]; rfl
          have ih := eqItems_flat d w hk xs ys m (o + 1) q (by rw [hx2, hy2]; exact hq)
          rw [List.range'_succ]
          simp only [Op.eqItems, Sem.run_bind, run_part_plain w hk' hx1, run_part_plain w hk' hy1, Result.andThen_ok, he]
          cases p <;> simp [ih]
        · cases h
def flatT (P : Program) (t : TypeId) (ks : List Sc) : Bool :=
  match P.underlying t with
  | some (.struct fs) => flatFs P fs.toList ks 0 && !P.stoodInHeld t
  | some (.array n e) => (match ks with
    | k :: _ => (match scOf P e, k with | some .int, .int | some .bool, .bool | some .str, .str => true | _, _ => false) && Nat.beq ks.length n && ks.all (fun k' => match k, k' with | .int, .int | .bool, .bool | .str, .str => true | _, _ => false) && Nat.beq (P.cellsOf e) 1 && (P.info? e).isSome
    | [] => false)
  | _ => false
theorem cells_one {P : Program} {e : TypeId} (h : Nat.beq (P.cellsOf e) 1 = true) : P.cellsOf e = 1 := Nat.eq_of_beq_eq_true h
/-- A flat type: all its cells are numbers, bools or strings. -/
class EQ (t : TypeId) (ks : outParam (List Sc)) : Prop where
  k : flatT Tryz.prog t ks = true ∧ Tryz.prog.eqGuardType Tryz.prog.depth t = false
theorem run_eq_flat {t : TypeId} {ks : List Sc} [he : EQ t ks] {xs ys : List Value} {r : Bool} (h : cellsEq ks xs ys = some r) (w : World) : (Op.equalIn 10000 t (.agg xs.toArray) (.agg ys.toArray)).run Tryz.prog w = .ok r w := by
  have hf := he.k.1
  unfold flatT at hf
  cases hu : Tryz.prog.underlying t with
  | none => rw [hu] at hf; cases hf
  | some u =>
    rw [hu] at hf
    cases u with
    | struct fs =>
      simp only [Bool.and_eq_true, Bool.not_eq_true'] at hf
      have hfo : Tryz.prog.fieldsOf t = fs := by simp [Program.fieldsOf, hu]
      rw [run_equalIn_struct w 9999 t _ _ (by rw [hfo]; exact hu) hf.2, hfo]
      exact eqFields_flat 9998 w xs ys fs.toList ks 0 r hf.1 (by simpa using h)
    | array n e =>
      cases ks with
      | nil => simp at hf
      | cons k ks =>
        simp only [Bool.and_eq_true] at hf
        obtain ⟨⟨⟨⟨h1, h2⟩, h3⟩, h4⟩, h5⟩ := hf
        have hn : (k :: ks).length = n := Nat.eq_of_beq_eq_true h2
        have hrep : k :: ks = List.replicate n k := by
          rw [← hn]
          refine List.eq_replicate_iff.2 ⟨rfl, fun b hb => ?_⟩
          have := List.all_eq_true.1 h3 b hb
          cases k <;> cases b <;> simp_all
        obtain ⟨i, hi⟩ := Option.isSome_iff_exists.1 h5
        rw [run_equalIn_array w 9999 _ _ hu hi, cells_one h4, List.range_eq_range']
        exact eqItems_flat 9998 w h1 xs ys n 0 r (by rw [← hrep]; simpa using h)
    | _ => simp at hf
theorem scEq_refl {k : Sc} {x : Value} {r : Bool} (h : scEq k x x = some r) : r = true := by
  cases k <;> cases x <;> simp [scEq] at h <;> simp_all
theorem cellsEq_refl : ∀ {ks : List Sc} {xs : List Value} {r : Bool}, cellsEq ks xs xs = some r → r = true
  | [], [], r, h => by simp [cellsEq] at h; simp_all
  | k :: ks, x :: xs, r, h => by
    simp only [cellsEq] at h
    split at h
    · rename_i a b h1 h2
      obtain rfl := Option.some.inj h
      rw [scEq_refl h1, cellsEq_refl h2]; rfl
    · cases h
  | [], _ :: _, _, h => by simp [cellsEq] at h
  | _ :: _, [], _, h => by simp [cellsEq] at h
end Go.Proofs.YtaggjikjohamjaaGreatDoor
end
section
namespace Go.Proofs.YtaggjikjohamjaaGreatDoor
instance : KT 1 none := ⟨⟨by kernel_rfl, by kernel_rfl⟩⟩
instance : ZT 1 [.nilFunc] := ⟨by kernel_rfl⟩
instance : KT 2 none := ⟨⟨by kernel_rfl, by kernel_rfl⟩⟩
instance : ZT 2 [.int .i64 0] := ⟨by kernel_rfl⟩
instance : KT 3 none := ⟨⟨by kernel_rfl, by kernel_rfl⟩⟩
instance : ZT 3 [.int .i64 0] := ⟨by kernel_rfl⟩
instance : KT 4 none := ⟨⟨by kernel_rfl, by kernel_rfl⟩⟩
instance : ZT 4 [.bool false] := ⟨by kernel_rfl⟩
instance : KT 5 none := ⟨⟨by kernel_rfl, by kernel_rfl⟩⟩
instance : ZT 5 [.int .u8 0] := ⟨by kernel_rfl⟩
instance : KT 6 none := ⟨⟨by kernel_rfl, by kernel_rfl⟩⟩
instance : ZT 6 [.int .u8 0] := ⟨by kernel_rfl⟩
instance : KT 7 (some 4) := ⟨⟨by kernel_rfl, by kernel_rfl⟩⟩
instance : ZT 7 [.int .i64 0, .int .i64 0, .bool false, .int .u8 0] := ⟨by kernel_rfl⟩
instance : EQ 7 [.int, .int, .bool, .int] := ⟨⟨by kernel_rfl, by kernel_rfl⟩⟩
instance : FO 7 0 0 := ⟨by kernel_rfl⟩
instance : FO 7 1 1 := ⟨by kernel_rfl⟩
instance : FO 7 2 2 := ⟨by kernel_rfl⟩
instance : FO 7 3 3 := ⟨by kernel_rfl⟩
instance : KT 8 (some 4) := ⟨⟨by kernel_rfl, by kernel_rfl⟩⟩
instance : ZT 8 [.int .i64 0, .int .i64 0, .bool false, .int .u8 0] := ⟨by kernel_rfl⟩
instance : EQ 8 [.int, .int, .bool, .int] := ⟨⟨by kernel_rfl, by kernel_rfl⟩⟩
instance : FO 8 0 0 := ⟨by kernel_rfl⟩
instance : FO 8 1 1 := ⟨by kernel_rfl⟩
instance : FO 8 2 2 := ⟨by kernel_rfl⟩
instance : FO 8 3 3 := ⟨by kernel_rfl⟩
instance : KT 9 none := ⟨⟨by kernel_rfl, by kernel_rfl⟩⟩
instance : ZT 9 [.string ByteArray.empty] := ⟨by kernel_rfl⟩
instance : KT 10 none := ⟨⟨by kernel_rfl, by kernel_rfl⟩⟩
instance : ZT 10 [.string ByteArray.empty] := ⟨by kernel_rfl⟩
instance : KT 11 none := ⟨⟨by kernel_rfl, by kernel_rfl⟩⟩
instance : ZT 11 [.string ByteArray.empty] := ⟨by kernel_rfl⟩
instance : KT 12 none := ⟨⟨by kernel_rfl, by kernel_rfl⟩⟩
instance : ZT 12 [.int .u64 0] := ⟨by kernel_rfl⟩
instance : KT 13 (some 2) := ⟨⟨by kernel_rfl, by kernel_rfl⟩⟩
instance : ZT 13 [.string ByteArray.empty, .int .u64 0] := ⟨by kernel_rfl⟩
instance : FO 13 0 0 := ⟨by kernel_rfl⟩
instance : FO 13 1 1 := ⟨by kernel_rfl⟩
instance : KT 14 (some 2) := ⟨⟨by kernel_rfl, by kernel_rfl⟩⟩
instance : ZT 14 [.string ByteArray.empty, .int .u64 0] := ⟨by kernel_rfl⟩
instance : FO 14 0 0 := ⟨by kernel_rfl⟩
instance : FO 14 1 1 := ⟨by kernel_rfl⟩
instance : KT 15 none := ⟨⟨by kernel_rfl, by kernel_rfl⟩⟩
instance : ZT 15 [.pointer none] := ⟨by kernel_rfl⟩
instance : KT 16 none := ⟨⟨by kernel_rfl, by kernel_rfl⟩⟩
instance : ZT 16 [.pointer none] := ⟨by kernel_rfl⟩
instance : KT 17 none := ⟨⟨by kernel_rfl, by kernel_rfl⟩⟩
instance : ZT 17 [.pointer none] := ⟨by kernel_rfl⟩
instance : KT 18 (some 1) := ⟨⟨by kernel_rfl, by kernel_rfl⟩⟩
instance : ZT 18 [.pointer none] := ⟨by kernel_rfl⟩
instance : FO 18 0 0 := ⟨by kernel_rfl⟩
instance : KT 19 (some 1) := ⟨⟨by kernel_rfl, by kernel_rfl⟩⟩
instance : ZT 19 [.pointer none] := ⟨by kernel_rfl⟩
instance : FO 19 0 0 := ⟨by kernel_rfl⟩
instance : KT 20 none := ⟨⟨by kernel_rfl, by kernel_rfl⟩⟩
instance : ZT 20 [.nilIface] := ⟨by kernel_rfl⟩
instance : KT 21 none := ⟨⟨by kernel_rfl, by kernel_rfl⟩⟩
instance : ZT 21 [.int .i32 0] := ⟨by kernel_rfl⟩
instance : KT 22 none := ⟨⟨by kernel_rfl, by kernel_rfl⟩⟩
instance : ZT 22 [.slice none 0 0] := ⟨by kernel_rfl⟩
instance : ST 22 35 (.agg #[.int .i64 0, .int .i64 0, .int .i64 0, .int .u64 0]) 4 32 := ⟨⟨by kernel_rfl, by kernel_rfl, by kernel_rfl⟩⟩
instance : KT 23 none := ⟨⟨by kernel_rfl, by kernel_rfl⟩⟩
instance : ZT 23 [.nilFunc] := ⟨by kernel_rfl⟩
instance : KT 24 none := ⟨⟨by kernel_rfl, by kernel_rfl⟩⟩
instance : ZT 24 [.slice none 0 0] := ⟨by kernel_rfl⟩
instance : ST 24 5 (.int .u8 0) 1 1 := ⟨⟨by kernel_rfl, by kernel_rfl, by kernel_rfl⟩⟩
instance : KT 26 none := ⟨⟨by kernel_rfl, by kernel_rfl⟩⟩
instance : ZT 26 [.nilFunc] := ⟨by kernel_rfl⟩
instance : KT 27 none := ⟨⟨by kernel_rfl, by kernel_rfl⟩⟩
instance : ZT 27 [.nilFunc] := ⟨by kernel_rfl⟩
instance : KT 28 none := ⟨⟨by kernel_rfl, by kernel_rfl⟩⟩
instance : ZT 28 [.nilFunc] := ⟨by kernel_rfl⟩
instance : KT 29 none := ⟨⟨by kernel_rfl, by kernel_rfl⟩⟩
instance : ZT 29 [.nilFunc] := ⟨by kernel_rfl⟩
instance : KT 30 none := ⟨⟨by kernel_rfl, by kernel_rfl⟩⟩
instance : ZT 30 [.nilFunc] := ⟨by kernel_rfl⟩
instance : KT 31 none := ⟨⟨by kernel_rfl, by kernel_rfl⟩⟩
instance : ZT 31 [.nilFunc] := ⟨by kernel_rfl⟩
instance : KT 32 none := ⟨⟨by kernel_rfl, by kernel_rfl⟩⟩
instance : ZT 32 [.nilFunc] := ⟨by kernel_rfl⟩
instance : KT 33 none := ⟨⟨by kernel_rfl, by kernel_rfl⟩⟩
instance : ZT 33 [.int .u64 0] := ⟨by kernel_rfl⟩
instance : KT 34 (some 4) := ⟨⟨by kernel_rfl, by kernel_rfl⟩⟩
instance : ZT 34 [.int .i64 0, .int .i64 0, .int .i64 0, .int .u64 0] := ⟨by kernel_rfl⟩
instance : EQ 34 [.int, .int, .int, .int] := ⟨⟨by kernel_rfl, by kernel_rfl⟩⟩
instance : FO 34 0 0 := ⟨by kernel_rfl⟩
instance : FO 34 1 1 := ⟨by kernel_rfl⟩
instance : FO 34 2 2 := ⟨by kernel_rfl⟩
instance : FO 34 3 3 := ⟨by kernel_rfl⟩
instance : KT 35 (some 4) := ⟨⟨by kernel_rfl, by kernel_rfl⟩⟩
instance : ZT 35 [.int .i64 0, .int .i64 0, .int .i64 0, .int .u64 0] := ⟨by kernel_rfl⟩
instance : EQ 35 [.int, .int, .int, .int] := ⟨⟨by kernel_rfl, by kernel_rfl⟩⟩
instance : FO 35 0 0 := ⟨by kernel_rfl⟩
instance : FO 35 1 1 := ⟨by kernel_rfl⟩
instance : FO 35 2 2 := ⟨by kernel_rfl⟩
instance : FO 35 3 3 := ⟨by kernel_rfl⟩
instance : KT 36 none := ⟨⟨by kernel_rfl, by kernel_rfl⟩⟩
instance : ZT 36 [.nilFunc] := ⟨by kernel_rfl⟩
instance : KT 37 none := ⟨⟨by kernel_rfl, by kernel_rfl⟩⟩
instance : ZT 37 [.nilFunc] := ⟨by kernel_rfl⟩
instance : KT 38 none := ⟨⟨by kernel_rfl, by kernel_rfl⟩⟩
instance : ZT 38 [.nilFunc] := ⟨by kernel_rfl⟩
instance : KT 39 none := ⟨⟨by kernel_rfl, by kernel_rfl⟩⟩
instance : ZT 39 [.nilFunc] := ⟨by kernel_rfl⟩
instance : KT 40 none := ⟨⟨by kernel_rfl, by kernel_rfl⟩⟩
instance : ZT 40 [.nilFunc] := ⟨by kernel_rfl⟩
instance : KT 41 none := ⟨⟨by kernel_rfl, by kernel_rfl⟩⟩
instance : ZT 41 [.nilFunc] := ⟨by kernel_rfl⟩
instance : KT 42 none := ⟨⟨by kernel_rfl, by kernel_rfl⟩⟩
instance : ZT 42 [.nilFunc] := ⟨by kernel_rfl⟩
instance : KT 43 none := ⟨⟨by kernel_rfl, by kernel_rfl⟩⟩
instance : ZT 43 [.nilFunc] := ⟨by kernel_rfl⟩
instance : KT 44 none := ⟨⟨by kernel_rfl, by kernel_rfl⟩⟩
instance : ZT 44 [.nilFunc] := ⟨by kernel_rfl⟩
instance : KT 45 none := ⟨⟨by kernel_rfl, by kernel_rfl⟩⟩
instance : ZT 45 [.slice none 0 0] := ⟨by kernel_rfl⟩
instance : ST 45 9 (.string ByteArray.empty) 1 16 := ⟨⟨by kernel_rfl, by kernel_rfl, by kernel_rfl⟩⟩
instance : KT 46 none := ⟨⟨by kernel_rfl, by kernel_rfl⟩⟩
instance : ZT 46 [.nilFunc] := ⟨by kernel_rfl⟩
instance : KT 48 none := ⟨⟨by kernel_rfl, by kernel_rfl⟩⟩
instance : ZT 48 [.nilFunc] := ⟨by kernel_rfl⟩
instance : KT 49 none := ⟨⟨by kernel_rfl, by kernel_rfl⟩⟩
instance : ZT 49 [.nilFunc] := ⟨by kernel_rfl⟩
instance : KT 50 none := ⟨⟨by kernel_rfl, by kernel_rfl⟩⟩
instance : ZT 50 [.slice none 0 0] := ⟨by kernel_rfl⟩
instance : ST 50 20 (.nilIface) 1 16 := ⟨⟨by kernel_rfl, by kernel_rfl, by kernel_rfl⟩⟩
instance : KT 51 none := ⟨⟨by kernel_rfl, by kernel_rfl⟩⟩
instance : ZT 51 [.nilFunc] := ⟨by kernel_rfl⟩
instance : KT 52 none := ⟨⟨by kernel_rfl, by kernel_rfl⟩⟩
instance : ZT 52 [.pointer none] := ⟨by kernel_rfl⟩
instance : KT 53 none := ⟨⟨by kernel_rfl, by kernel_rfl⟩⟩
instance : ZT 53 [.pointer none] := ⟨by kernel_rfl⟩
instance : KT 54 none := ⟨⟨by kernel_rfl, by kernel_rfl⟩⟩
instance : ZT 54 [.nilFunc] := ⟨by kernel_rfl⟩
instance : KT 55 none := ⟨⟨by kernel_rfl, by kernel_rfl⟩⟩
instance : ZT 55 [.pointer none] := ⟨by kernel_rfl⟩
instance : KT 56 none := ⟨⟨by kernel_rfl, by kernel_rfl⟩⟩
instance : ZT 56 [.nilFunc] := ⟨by kernel_rfl⟩
instance : KT 57 none := ⟨⟨by kernel_rfl, by kernel_rfl⟩⟩
instance : ZT 57 [.nilFunc] := ⟨by kernel_rfl⟩
instance : KT 58 none := ⟨⟨by kernel_rfl, by kernel_rfl⟩⟩
instance : ZT 58 [.nilFunc] := ⟨by kernel_rfl⟩
instance : KT 59 none := ⟨⟨by kernel_rfl, by kernel_rfl⟩⟩
instance : ZT 59 [.nilFunc] := ⟨by kernel_rfl⟩
instance : KT 60 none := ⟨⟨by kernel_rfl, by kernel_rfl⟩⟩
instance : ZT 60 [.nilFunc] := ⟨by kernel_rfl⟩
instance : KT 62 none := ⟨⟨by kernel_rfl, by kernel_rfl⟩⟩
instance : ZT 62 [.nilFunc] := ⟨by kernel_rfl⟩
instance : KT 63 none := ⟨⟨by kernel_rfl, by kernel_rfl⟩⟩
instance : ZT 63 [.nilFunc] := ⟨by kernel_rfl⟩
instance : KT 65 none := ⟨⟨by kernel_rfl, by kernel_rfl⟩⟩
instance : ZT 65 [.nilFunc] := ⟨by kernel_rfl⟩
instance : KT 67 none := ⟨⟨by kernel_rfl, by kernel_rfl⟩⟩
instance : ZT 67 [.nilFunc] := ⟨by kernel_rfl⟩
instance : KT 68 none := ⟨⟨by kernel_rfl, by kernel_rfl⟩⟩
instance : ZT 68 [.nilFunc] := ⟨by kernel_rfl⟩
instance : KT 69 none := ⟨⟨by kernel_rfl, by kernel_rfl⟩⟩
instance : ZT 69 [.nilFunc] := ⟨by kernel_rfl⟩
instance : KT 70 none := ⟨⟨by kernel_rfl, by kernel_rfl⟩⟩
instance : ZT 70 [.pointer none] := ⟨by kernel_rfl⟩
instance : KT 71 (some 2) := ⟨⟨by kernel_rfl, by kernel_rfl⟩⟩
instance : ZT 71 [.pointer none, .slice none 0 0] := ⟨by kernel_rfl⟩
instance : FO 71 0 0 := ⟨by kernel_rfl⟩
instance : FO 71 1 1 := ⟨by kernel_rfl⟩
instance : KT 72 (some 2) := ⟨⟨by kernel_rfl, by kernel_rfl⟩⟩
instance : ZT 72 [.pointer none, .slice none 0 0] := ⟨by kernel_rfl⟩
instance : FO 72 0 0 := ⟨by kernel_rfl⟩
instance : FO 72 1 1 := ⟨by kernel_rfl⟩
instance : KT 73 none := ⟨⟨by kernel_rfl, by kernel_rfl⟩⟩
instance : ZT 73 [.nilFunc] := ⟨by kernel_rfl⟩
instance : KT 74 none := ⟨⟨by kernel_rfl, by kernel_rfl⟩⟩
instance : ZT 74 [.nilIface] := ⟨by kernel_rfl⟩
instance : KT 75 none := ⟨⟨by kernel_rfl, by kernel_rfl⟩⟩
instance : ZT 75 [.nilIface] := ⟨by kernel_rfl⟩
instance : KT 77 none := ⟨⟨by kernel_rfl, by kernel_rfl⟩⟩
instance : ZT 77 [.nilFunc] := ⟨by kernel_rfl⟩
instance : KT 78 none := ⟨⟨by kernel_rfl, by kernel_rfl⟩⟩
instance : ZT 78 [.nilFunc] := ⟨by kernel_rfl⟩
instance : KT 79 none := ⟨⟨by kernel_rfl, by kernel_rfl⟩⟩
instance : ZT 79 [.int .u64 0] := ⟨by kernel_rfl⟩
instance : KT 81 none := ⟨⟨by kernel_rfl, by kernel_rfl⟩⟩
instance : ZT 81 [.nilFunc] := ⟨by kernel_rfl⟩
instance : KT 82 none := ⟨⟨by kernel_rfl, by kernel_rfl⟩⟩
instance : ZT 82 [.slice none 0 0] := ⟨by kernel_rfl⟩
instance : ST 82 88 (.agg #[.int .i64 0, .nilFunc, .nilFunc]) 3 24 := ⟨⟨by kernel_rfl, by kernel_rfl, by kernel_rfl⟩⟩
instance : KT 84 none := ⟨⟨by kernel_rfl, by kernel_rfl⟩⟩
instance : ZT 84 [.nilFunc] := ⟨by kernel_rfl⟩
instance : KT 85 none := ⟨⟨by kernel_rfl, by kernel_rfl⟩⟩
instance : ZT 85 [.nilFunc] := ⟨by kernel_rfl⟩
instance : KT 86 none := ⟨⟨by kernel_rfl, by kernel_rfl⟩⟩
instance : ZT 86 [.nilFunc] := ⟨by kernel_rfl⟩
instance : KT 87 (some 3) := ⟨⟨by kernel_rfl, by kernel_rfl⟩⟩
instance : ZT 87 [.int .i64 0, .nilFunc, .nilFunc] := ⟨by kernel_rfl⟩
instance : FO 87 0 0 := ⟨by kernel_rfl⟩
instance : FO 87 1 1 := ⟨by kernel_rfl⟩
instance : FO 87 2 2 := ⟨by kernel_rfl⟩
instance : KT 88 (some 3) := ⟨⟨by kernel_rfl, by kernel_rfl⟩⟩
instance : ZT 88 [.int .i64 0, .nilFunc, .nilFunc] := ⟨by kernel_rfl⟩
instance : FO 88 0 0 := ⟨by kernel_rfl⟩
instance : FO 88 1 1 := ⟨by kernel_rfl⟩
instance : FO 88 2 2 := ⟨by kernel_rfl⟩
instance : KT 89 none := ⟨⟨by kernel_rfl, by kernel_rfl⟩⟩
instance : ZT 89 [.nilFunc] := ⟨by kernel_rfl⟩
instance : KT 90 none := ⟨⟨by kernel_rfl, by kernel_rfl⟩⟩
instance : ZT 90 [.nilFunc] := ⟨by kernel_rfl⟩
instance : KT 91 none := ⟨⟨by kernel_rfl, by kernel_rfl⟩⟩
instance : ZT 91 [.nilFunc] := ⟨by kernel_rfl⟩
instance : KT 92 none := ⟨⟨by kernel_rfl, by kernel_rfl⟩⟩
instance : ZT 92 [.nilFunc] := ⟨by kernel_rfl⟩
instance : KT 93 none := ⟨⟨by kernel_rfl, by kernel_rfl⟩⟩
instance : ZT 93 [.nilFunc] := ⟨by kernel_rfl⟩
instance : KT 94 none := ⟨⟨by kernel_rfl, by kernel_rfl⟩⟩
instance : ZT 94 [.nilFunc] := ⟨by kernel_rfl⟩
instance : KT 96 none := ⟨⟨by kernel_rfl, by kernel_rfl⟩⟩
instance : ZT 96 [.nilFunc] := ⟨by kernel_rfl⟩
instance : KT 97 none := ⟨⟨by kernel_rfl, by kernel_rfl⟩⟩
instance : ZT 97 [.pointer none] := ⟨by kernel_rfl⟩
instance : KT 98 none := ⟨⟨by kernel_rfl, by kernel_rfl⟩⟩
instance : ZT 98 [.int .u32 0] := ⟨by kernel_rfl⟩
instance : KT 100 none := ⟨⟨by kernel_rfl, by kernel_rfl⟩⟩
instance : ZT 100 [.nilFunc] := ⟨by kernel_rfl⟩
instance : KT 102 none := ⟨⟨by kernel_rfl, by kernel_rfl⟩⟩
instance : ZT 102 [.nilFunc] := ⟨by kernel_rfl⟩
instance : KT 103 none := ⟨⟨by kernel_rfl, by kernel_rfl⟩⟩
instance : ZT 103 [.nilFunc] := ⟨by kernel_rfl⟩
instance : KT 104 none := ⟨⟨by kernel_rfl, by kernel_rfl⟩⟩
instance : ZT 104 [.map none] := ⟨by kernel_rfl⟩
instance : KT 105 none := ⟨⟨by kernel_rfl, by kernel_rfl⟩⟩
instance : ZT 105 [.nilFunc] := ⟨by kernel_rfl⟩
instance : KT 107 none := ⟨⟨by kernel_rfl, by kernel_rfl⟩⟩
instance : ZT 107 [.nilFunc] := ⟨by kernel_rfl⟩
instance : KT 108 none := ⟨⟨by kernel_rfl, by kernel_rfl⟩⟩
instance : ZT 108 [.nilFunc] := ⟨by kernel_rfl⟩
instance : KT 109 none := ⟨⟨by kernel_rfl, by kernel_rfl⟩⟩
instance : ZT 109 [.nilFunc] := ⟨by kernel_rfl⟩
instance : KT 110 (some 24) := ⟨⟨by kernel_rfl, by kernel_rfl⟩⟩
instance : ZT 110 [.int .u8 0, .int .u8 0, .int .u8 0, .int .u8 0, .int .u8 0, .int .u8 0, .int .u8 0, .int .u8 0, .int .u8 0, .int .u8 0, .int .u8 0, .int .u8 0, .int .u8 0, .int .u8 0, .int .u8 0, .int .u8 0, .int .u8 0, .int .u8 0, .int .u8 0, .int .u8 0, .int .u8 0, .int .u8 0, .int .u8 0, .int .u8 0] := ⟨by kernel_rfl⟩
instance : EQ 110 [.int, .int, .int, .int, .int, .int, .int, .int, .int, .int, .int, .int, .int, .int, .int, .int, .int, .int, .int, .int, .int, .int, .int, .int] := ⟨⟨by kernel_rfl, by kernel_rfl⟩⟩
instance : AT 110 24 5 1 := ⟨⟨by kernel_rfl, by kernel_rfl⟩⟩
instance : KT 111 none := ⟨⟨by kernel_rfl, by kernel_rfl⟩⟩
instance : ZT 111 [.nilFunc] := ⟨by kernel_rfl⟩
instance : KT 112 none := ⟨⟨by kernel_rfl, by kernel_rfl⟩⟩
instance : ZT 112 [.nilFunc] := ⟨by kernel_rfl⟩
instance : KT 114 none := ⟨⟨by kernel_rfl, by kernel_rfl⟩⟩
instance : ZT 114 [.nilFunc] := ⟨by kernel_rfl⟩
instance : KT 115 none := ⟨⟨by kernel_rfl, by kernel_rfl⟩⟩
instance : ZT 115 [.pointer none] := ⟨by kernel_rfl⟩
instance : KT 116 none := ⟨⟨by kernel_rfl, by kernel_rfl⟩⟩
instance : ZT 116 [.nilFunc] := ⟨by kernel_rfl⟩
instance : KT 117 none := ⟨⟨by kernel_rfl, by kernel_rfl⟩⟩
instance : ZT 117 [.nilFunc] := ⟨by kernel_rfl⟩
instance : KT 118 none := ⟨⟨by kernel_rfl, by kernel_rfl⟩⟩
instance : ZT 118 [.int .i64 0] := ⟨by kernel_rfl⟩
instance : KT 119 none := ⟨⟨by kernel_rfl, by kernel_rfl⟩⟩
instance : ZT 119 [.nilFunc] := ⟨by kernel_rfl⟩
instance : KT 120 none := ⟨⟨by kernel_rfl, by kernel_rfl⟩⟩
instance : ZT 120 [.nilFunc] := ⟨by kernel_rfl⟩
instance : KT 121 none := ⟨⟨by kernel_rfl, by kernel_rfl⟩⟩
instance : ZT 121 [.pointer none] := ⟨by kernel_rfl⟩
instance : KT 122 none := ⟨⟨by kernel_rfl, by kernel_rfl⟩⟩
instance : ZT 122 [.nilFunc] := ⟨by kernel_rfl⟩
instance : KT 123 none := ⟨⟨by kernel_rfl, by kernel_rfl⟩⟩
instance : ZT 123 [.nilFunc] := ⟨by kernel_rfl⟩
instance : KT 124 none := ⟨⟨by kernel_rfl, by kernel_rfl⟩⟩
instance : ZT 124 [.nilFunc] := ⟨by kernel_rfl⟩
instance : KT 125 (some 20) := ⟨⟨by kernel_rfl, by kernel_rfl⟩⟩
instance : ZT 125 [.int .u64 0, .int .u64 0, .int .u64 0, .int .u64 0, .int .u64 0, .int .u64 0, .int .u64 0, .int .u64 0, .int .u64 0, .int .u64 0, .int .u64 0, .int .u64 0, .int .u64 0, .int .u64 0, .int .u64 0, .int .u64 0, .int .u64 0, .int .u64 0, .int .u64 0, .int .u64 0] := ⟨by kernel_rfl⟩
instance : EQ 125 [.int, .int, .int, .int, .int, .int, .int, .int, .int, .int, .int, .int, .int, .int, .int, .int, .int, .int, .int, .int] := ⟨⟨by kernel_rfl, by kernel_rfl⟩⟩
instance : AT 125 20 33 1 := ⟨⟨by kernel_rfl, by kernel_rfl⟩⟩
instance : KT 126 (some 65) := ⟨⟨by kernel_rfl, by kernel_rfl⟩⟩
instance : ZT 126 [.int .u8 0, .int .u8 0, .int .u8 0, .int .u8 0, .int .u8 0, .int .u8 0, .int .u8 0, .int .u8 0, .int .u8 0, .int .u8 0, .int .u8 0, .int .u8 0, .int .u8 0, .int .u8 0, .int .u8 0, .int .u8 0, .int .u8 0, .int .u8 0, .int .u8 0, .int .u8 0, .int .u8 0, .int .u8 0, .int .u8 0, .int .u8 0, .int .u8 0, .int .u8 0, .int .u8 0, .int .u8 0, .int .u8 0, .int .u8 0, .int .u8 0, .int .u8 0, .int .u8 0, .int .u8 0, .int .u8 0, .int .u8 0, .int .u8 0, .int .u8 0, .int .u8 0, .int .u8 0, .int .u8 0, .int .u8 0, .int .u8 0, .int .u8 0, .int .u8 0, .int .u8 0, .int .u8 0, .int .u8 0, .int .u8 0, .int .u8 0, .int .u8 0, .int .u8 0, .int .u8 0, .int .u8 0, .int .u8 0, .int .u8 0, .int .u8 0, .int .u8 0, .int .u8 0, .int .u8 0, .int .u8 0, .int .u8 0, .int .u8 0, .int .u8 0, .int .u8 0] := ⟨by kernel_rfl⟩
instance : EQ 126 [.int, .int, .int, .int, .int, .int, .int, .int, .int, .int, .int, .int, .int, .int, .int, .int, .int, .int, .int, .int, .int, .int, .int, .int, .int, .int, .int, .int, .int, .int, .int, .int, .int, .int, .int, .int, .int, .int, .int, .int, .int, .int, .int, .int, .int, .int, .int, .int, .int, .int, .int, .int, .int, .int, .int, .int, .int, .int, .int, .int, .int, .int, .int, .int, .int] := ⟨⟨by kernel_rfl, by kernel_rfl⟩⟩
instance : AT 126 65 5 1 := ⟨⟨by kernel_rfl, by kernel_rfl⟩⟩
instance : KT 127 none := ⟨⟨by kernel_rfl, by kernel_rfl⟩⟩
instance : ZT 127 [.nilFunc] := ⟨by kernel_rfl⟩
instance : KT 128 none := ⟨⟨by kernel_rfl, by kernel_rfl⟩⟩
instance : ZT 128 [.nilFunc] := ⟨by kernel_rfl⟩
instance : KT 129 (some 256) := ⟨⟨by kernel_rfl, by kernel_rfl⟩⟩
instance : ZT 129 [.int .u8 0, .int .u8 0, .int .u8 0, .int .u8 0, .int .u8 0, .int .u8 0, .int .u8 0, .int .u8 0, .int .u8 0, .int .u8 0, .int .u8 0, .int .u8 0, .int .u8 0, .int .u8 0, .int .u8 0, .int .u8 0, .int .u8 0, .int .u8 0, .int .u8 0, .int .u8 0, .int .u8 0, .int .u8 0, .int .u8 0, .int .u8 0, .int .u8 0, .int .u8 0, .int .u8 0, .int .u8 0, .int .u8 0, .int .u8 0, .int .u8 0, .int .u8 0, .int .u8 0, .int .u8 0, .int .u8 0, .int .u8 0, .int .u8 0, .int .u8 0, .int .u8 0, .int .u8 0, .int .u8 0, .int .u8 0, .int .u8 0, .int .u8 0, .int .u8 0, .int .u8 0, .int .u8 0, .int .u8 0, .int .u8 0, .int .u8 0, .int .u8 0, .int .u8 0, .int .u8 0, .int .u8 0, .int .u8 0, .int .u8 0, .int .u8 0, .int .u8 0, .int .u8 0, .int .u8 0, .int .u8 0, .int .u8 0, .int .u8 0, .int .u8 0, .int .u8 0, .int .u8 0, .int .u8 0, .int .u8 0, .int .u8 0, .int .u8 0, .int .u8 0, .int .u8 0, .int .u8 0, .int .u8 0, .int .u8 0, .int .u8 0, .int .u8 0, .int .u8 0, .int .u8 0, .int .u8 0, .int .u8 0, .int .u8 0, .int .u8 0, .int .u8 0, .int .u8 0, .int .u8 0, .int .u8 0, .int .u8 0, .int .u8 0, .int .u8 0, .int .u8 0, .int .u8 0, .int .u8 0, .int .u8 0, .int .u8 0, .int .u8 0, .int .u8 0, .int .u8 0, .int .u8 0, .int .u8 0, .int .u8 0, .int .u8 0, .int .u8 0, .int .u8 0, .int .u8 0, .int .u8 0, .int .u8 0, .int .u8 0, .int .u8 0, .int .u8 0, .int .u8 0, .int .u8 0, .int .u8 0, .int .u8 0, .int .u8 0, .int .u8 0, .int .u8 0, .int .u8 0, .int .u8 0, .int .u8 0, .int .u8 0, .int .u8 0, .int .u8 0, .int .u8 0, .int .u8 0, .int .u8 0, .int .u8 0, .int .u8 0, .int .u8 0, .int .u8 0, .int .u8 0, .int .u8 0, .int .u8 0, .int .u8 0, .int .u8 0, .int .u8 0, .int .u8 0, .int .u8 0, .int .u8 0, .int .u8 0, .int .u8 0, .int .u8 0, .int .u8 0, .int .u8 0, .int .u8 0, .int .u8 0, .int .u8 0, .int .u8 0, .int .u8 0, .int .u8 0, .int .u8 0, .int .u8 0, .int .u8 0, .int .u8 0, .int .u8 0, .int .u8 0, .int .u8 0, .int .u8 0, .int .u8 0, .int .u8 0, .int .u8 0, .int .u8 0, .int .u8 0, .int .u8 0, .int .u8 0, .int .u8 0, .int .u8 0, .int .u8 0, .int .u8 0, .int .u8 0, .int .u8 0, .int .u8 0, .int .u8 0, .int .u8 0, .int .u8 0, .int .u8 0, .int .u8 0, .int .u8 0, .int .u8 0, .int .u8 0, .int .u8 0, .int .u8 0, .int .u8 0, .int .u8 0, .int .u8 0, .int .u8 0, .int .u8 0, .int .u8 0, .int .u8 0, .int .u8 0, .int .u8 0, .int .u8 0, .int .u8 0, .int .u8 0, .int .u8 0, .int .u8 0, .int .u8 0, .int .u8 0, .int .u8 0, .int .u8 0, .int .u8 0, .int .u8 0, .int .u8 0, .int .u8 0, .int .u8 0, .int .u8 0, .int .u8 0, .int .u8 0, .int .u8 0, .int .u8 0, .int .u8 0, .int .u8 0, .int .u8 0, .int .u8 0, .int .u8 0, .int .u8 0, .int .u8 0, .int .u8 0, .int .u8 0, .int .u8 0, .int .u8 0, .int .u8 0, .int .u8 0, .int .u8 0, .int .u8 0, .int .u8 0, .int .u8 0, .int .u8 0, .int .u8 0, .int .u8 0, .int .u8 0, .int .u8 0, .int .u8 0, .int .u8 0, .int .u8 0, .int .u8 0, .int .u8 0, .int .u8 0, .int .u8 0, .int .u8 0, .int .u8 0, .int .u8 0, .int .u8 0, .int .u8 0, .int .u8 0, .int .u8 0, .int .u8 0, .int .u8 0, .int .u8 0, .int .u8 0, .int .u8 0, .int .u8 0, .int .u8 0, .int .u8 0, .int .u8 0, .int .u8 0] := ⟨by kernel_rfl⟩
instance : EQ 129 [.int, .int, .int, .int, .int, .int, .int, .int, .int, .int, .int, .int, .int, .int, .int, .int, .int, .int, .int, .int, .int, .int, .int, .int, .int, .int, .int, .int, .int, .int, .int, .int, .int, .int, .int, .int, .int, .int, .int, .int, .int, .int, .int, .int, .int, .int, .int, .int, .int, .int, .int, .int, .int, .int, .int, .int, .int, .int, .int, .int, .int, .int, .int, .int, .int, .int, .int, .int, .int, .int, .int, .int, .int, .int, .int, .int, .int, .int, .int, .int, .int, .int, .int, .int, .int, .int, .int, .int, .int, .int, .int, .int, .int, .int, .int, .int, .int, .int, .int, .int, .int, .int, .int, .int, .int, .int, .int, .int, .int, .int, .int, .int, .int, .int, .int, .int, .int, .int, .int, .int, .int, .int, .int, .int, .int, .int, .int, .int, .int, .int, .int, .int, .int, .int, .int, .int, .int, .int, .int, .int, .int, .int, .int, .int, .int, .int, .int, .int, .int, .int, .int, .int, .int, .int, .int, .int, .int, .int, .int, .int, .int, .int, .int, .int, .int, .int, .int, .int, .int, .int, .int, .int, .int, .int, .int, .int, .int, .int, .int, .int, .int, .int, .int, .int, .int, .int, .int, .int, .int, .int, .int, .int, .int, .int, .int, .int, .int, .int, .int, .int, .int, .int, .int, .int, .int, .int, .int, .int, .int, .int, .int, .int, .int, .int, .int, .int, .int, .int, .int, .int, .int, .int, .int, .int, .int, .int, .int, .int, .int, .int, .int, .int, .int, .int, .int, .int, .int, .int, .int, .int, .int, .int, .int, .int, .int, .int, .int, .int, .int, .int, .int, .int, .int, .int, .int, .int] := ⟨⟨by kernel_rfl, by kernel_rfl⟩⟩
instance : AT 129 256 5 1 := ⟨⟨by kernel_rfl, by kernel_rfl⟩⟩
instance : KT 130 (some 2) := ⟨⟨by kernel_rfl, by kernel_rfl⟩⟩
instance : ZT 130 [.int .u8 0, .int .u8 0] := ⟨by kernel_rfl⟩
instance : EQ 130 [.int, .int] := ⟨⟨by kernel_rfl, by kernel_rfl⟩⟩
instance : FO 130 0 0 := ⟨by kernel_rfl⟩
instance : FO 130 1 1 := ⟨by kernel_rfl⟩
instance : KT 131 (some 2) := ⟨⟨by kernel_rfl, by kernel_rfl⟩⟩
instance : ZT 131 [.int .u8 0, .int .u8 0] := ⟨by kernel_rfl⟩
instance : EQ 131 [.int, .int] := ⟨⟨by kernel_rfl, by kernel_rfl⟩⟩
instance : FO 131 0 0 := ⟨by kernel_rfl⟩
instance : FO 131 1 1 := ⟨by kernel_rfl⟩
instance : KT 132 (some 32) := ⟨⟨by kernel_rfl, by kernel_rfl⟩⟩
instance : ZT 132 [.int .u8 0, .int .u8 0, .int .u8 0, .int .u8 0, .int .u8 0, .int .u8 0, .int .u8 0, .int .u8 0, .int .u8 0, .int .u8 0, .int .u8 0, .int .u8 0, .int .u8 0, .int .u8 0, .int .u8 0, .int .u8 0, .int .u8 0, .int .u8 0, .int .u8 0, .int .u8 0, .int .u8 0, .int .u8 0, .int .u8 0, .int .u8 0, .int .u8 0, .int .u8 0, .int .u8 0, .int .u8 0, .int .u8 0, .int .u8 0, .int .u8 0, .int .u8 0] := ⟨by kernel_rfl⟩
instance : AT 132 16 131 2 := ⟨⟨by kernel_rfl, by kernel_rfl⟩⟩
instance : KT 133 none := ⟨⟨by kernel_rfl, by kernel_rfl⟩⟩
instance : ZT 133 [.nilFunc] := ⟨by kernel_rfl⟩
instance : KT 134 none := ⟨⟨by kernel_rfl, by kernel_rfl⟩⟩
instance : ZT 134 [.nilFunc] := ⟨by kernel_rfl⟩
instance : KT 135 (some 3) := ⟨⟨by kernel_rfl, by kernel_rfl⟩⟩
instance : ZT 135 [.string ByteArray.empty, .string ByteArray.empty, .nilIface] := ⟨by kernel_rfl⟩
instance : FO 135 0 0 := ⟨by kernel_rfl⟩
instance : FO 135 1 1 := ⟨by kernel_rfl⟩
instance : FO 135 2 2 := ⟨by kernel_rfl⟩
instance : KT 136 (some 3) := ⟨⟨by kernel_rfl, by kernel_rfl⟩⟩
instance : ZT 136 [.string ByteArray.empty, .string ByteArray.empty, .nilIface] := ⟨by kernel_rfl⟩
instance : FO 136 0 0 := ⟨by kernel_rfl⟩
instance : FO 136 1 1 := ⟨by kernel_rfl⟩
instance : FO 136 2 2 := ⟨by kernel_rfl⟩
instance : KT 137 none := ⟨⟨by kernel_rfl, by kernel_rfl⟩⟩
instance : ZT 137 [.nilFunc] := ⟨by kernel_rfl⟩
instance : KT 138 none := ⟨⟨by kernel_rfl, by kernel_rfl⟩⟩
instance : ZT 138 [.nilFunc] := ⟨by kernel_rfl⟩
instance : KT 139 none := ⟨⟨by kernel_rfl, by kernel_rfl⟩⟩
instance : ZT 139 [.pointer none] := ⟨by kernel_rfl⟩
instance : KT 140 (some 1) := ⟨⟨by kernel_rfl, by kernel_rfl⟩⟩
instance : ZT 140 [.string ByteArray.empty] := ⟨by kernel_rfl⟩
instance : EQ 140 [.str] := ⟨⟨by kernel_rfl, by kernel_rfl⟩⟩
instance : FO 140 0 0 := ⟨by kernel_rfl⟩
instance : KT 141 (some 1) := ⟨⟨by kernel_rfl, by kernel_rfl⟩⟩
instance : ZT 141 [.string ByteArray.empty] := ⟨by kernel_rfl⟩
instance : EQ 141 [.str] := ⟨⟨by kernel_rfl, by kernel_rfl⟩⟩
instance : FO 141 0 0 := ⟨by kernel_rfl⟩
instance : KT 142 (some 32) := ⟨⟨by kernel_rfl, by kernel_rfl⟩⟩
instance : ZT 142 [.int .u8 0, .int .u8 0, .int .u8 0, .int .u8 0, .int .u8 0, .int .u8 0, .int .u8 0, .int .u8 0, .int .u8 0, .int .u8 0, .int .u8 0, .int .u8 0, .int .u8 0, .int .u8 0, .int .u8 0, .int .u8 0, .int .u8 0, .int .u8 0, .int .u8 0, .int .u8 0, .int .u8 0, .int .u8 0, .int .u8 0, .int .u8 0, .int .u8 0, .int .u8 0, .int .u8 0, .int .u8 0, .int .u8 0, .int .u8 0, .int .u8 0, .int .u8 0] := ⟨by kernel_rfl⟩
instance : EQ 142 [.int, .int, .int, .int, .int, .int, .int, .int, .int, .int, .int, .int, .int, .int, .int, .int, .int, .int, .int, .int, .int, .int, .int, .int, .int, .int, .int, .int, .int, .int, .int, .int] := ⟨⟨by kernel_rfl, by kernel_rfl⟩⟩
instance : AT 142 32 5 1 := ⟨⟨by kernel_rfl, by kernel_rfl⟩⟩
instance : KT 143 (some 64) := ⟨⟨by kernel_rfl, by kernel_rfl⟩⟩
instance : ZT 143 [.int .u8 0, .int .u8 0, .int .u8 0, .int .u8 0, .int .u8 0, .int .u8 0, .int .u8 0, .int .u8 0, .int .u8 0, .int .u8 0, .int .u8 0, .int .u8 0, .int .u8 0, .int .u8 0, .int .u8 0, .int .u8 0, .int .u8 0, .int .u8 0, .int .u8 0, .int .u8 0, .int .u8 0, .int .u8 0, .int .u8 0, .int .u8 0, .int .u8 0, .int .u8 0, .int .u8 0, .int .u8 0, .int .u8 0, .int .u8 0, .int .u8 0, .int .u8 0, .int .u8 0, .int .u8 0, .int .u8 0, .int .u8 0, .int .u8 0, .int .u8 0, .int .u8 0, .int .u8 0, .int .u8 0, .int .u8 0, .int .u8 0, .int .u8 0, .int .u8 0, .int .u8 0, .int .u8 0, .int .u8 0, .int .u8 0, .int .u8 0, .int .u8 0, .int .u8 0, .int .u8 0, .int .u8 0, .int .u8 0, .int .u8 0, .int .u8 0, .int .u8 0, .int .u8 0, .int .u8 0, .int .u8 0, .int .u8 0, .int .u8 0, .int .u8 0] := ⟨by kernel_rfl⟩
instance : EQ 143 [.int, .int, .int, .int, .int, .int, .int, .int, .int, .int, .int, .int, .int, .int, .int, .int, .int, .int, .int, .int, .int, .int, .int, .int, .int, .int, .int, .int, .int, .int, .int, .int, .int, .int, .int, .int, .int, .int, .int, .int, .int, .int, .int, .int, .int, .int, .int, .int, .int, .int, .int, .int, .int, .int, .int, .int, .int, .int, .int, .int, .int, .int, .int, .int] := ⟨⟨by kernel_rfl, by kernel_rfl⟩⟩
instance : AT 143 64 5 1 := ⟨⟨by kernel_rfl, by kernel_rfl⟩⟩
instance : KT 144 none := ⟨⟨by kernel_rfl, by kernel_rfl⟩⟩
instance : ZT 144 [.nilFunc] := ⟨by kernel_rfl⟩
instance : KT 145 (some 4) := ⟨⟨by kernel_rfl, by kernel_rfl⟩⟩
instance : ZT 145 [.pointer none, .pointer none, .pointer none, .string ByteArray.empty] := ⟨by kernel_rfl⟩
instance : FO 145 0 0 := ⟨by kernel_rfl⟩
instance : FO 145 1 1 := ⟨by kernel_rfl⟩
instance : FO 145 2 2 := ⟨by kernel_rfl⟩
instance : FO 145 3 3 := ⟨by kernel_rfl⟩
instance : KT 146 (some 4) := ⟨⟨by kernel_rfl, by kernel_rfl⟩⟩
instance : ZT 146 [.pointer none, .pointer none, .pointer none, .string ByteArray.empty] := ⟨by kernel_rfl⟩
instance : FO 146 0 0 := ⟨by kernel_rfl⟩
instance : FO 146 1 1 := ⟨by kernel_rfl⟩
instance : FO 146 2 2 := ⟨by kernel_rfl⟩
instance : FO 146 3 3 := ⟨by kernel_rfl⟩
instance : KT 147 (some 0) := ⟨⟨by kernel_rfl, by kernel_rfl⟩⟩
instance : ZT 147 [] := ⟨by kernel_rfl⟩
instance : AT 147 0 16 1 := ⟨⟨by kernel_rfl, by kernel_rfl⟩⟩
instance : KT 148 (some 0) := ⟨⟨by kernel_rfl, by kernel_rfl⟩⟩
instance : ZT 148 [] := ⟨by kernel_rfl⟩
instance : KT 149 (some 0) := ⟨⟨by kernel_rfl, by kernel_rfl⟩⟩
instance : ZT 149 [] := ⟨by kernel_rfl⟩
instance : KT 150 none := ⟨⟨by kernel_rfl, by kernel_rfl⟩⟩
instance : ZT 150 [.nilFunc] := ⟨by kernel_rfl⟩
instance : KT 151 none := ⟨⟨by kernel_rfl, by kernel_rfl⟩⟩
instance : ZT 151 [.int .u8 0] := ⟨by kernel_rfl⟩
instance : KT 152 none := ⟨⟨by kernel_rfl, by kernel_rfl⟩⟩
instance : ZT 152 [.int .u8 0] := ⟨by kernel_rfl⟩
instance : KT 153 none := ⟨⟨by kernel_rfl, by kernel_rfl⟩⟩
instance : ZT 153 [.nilFunc] := ⟨by kernel_rfl⟩
instance : KT 154 none := ⟨⟨by kernel_rfl, by kernel_rfl⟩⟩
instance : ZT 154 [.int .i32 0] := ⟨by kernel_rfl⟩
instance : KT 155 none := ⟨⟨by kernel_rfl, by kernel_rfl⟩⟩
instance : ZT 155 [.int .i32 0] := ⟨by kernel_rfl⟩
instance : KT 156 (some 11) := ⟨⟨by kernel_rfl, by kernel_rfl⟩⟩
instance : ZT 156 [.int .u64 0, .int .u64 0, .int .u32 0, .int .u8 0, .int .u8 0, .int .u8 0, .int .u8 0, .nilFunc, .pointer none, .int .i32 0, .int .i32 0] := ⟨by kernel_rfl⟩
instance : FO 156 0 0 := ⟨by kernel_rfl⟩
instance : FO 156 1 1 := ⟨by kernel_rfl⟩
instance : FO 156 2 2 := ⟨by kernel_rfl⟩
instance : FO 156 3 3 := ⟨by kernel_rfl⟩
instance : FO 156 4 4 := ⟨by kernel_rfl⟩
instance : FO 156 5 5 := ⟨by kernel_rfl⟩
instance : FO 156 6 6 := ⟨by kernel_rfl⟩
instance : FO 156 7 7 := ⟨by kernel_rfl⟩
instance : FO 156 8 8 := ⟨by kernel_rfl⟩
instance : FO 156 9 9 := ⟨by kernel_rfl⟩
instance : FO 156 10 10 := ⟨by kernel_rfl⟩
instance : KT 157 (some 11) := ⟨⟨by kernel_rfl, by kernel_rfl⟩⟩
instance : ZT 157 [.int .u64 0, .int .u64 0, .int .u32 0, .int .u8 0, .int .u8 0, .int .u8 0, .int .u8 0, .nilFunc, .pointer none, .int .i32 0, .int .i32 0] := ⟨by kernel_rfl⟩
instance : FO 157 0 0 := ⟨by kernel_rfl⟩
instance : FO 157 1 1 := ⟨by kernel_rfl⟩
instance : FO 157 2 2 := ⟨by kernel_rfl⟩
instance : FO 157 3 3 := ⟨by kernel_rfl⟩
instance : FO 157 4 4 := ⟨by kernel_rfl⟩
instance : FO 157 5 5 := ⟨by kernel_rfl⟩
instance : FO 157 6 6 := ⟨by kernel_rfl⟩
instance : FO 157 7 7 := ⟨by kernel_rfl⟩
instance : FO 157 8 8 := ⟨by kernel_rfl⟩
instance : FO 157 9 9 := ⟨by kernel_rfl⟩
instance : FO 157 10 10 := ⟨by kernel_rfl⟩
instance : FK 2 := ⟨by kernel_rfl⟩
instance : FK 3 := ⟨by kernel_rfl⟩
instance : FK 4 := ⟨by kernel_rfl⟩
instance : FK 5 := ⟨by kernel_rfl⟩
instance : FK 6 := ⟨by kernel_rfl⟩
instance : FK 7 := ⟨by kernel_rfl⟩
instance : FK 8 := ⟨by kernel_rfl⟩
instance : FK 9 := ⟨by kernel_rfl⟩
instance : FK 10 := ⟨by kernel_rfl⟩
instance : FK 11 := ⟨by kernel_rfl⟩
instance : FK 12 := ⟨by kernel_rfl⟩
instance : FK 13 := ⟨by kernel_rfl⟩
instance : FK 14 := ⟨by kernel_rfl⟩
instance : FK 15 := ⟨by kernel_rfl⟩
instance : FK 16 := ⟨by kernel_rfl⟩
instance : FK 17 := ⟨by kernel_rfl⟩
instance : FK 18 := ⟨by kernel_rfl⟩
instance : FK 19 := ⟨by kernel_rfl⟩
instance : FK 20 := ⟨by kernel_rfl⟩
instance : FK 21 := ⟨by kernel_rfl⟩
instance : FK 22 := ⟨by kernel_rfl⟩
instance : FK 23 := ⟨by kernel_rfl⟩
instance : FK 24 := ⟨by kernel_rfl⟩
instance : FK 25 := ⟨by kernel_rfl⟩
instance : FK 26 := ⟨by kernel_rfl⟩
instance : FK 27 := ⟨by kernel_rfl⟩
instance : FK 28 := ⟨by kernel_rfl⟩
instance : FK 29 := ⟨by kernel_rfl⟩
instance : FK 30 := ⟨by kernel_rfl⟩
instance : FK 31 := ⟨by kernel_rfl⟩
instance : FK 32 := ⟨by kernel_rfl⟩
instance : FK 33 := ⟨by kernel_rfl⟩
instance : FK 34 := ⟨by kernel_rfl⟩
instance : FK 35 := ⟨by kernel_rfl⟩
instance : FK 36 := ⟨by kernel_rfl⟩
instance : FK 37 := ⟨by kernel_rfl⟩
instance : FK 38 := ⟨by kernel_rfl⟩
instance : FK 39 := ⟨by kernel_rfl⟩
instance : FK 40 := ⟨by kernel_rfl⟩
instance : FK 41 := ⟨by kernel_rfl⟩
instance : FK 42 := ⟨by kernel_rfl⟩
instance : FK 43 := ⟨by kernel_rfl⟩
instance : FK 44 := ⟨by kernel_rfl⟩
instance : FK 45 := ⟨by kernel_rfl⟩
instance : FK 46 := ⟨by kernel_rfl⟩
instance : FK 47 := ⟨by kernel_rfl⟩
instance : FK 48 := ⟨by kernel_rfl⟩
instance : FK 49 := ⟨by kernel_rfl⟩
instance : FK 50 := ⟨by kernel_rfl⟩
instance : FK 51 := ⟨by kernel_rfl⟩
instance : FK 52 := ⟨by kernel_rfl⟩
instance : FK 53 := ⟨by kernel_rfl⟩
instance : FK 54 := ⟨by kernel_rfl⟩
instance : FK 55 := ⟨by kernel_rfl⟩
instance : FK 56 := ⟨by kernel_rfl⟩
instance : FK 57 := ⟨by kernel_rfl⟩
instance : FK 58 := ⟨by kernel_rfl⟩
instance : FK 59 := ⟨by kernel_rfl⟩
instance : FK 60 := ⟨by kernel_rfl⟩
instance : FK 62 := ⟨by kernel_rfl⟩
instance : FK 63 := ⟨by kernel_rfl⟩
instance : FK 64 := ⟨by kernel_rfl⟩
instance : FK 65 := ⟨by kernel_rfl⟩
instance : FK 66 := ⟨by kernel_rfl⟩
instance : FK 67 := ⟨by kernel_rfl⟩
instance : FK 68 := ⟨by kernel_rfl⟩
instance : FK 71 := ⟨by kernel_rfl⟩
instance : FK 72 := ⟨by kernel_rfl⟩
instance : FK 73 := ⟨by kernel_rfl⟩
instance : FK 74 := ⟨by kernel_rfl⟩
instance : FK 75 := ⟨by kernel_rfl⟩
instance : FK 76 := ⟨by kernel_rfl⟩
instance : FK 77 := ⟨by kernel_rfl⟩
instance : FK 78 := ⟨by kernel_rfl⟩
instance : FK 80 := ⟨by kernel_rfl⟩
instance : FK 81 := ⟨by kernel_rfl⟩
instance : FK 82 := ⟨by kernel_rfl⟩
instance : FK 83 := ⟨by kernel_rfl⟩
instance : FK 84 := ⟨by kernel_rfl⟩
instance : FK 85 := ⟨by kernel_rfl⟩
instance : FK 86 := ⟨by kernel_rfl⟩
instance : FK 87 := ⟨by kernel_rfl⟩
instance : FK 88 := ⟨by kernel_rfl⟩
instance : FK 89 := ⟨by kernel_rfl⟩
instance : FK 90 := ⟨by kernel_rfl⟩
instance : FK 91 := ⟨by kernel_rfl⟩
instance : FK 92 := ⟨by kernel_rfl⟩
instance : FK 94 := ⟨by kernel_rfl⟩
instance : FK 95 := ⟨by kernel_rfl⟩
instance : FK 96 := ⟨by kernel_rfl⟩
instance : FK 97 := ⟨by kernel_rfl⟩
instance : FK 98 := ⟨by kernel_rfl⟩
instance : FK 99 := ⟨by kernel_rfl⟩
instance : FK 100 := ⟨by kernel_rfl⟩
instance : FK 101 := ⟨by kernel_rfl⟩
instance : FK 131 := ⟨by kernel_rfl⟩
end Go.Proofs.YtaggjikjohamjaaGreatDoor
end
section
namespace Go.Proofs.YtaggjikjohamjaaGreatDoor
open Go.RowKit
set_option linter.unusedVariables false
set_option maxRecDepth 100000
section
variable {ops : Array Oper} {Q : Exit → Act → World → Prop} {rest : List Oper} {o : Oper} {a : Act} {w : World} {n : Nat} {l : List (Nat × Value)} {L : List Asn}
def Wanted (o : Oper) (ops : Array Oper) (l : List (Nat × Value)) : Option Bool :=
  match o.guard with
  | none => some true
  | some (j, want) => match ((ops[j]?).bind (·.dst)).bind (look l) with
    | some (.bool b) => some (b == want)
    | some _ => some false
    | none => none
theorem Fr.wanted {x : Bool} (F : Fr a n l) (h : Wanted o ops l = some x) : Region.wanted o (yielded ops a.tmps) = x := by
  unfold Wanted at h
  unfold Region.wanted
  cases hg : o.guard with
  | none => rw [hg] at h; exact Option.some.inj h
  | some p =>
    obtain ⟨j, want⟩ := p
    rw [hg] at h
    simp only at h ⊢
    unfold yielded
    cases hj : (ops[j]?).bind (·.dst) with
    | none => rw [hj] at h; simp at h
    | some d =>
      rw [hj] at h
      simp only [Option.bind_some] at h ⊢
      cases hl : look l d with
      | none => rw [hl] at h; simp at h
      | some u =>
        rw [hl] at h
        obtain ⟨h1, h2⟩ := F.val d u hl
        have h3 : a.tmps[d]? = some u := by
          have hs : d < a.tmps.size := by rw [F.size]; exact h1
          have : a.tmps.getD d undef = a.tmps[d] := by simp [Array.getD, hs]
          rw [Array.getElem?_eq_getElem hs, ← this, h2]
        rw [h3]
        cases u <;> simp_all
theorem sx_val (F : Fr a n l) (hw : Wanted o ops l = some true) {d : Nat} (hd : o.dst = some d) (hn : Nat.ble (d + 1) n = true) {v : Value} {w' : World} (hr : (execOp a.eval o).run Tryz.prog w = .ok (.value v) w')
    (h : ∀ a', Fr a' n ((d, v) :: l) → wpList Tryz.prog ops Q rest a' w') : wpList Tryz.prog ops Q (o :: rest) a w := by
  unfold wpList
  rw [if_pos (F.wanted hw)]
  refine .inl ?_
  unfold Oper.wp
  rw [hr]
  unfold Oper.upon
  rw [hd]
  exact h _ (F.put d v hn)
theorem sx_skip (F : Fr a n l) (hw : Wanted o ops l = some false) {d : Nat} (hd : o.dst = some d) (hn : Nat.ble (d + 1) n = true)
    (h : ∀ a', Fr a' n ((d, undef) :: l) → wpList Tryz.prog ops Q rest a' w) : wpList Tryz.prog ops Q (o :: rest) a w := by
  unfold wpList
  rw [if_neg (by rw [F.wanted hw]; simp), hd]
  exact h _ (F.put d undef hn)
theorem sx_skip0 (F : Fr a n l) (hw : Wanted o ops l = some false) (hd : o.dst = none)
    (h : wpList Tryz.prog ops Q rest a w) : wpList Tryz.prog ops Q (o :: rest) a w := by
  unfold wpList
  rw [if_neg (by rw [F.wanted hw]; simp), hd]
  exact h
theorem sx_nil (h : Q .normal a w) : wpList Tryz.prog ops Q [] a w := h
/-! ### Operations that only compute -/
def pureBin (b : BinOp) (u v : Value) : Option Value :=
  match u, v with
  | .int k x, .int k' y => if k = k' then
      match b with
      | .eql => some (.bool (decide (x = y)))
      | .neq => some (.bool (decide (x ≠ y)))
      | .lss => some (.bool (decide (x < y)))
      | .leq => some (.bool (decide (x ≤ y)))
      | .gtr => some (.bool (decide (y < x)))
      | .geq => some (.bool (decide (y ≤ x)))
      | _ => none
    else none
  | .string x, .string y =>
    match b with
    | .eql => some (.bool (x.toList == y.toList))
    | .neq => some (.bool (!(x.toList == y.toList)))
    | _ => none
  | _, _ => none
def pureOp (op : Op) (l : List (Nat × Value)) : Option Value :=
  match op with
  | .move x => evl l x
  | .assign x => evl l x
  | .binOp b _ x y _ => match evl l x, evl l y with | some u, some v => pureBin b u v | _, _ => none
  | .unOp .not _ x => match evl l x with | some (.bool b) => some (.bool (!b)) | _ => none
  | .nilCheck x => match evl l x with | some (.pointer (some p)) => some (.pointer (some p)) | some (.func (.func f) u v) => some (.func (.func f) u v) | _ => none
  | .makeFunc f u v => match evls l u.toList, evls l v.toList with | some us, some vs => some (.func f us.toArray vs.toArray) | _, _ => none
  | .pick c x y => match evl l c with | some (.bool true) => evl l x | some (.bool false) => evl l y | _ => none
  | _ => none
theorem pureBin_run (b : BinOp) (t : TypeId) (x y : Operand) {u v r : Value} (h : pureBin b u v = some r) (w : World) : (do eqGuard b t x y u v; binOp b t u v : Sem Value).run Tryz.prog w = .ok r w := by
  unfold pureBin at h
  split at h
  · split at h
    · rename_i k x y k' x' y' hk
      subst hk
      cases b <;> simp only [reduceCtorEq] at h <;> (obtain rfl := Option.some.inj h) <;> simp [eqGuard, binOp, Op.intCmp] <;> rfl
    · cases h
  · cases b <;> simp only [reduceCtorEq] at h <;> (obtain rfl := Option.some.inj h) <;> simp [eqGuard, binOp, Op.stringOp]
  · cases h
theorem pure_run (F : Fr a n l) {v : Value} (h : pureOp o.op l = some v) : (execOp a.eval o).run Tryz.prog w = .ok (.value v) w := by
  unfold pureOp at h
  unfold execOp
  split at h
  · rename_i x e; rw [e]; simp [F.eval h]
  · rename_i x e; rw [e]; simp [F.eval h]
  · rename_i b t x y ty e
    rw [e]
    split at h
    · rename_i u v h1 h2
      simp only [F.eval h1, F.eval h2]
      have := pureBin_run b t x y h w
      rw [Sem.run_bind, this]; rfl
    · cases h
  · rename_i t x e
    rw [e]
    split at h
    · rename_i b h1
      obtain rfl := Option.some.inj h
      simp [F.eval h1, Op.unary]
    · cases h
  · rename_i x e
    rw [e]
    split at h
    · rename_i p h1
      obtain rfl := Option.some.inj h
      simp [F.eval h1]
    · rename_i p u v h1
      obtain rfl := Option.some.inj h
      simp [F.eval h1]
    · cases h
  · rename_i f u v e
    rw [e]
    split at h
    · rename_i us vs h1 h2
      obtain rfl := Option.some.inj h
      have e1 : u.map a.eval = us.toArray := by have := F.evals h1; apply Array.toList_inj.1; simpa using this
      have e2 : v.map a.eval = vs.toArray := by have := F.evals h2; apply Array.toList_inj.1; simpa using this
      simp [Instr.makeFunc, e1, e2]
    · cases h
  · rename_i c x y e
    rw [e]
    split at h
    · rename_i h1
      simp [F.eval h1, F.eval h, asBool]
    · rename_i h1
      simp [F.eval h1, F.eval h, asBool]
    · cases h
  · cases h
/-! ### Arithmetic -/
theorem bin_run (F : Fr a n l) {b : BinOp} {t ty : TypeId} {x y : Operand} (ho : o.op = .binOp b t x y ty) {k : IntKind} {m p : Int} (hx : evl l x = some (.int k m)) (hy : evl l y = some (.int k p)) {r : Value}
    (h : (binOp b t (.int k m) (.int k p)).run Tryz.prog w = .ok r w) : (execOp a.eval o).run Tryz.prog w = .ok (.value r) w := by
  unfold execOp
  rw [ho]
  have h1 : (eqGuard b t x y (.int k m) (.int k p)).run Tryz.prog w = .ok () w := by unfold eqGuard; cases b <;> simp [Sem.run_pure]
  simp only [F.eval hx, F.eval hy, Sem.run_bind, h1, Result.andThen_ok, h]
  rfl
theorem u64_in {x : Int} (h1 : 0 ≤ x) (h2 : x ≤ 18446744073709551615) : IntKind.u64.wrap x = x := by
  have := Int.emod_eq_of_lt h1 (show x < 18446744073709551616 by omega)
  first | simpa [IntKind.wrap, IntKind.signed, IntKind.bits] using this | (unfold IntKind.wrap; simp [IntKind.signed, IntKind.bits]; omega)
theorem eq_run (F : Fr a n l) {t ty : TypeId} {x y : Operand} {neg : Bool} (ho : o.op = .binOp (if neg then .neq else .eql) t x y ty) {xs ys : List Value} (hx : evl l x = some (.agg xs.toArray)) (hy : evl l y = some (.agg ys.toArray)) {ks : List Sc} [he : EQ t ks] {r : Bool} (hr : cellsEq ks xs ys = some r) :
    (execOp a.eval o).run Tryz.prog w = .ok (.value (.bool (neg ^^ r))) w := by
  unfold execOp
  rw [ho]
  cases neg
  · simp only [Bool.false_eq_true, if_false, F.eval hx, F.eval hy, Sem.run_bind, run_eqGuard_agg w .eql t x y _ _ he.k.2, Result.andThen_ok, run_eql_struct w t, run_eq_flat hr]
    simp
  · simp only [if_true, F.eval hx, F.eval hy, Sem.run_bind, run_eqGuard_agg w .neq t x y _ _ he.k.2, Result.andThen_ok, run_neq_struct w t, run_eq_flat hr]
    simp
def guardOf (o : Oper) (ops : Array Oper) (l : List (Nat × Value)) : Option Value := match o.guard with | some (j, _) => ((ops[j]?).bind (·.dst)).bind (look l) | none => none
theorem sx_guardb (F : Fr a n l) {b : Bool} (hg : guardOf o ops l = some (.bool b)) (h1 : b = true → wpList Tryz.prog ops Q (o :: rest) a w) (h2 : b = false → wpList Tryz.prog ops Q (o :: rest) a w) : wpList Tryz.prog ops Q (o :: rest) a w := by
  cases b
  · exact h2 rfl
  · exact h1 rfl
theorem cell_pt {L' : List Asn} {b i : Nat} {cs : List Value} {t' : TypeId} {v : Value} (M : Mem w L) (hp : Pull L (pt b cs t') L') (hv : cs[i]? = some v) : w.cell? ⟨b, i, none⟩ = some v := by
  have := M.pt hp
  simp [World.cell?, this, hv]
theorem free_pt {L' : List Asn} {b i : Nat} {cs : List Value} {t' : TypeId} (M : Mem w L) (hp : Pull L (pt b cs t') L') : w.frozen? ⟨b, i, none⟩ = false := by
  have := M.pt hp
  simp [World.frozen?, this]
theorem load_run1 (F : Fr a n l) (M : Mem w L) {t : TypeId} {x : Operand} (ho : o.op = .load t x) {b i : Nat} (hx : evl l x = some (.pointer (some ⟨b, i, none⟩))) (hkt : KT t none) {L' : List Asn} {cs : List Value} {t' : TypeId} (hp : Pull L (pt b cs t') L')
    {v : Value} (hv : cs[i]? = some v) : (execOp a.eval o).run Tryz.prog w = .ok (.value v) w := by
  unfold execOp
  rw [ho]
  simp [F.eval hx, Instr.loadAt, Instr.sureAddr, run_loadVar_one (cell_pt M hp hv)]
theorem load_runA (F : Fr a n l) (M : Mem w L) {t : TypeId} {x : Operand} (ho : o.op = .load t x) {b : Nat} (hx : evl l x = some (.pointer (some ⟨b, 0, none⟩))) {k : Nat} (hkt : KT t (some k)) {L' : List Asn} {cs : List Value} {t' : TypeId} (hp : Pull L (pt b cs t') L')
    (hk : cs.length = k) : (execOp a.eval o).run Tryz.prog w = .ok (.value (.agg cs.toArray)) w := by
  unfold execOp
  rw [ho]
  simp [F.eval hx, Instr.loadAt, Instr.sureAddr, run_loadVar_agg hk (fun j u hu => by rw [Nat.zero_add]; exact cell_pt M hp hu)]
theorem load_runS (F : Fr a n l) (M : Mem w L) {t : TypeId} {x : Operand} (ho : o.op = .load t x) {b i : Nat} (hx : evl l x = some (.pointer (some ⟨b, i, none⟩))) {k : Nat} (hkt : KT t (some k)) {L' : List Asn} {cs : List Value} {t' : TypeId} (hp : Pull L (pt b cs t') L')
    {ds : List Value} (hd : (cs.drop i).take k = ds) (hk : ds.length = k) : (execOp a.eval o).run Tryz.prog w = .ok (.value (.agg ds.toArray)) w := by
  unfold execOp
  rw [ho]
  simp only [F.eval hx, Instr.loadAt, Instr.sureAddr, Sem.run_bind, Sem.run_pure, Result.andThen_ok]
  rw [run_loadVar_agg hk (fun j u hu => cell_pt M hp (by
    rw [← hd] at hu
    rw [List.getElem?_take] at hu
    split at hu
    · rwa [List.getElem?_drop] at hu
    · cases hu))]
  rfl
theorem setCell_row {b i : Nat} {cs : List Value} {t : TypeId} {v : Value} (h : w.heap[b]? = some (.cells cs.toArray t (0, 0))) : w.setCell ⟨b, i, none⟩ v = w.setRow b (cs.set i v).toArray := by
  rw [setCell_eq_setRow w b i _ t (0, 0) v h]; simp
theorem all_one {cs : List Value} (h : cs.all (·.oneCell') = true) : ∀ v ∈ cs, v.oneCell' = true := fun v hv => List.all_eq_true.1 h v hv
/-! ### Calls -/
theorem run_callFunc (f : FuncId) [hf : FK f] (vs : Array Value) (w : World) : (callFunc f vs).run Tryz.prog w = .ok (.enter f vs) w := by
  have h := hf.k
  unfold callFunc
  cases hq : Tryz.prog.funcs[f]? with
  | none => rw [hq] at h; cases h
  | some fn =>
    rw [hq] at h
    simp only [Bool.and_eq_true, Bool.not_eq_true'] at h
    obtain ⟨h1, h2⟩ := h
    have h3 : fn.body.isNone = false := by cases hb : fn.body <;> simp_all
    simp only [Sem.run_bind, program, Sem.run, Result.andThen_ok, hq, h1, h3, Bool.false_eq_true, if_false]
    rfl
/-! ### Control -/
theorem sx_region {id : Nat} {os : List Oper} (h : wpList Tryz.prog os.toArray Q os a w) : (Code.region id os.toArray false).wp Tryz.prog Q a w := wp_region_lit h
section
variable {c : Operand} {x y : Code}
theorem sx_cond_t (F : Fr a n l) (hc : evl l c = some (.bool true)) (h : x.wp Tryz.prog Q a w) : (Code.cond c x y).wp Tryz.prog Q a w := wp_cond_true (F.eval hc) h
theorem sx_cond_f (F : Fr a n l) (hc : evl l c = some (.bool false)) (h : y.wp Tryz.prog Q a w) : (Code.cond c x y).wp Tryz.prog Q a w := wp_cond_false (F.eval hc) h
theorem sx_cond_b (F : Fr a n l) {b : Bool} (hc : evl l c = some (.bool b)) (h1 : b = true → x.wp Tryz.prog Q a w) (h2 : b = false → y.wp Tryz.prog Q a w) : (Code.cond c x y).wp Tryz.prog Q a w := wp_cond_split (F.eval hc) h1 h2
end
/-! ### The end -/
inductive Res (L : List Asn) (l : List (Nat × Value)) : ResultVar → Value → Prop where
  | tmp {t : Tmp} {v : Value} : look l t = some v → Res L l (.tmp t) v
  | one {t : Tmp} {ty : TypeId} {b i : Nat} {L' : List Asn} {cs : List Value} {t' : TypeId} {v : Value} : look l t = some (.pointer (some ⟨b, i, none⟩)) → KT ty none → Pull L (pt b cs t') L' → cs[i]? = some v → Res L l (.cell t ty) v
  | agg {t : Tmp} {ty : TypeId} {b k : Nat} {L' : List Asn} {cs : List Value} {t' : TypeId} : look l t = some (.pointer (some ⟨b, 0, none⟩)) → KT ty (some k) → Pull L (pt b cs t') L' → cs.length = k → Res L l (.cell t ty) (.agg cs.toArray)
inductive Ress (L : List Asn) (l : List (Nat × Value)) : List ResultVar → List Value → Prop where
  | nil : Ress L l [] []
  | cons {r : ResultVar} {v : Value} {rs : List ResultVar} {vs : List Value} : Res L l r v → Ress L l rs vs → Ress L l (r :: rs) (v :: vs)
theorem run_mapM_list {α β : Type} (f : α → Sem β) (P : Program) (w : World) : ∀ (xs : List α) (ys : List β), xs.length = ys.length → (∀ (i : Nat) (x : α) (y : β), xs[i]? = some x → ys[i]? = some y → (f x).run P w = .ok y w) → (xs.mapM f).run P w = .ok ys w
  | [], [], _, _ => by simp
  | x :: xs, y :: ys, h, hf => by
    have h1 := hf 0 x y rfl rfl
    have h2 := run_mapM_list f P w xs ys (by simpa using h) fun i x y hx hy => hf (i + 1) x y (by simpa using hx) (by simpa using hy)
    simp [List.mapM_cons, h1, h2]
  | [], _ :: _, h, _ => by simp at h
  | _ :: _, [], h, _ => by simp at h
def tupOf : List Value → Value
  | [v] => v
  | vs => .tuple vs.toArray
def res1 (tmps : Array Value) (r : ResultVar) : Sem Value :=
  match r with
  | .tmp t => pure (tmps.getD t undef)
  | .cell p t => do loadVar t (← asAddr (tmps.getD p undef))
theorem Ress.run {fn : Func} {rs : List ResultVar} {vs : List Value} (F : Fr a n l) (M : Mem w L) (h : Ress L l rs vs) (hf : fn.results = rs.toArray) : (results fn a.tmps).run Tryz.prog w = .ok (tupOf vs) w := by
  have hlen : rs.length = vs.length := by
    clear hf; induction h with
    | nil => rfl
    | cons _ _ ih => simp [ih]
  have hev : ∀ (i : Nat) (r : ResultVar) (v : Value), rs[i]? = some r → vs[i]? = some v → (res1 a.tmps r).run Tryz.prog w = .ok v w := by
    clear hf hlen
    induction h with
    | nil => intro i r v h; simp at h
    | cons h1 _ ih =>
      intro i r v hr hv
      cases i with
      | succ i => exact ih i r v (by simpa using hr) (by simpa using hv)
      | zero =>
        simp at hr hv
        subst hr; subst hv
        cases h1 with
        | tmp h => simp only [res1, (F.val _ _ h).2, Sem.run_pure]
        | one h hk hp hc => simp only [res1, (F.val _ _ h).2, asAddr, Sem.run_bind, Sem.run_pure, Result.andThen_ok, run_loadVar_one (cell_pt M hp hc)]
        | agg h hk hp hc => simp only [res1, (F.val _ _ h).2, asAddr, Sem.run_bind, Sem.run_pure, Result.andThen_ok, run_loadVar_agg hc (fun j u hu => by rw [Nat.zero_add]; exact cell_pt M hp hu)]
  have hm := run_mapM_list (res1 a.tmps) Tryz.prog w rs vs hlen hev
  have e : results fn a.tmps = (do let vs ← rs.toArray.mapM (res1 a.tmps); pure (if h : vs.size = 1 then vs[0] else .tuple vs)) := by
    unfold results; rw [hf]; rfl
  rw [e, List.mapM_toArray, Sem.run_bind]
  have hm2 : (List.toArray <$> List.mapM (res1 a.tmps) rs).run Tryz.prog w = .ok vs.toArray w := by
    rw [Sem.run_map, hm]; rfl
  rw [hm2]
  simp only [Result.andThen_ok]
  match vs with
  | [] => simp [tupOf]
  | [v] => simp [tupOf]
  | v :: u :: r => simp [tupOf]
theorem sx_end {fn : Func} {R : Ending → World → Prop} {rs : List ResultVar} {vs : List Value} (F : Fr a n l) (M : Mem w L) (hf : fn.results = rs.toArray) (hr : Ress L l rs vs) {v : Value} (hv : tupOf vs = v) (hR : R (.returned v) w) : bodyPost Tryz.prog fn R .normal a w :=
  bodyPost_end (by rw [hr.run F M hf, hv]) F.ds hR
theorem sx_ret {fn : Func} {R : Ending → World → Prop} {rs : List ResultVar} {vs : List Value} (F : Fr a n l) (M : Mem w L) (hf : fn.results = rs.toArray) (hr : Ress L l rs vs) {v : Value} (hv : tupOf vs = v) (hR : R (.returned v) w) : bodyPost Tryz.prog fn R .ret a w :=
  bodyPost_ret (by rw [hr.run F M hf, hv]) F.ds hR
end
end Go.Proofs.YtaggjikjohamjaaGreatDoor
end
section
namespace Go.Proofs.YtaggjikjohamjaaGreatDoor
open Go.RowKit
/-- What the law asks of a region, by reckoning: every edge points back; a slot is written by one operation alone; whoever looks at a slot that the region writes waits for its writer; no select. -/
def fixB (ops : Array Oper) : Bool :=
  (List.range ops.size).all fun i =>
    match ops[i]? with
    | none => false
    | some o =>
      (o.after.toList.all fun e => !Region.binds .any e || decide (e.on < i)) &&
      (match o.op with | .select .. => false | _ => true) &&
      ((List.range ops.size).all fun j =>
        match ops[j]? with
        | none => false
        | some p =>
          match p.dst with
          | none => true
          | some d =>
            (!(o.op.operands.toList.any fun x => match x with | .tmp t => t == d | _ => false) || (o.after.toList.any fun e => Region.binds .any e && e.on == j)) &&
            (match o.guard with | none => true | some (g, _) => !(g == j) || (o.after.toList.any fun e => Region.binds .any e && e.on == j)) &&
            (i == j || !(o.dst == some d)))
section
variable {P : Program} {ops : Array Oper} {a0 : Act} {T : Array Value}
/-- The frame's slots: what has been written is at its end, the rest as it was. -/
def AtFix (ops : Array Oper) (a0 : Act) (T : Array Value) (listed : Array Bool) (a : Act) : Prop :=
  a.defers = a0.defers ∧ a.tmps.size = a0.tmps.size ∧ ∀ t, ((∃ (j : Nat) (o : Oper), ops[j]? = some o ∧ o.dst = some t ∧ listed.getD j true = false) ∨ a.tmps.getD t undef = T.getD t undef) ∧
    ((∀ (j : Nat) (o : Oper), ops[j]? = some o → o.dst ≠ some t) → a.tmps.getD t undef = a0.tmps.getD t undef)
theorem fixB_spec (h : fixB ops = true) {i : Nat} {o : Oper} (hi : ops[i]? = some o) :
    (∀ e ∈ o.after, Region.binds .any e = true → e.on < i) ∧ (∀ cs b, o.op ≠ .select cs b) ∧
    (∀ (j : Nat) (p : Oper) (d : Tmp), ops[j]? = some p → p.dst = some d → ((.tmp d) ∈ o.op.operands → ∃ e ∈ o.after, Region.binds .any e = true ∧ e.on = j) ∧ (∀ g b, o.guard = some (g, b) → g = j → ∃ e ∈ o.after, Region.binds .any e = true ∧ e.on = j) ∧ (i ≠ j → o.dst ≠ some d)) := by
  have hlt : i < ops.size := (Array.getElem?_eq_some_iff.1 hi).1
  have h1 := List.all_eq_true.1 h i (List.mem_range.2 hlt)
  rw [hi] at h1
  simp only [Bool.and_eq_true] at h1
  obtain ⟨⟨ha, hs⟩, hj⟩ := h1
  refine ⟨fun e he hb => ?_, fun cs b hc => ?_, fun j p d hp hd => ?_⟩
  · have := List.all_eq_true.1 ha e (by simpa using he)
    simpa [hb] using this
  · rw [hc] at hs; simp at hs
  · have hlj : j < ops.size := (Array.getElem?_eq_some_iff.1 hp).1
    have h2 := List.all_eq_true.1 hj j (List.mem_range.2 hlj)
    rw [hp] at h2
    simp only [hd, Bool.and_eq_true, Bool.or_eq_true, Bool.not_eq_true'] at h2
    obtain ⟨⟨h3, h4⟩, h5⟩ := h2
    refine ⟨fun hm => ?_, fun g b hg hgj => ?_, fun hij hdd => ?_⟩
    · rcases h3 with h3 | h3
      · exfalso
        have : (o.op.operands.toList.any fun x => match x with | .tmp t => t == d | _ => false) = true := List.any_eq_true.2 ⟨.tmp d, by simpa using hm, by simp⟩
        rw [this] at h3; cases h3
      · obtain ⟨e, he, hb⟩ := List.any_eq_true.1 h3
        simp only [Bool.and_eq_true, beq_iff_eq] at hb
        exact ⟨e, by simpa using he, hb.1, hb.2⟩
    · rw [hg] at h4
      simp only [Bool.or_eq_true, Bool.not_eq_true'] at h4
      rcases h4 with h4 | h4
      · exfalso; simp [hgj] at h4
      · obtain ⟨e, he, hb⟩ := List.any_eq_true.1 h4
        simp only [Bool.and_eq_true, beq_iff_eq] at hb
        exact ⟨e, by simpa using he, hb.1, hb.2⟩
    · rcases h5 with h5 | h5
      · exact hij (by simpa using h5)
      · rw [hdd] at h5; simp at h5
theorem AtFix.put {listed : Array Bool} {a : Act} (hB : fixB ops = true) (h : AtFix ops a0 T listed a) {i : Nat} {o : Oper} (hi : ops[i]? = some o) (hl : listed.size = ops.size) {v : Value} (hv : ∀ d, o.dst = some d → v = T.getD d undef ∧ d < a0.tmps.size) :
    AtFix ops a0 T (listed.setIfInBounds i true) (a.put o.dst v) := by
  have hlt : i < ops.size := (Array.getElem?_eq_some_iff.1 hi).1
  cases hd : o.dst with
  | none =>
    refine ⟨h.1, h.2.1, fun t => ⟨?_, (h.2.2 t).2⟩⟩
    rcases (h.2.2 t).1 with ⟨j, p, hp, hpd, hn⟩ | h1
    · left
      refine ⟨j, p, hp, hpd, ?_⟩
      have hij : i ≠ j := fun e => by subst e; rw [hi] at hp; cases hp; rw [hd] at hpd; cases hpd
      rw [getD_set_ne true hij]; exact hn
    · exact .inr h1
  | some d =>
    obtain ⟨hv1, hv2⟩ := hv d hd
    refine ⟨h.1, by simp [Act.put, h.2.1], fun t => ?_⟩
    by_cases htd : t = d
    · subst htd
      refine ⟨.inr ?_, fun hno => absurd hd (hno i o hi)⟩
      simp [Act.put, h.2.1, hv2, hv1]
    · have e : (a.put (some d) v).tmps.getD t undef = a.tmps.getD t undef := by
        simp [Act.put, Array.getElem?_setIfInBounds, Ne.symm htd]
      rw [e]
      refine ⟨?_, (h.2.2 t).2⟩
      rcases (h.2.2 t).1 with ⟨j, p, hp, hpd, hn⟩ | h1
      · left
        refine ⟨j, p, hp, hpd, ?_⟩
        have hij : i ≠ j := fun e => by
          subst e; rw [hi] at hp; cases hp; rw [hd] at hpd; exact htd (Option.some.inj hpd).symm
        rw [getD_set_ne true hij]; exact hn
      · exact .inr h1
theorem ready_nil_all (hB : fixB ops = true) {listed : Array Bool} (hl : listed.size = ops.size) (h : Region.ready .any ops listed = []) : ∀ i, i < ops.size → listed.getD i true = true := by
  intro i
  induction i using Nat.strongRecOn with
  | ind i ih =>
    intro hi
    cases hu : listed.getD i true with
    | true => rfl
    | false =>
      exfalso
      have : i ∈ Region.ready .any ops listed := mem_ready.2 ⟨hu, ops[i], Array.getElem?_eq_getElem hi, fun e he hb => by
        have h1 := (fixB_spec hB (Array.getElem?_eq_getElem hi)).1 e he hb
        have h2 := ih e.on h1 (by omega)
        simpa [hl, Nat.lt_trans h1 hi] using h2⟩
      rw [h] at this; cases this
def unlisted (listed : Array Bool) : Nat := (listed.toList.filter (fun b => !b)).length
theorem unlisted_set {listed : Array Bool} {i : Nat} (h : i < listed.size) (hf : listed.getD i true = false) : unlisted (listed.setIfInBounds i true) + 1 = unlisted listed := by
  unfold unlisted
  have hf' : listed.toList[i]? = some false := by
    have : listed[i] = false := by simpa [h] using hf
    simp [h, this]
  rw [Array.toList_setIfInBounds]
  generalize listed.toList = l at *
  clear hf h
  induction l generalizing i with
  | nil => simp at hf'
  | cons b l ih =>
    cases i with
    | zero => simp at hf'; subst hf'; simp
    | succ i =>
      simp only [List.set_cons_succ, List.filter_cons]
      have := ih (by simpa using hf')
      cases b <;> simp <;> omega
end
end Go.Proofs.YtaggjikjohamjaaGreatDoor
end
section
namespace Go.Proofs.YtaggjikjohamjaaGreatDoor
open Go.RowKit
set_option linter.unusedVariables false
set_option maxRecDepth 100000
/-- What is asked once an operation has yielded this. -/
def UponD (P : Program) (Φ : Value → World → Prop) : Result Next → Prop
  | .ok (.value u) w' => Φ u w'
  | .ok .skip w' => Φ undef w'
  | .ok (.enter f args) w' => Calls P f args w' fun e w'' => ∃ v, e = .returned v ∧ Φ v w''
  | _ => False
theorem UponD.mono {P : Program} {Φ Ψ : Value → World → Prop} {r : Result Next} (h : UponD P Φ r) (hi : ∀ v w, Φ v w → Ψ v w) : UponD P Ψ r := by
  cases r with
  | ok x w =>
    cases x <;> simp only [UponD] at h ⊢
    case value u => exact hi _ _ h
    case skip => exact hi _ _ h
    case enter f args => exact h.mono fun e w ⟨v, he, hv⟩ => ⟨v, he, hi _ _ hv⟩
  | halt x w => exact h
theorem UponD.wp {P : Program} {o : Oper} {a : Act} {w : World} {Φ : Value → World → Prop} {K : Act → World → Prop} {Q : Exit → Act → World → Prop}
    (h : UponD P Φ ((execOp a.eval o).run P w)) (hK : ∀ v w', Φ v w' → K (a.put o.dst v) w') : o.wp P a w K Q := by
  unfold Oper.wp
  generalize (execOp a.eval o).run P w = r at *
  cases r with
  | ok x w' =>
    cases x <;> simp only [UponD] at h <;> simp only [Oper.upon]
    case value u => exact hK _ _ h
    case skip => exact hK _ _ h
    case enter f args => exact h.mono fun e w'' ⟨v, he, hr⟩ => by subst he; exact hK _ _ hr
  | halt x w' => simp only [UponD] at h
/-! ### Ancestors -/
def befStep (acc : Array Nat) (o : Oper) : Array Nat := acc.push (o.after.foldl (fun s e => if Region.binds .any e then s ||| 2 ^ e.on ||| acc.getD e.on 0 else s) 0)
theorem before_eq (ops : Array Oper) : Region.before ops = ops.toList.foldl befStep #[] := by
  unfold Region.before
  rw [← Array.foldl_toList]; rfl
theorem bef_old : ∀ (l : List Oper) (acc : Array Nat) (k : Nat), k < acc.size → (l.foldl befStep acc).getD k 0 = acc.getD k 0
  | [], acc, k, _ => rfl
  | o :: l, acc, k, h => by
    rw [List.foldl_cons, bef_old l _ k (by simp [befStep]; omega)]
    simp [befStep, Array.getElem?_push, Nat.ne_of_lt h]
theorem bef_at : ∀ (l : List Oper) (acc : Array Nat) (i : Nat) (o : Oper), l[i]? = some o → ∃ acc' : Array Nat, acc'.size = acc.size + i ∧ (∀ k, k < acc.size + i → (l.foldl befStep acc).getD k 0 = acc'.getD k 0) ∧
    (l.foldl befStep acc).getD (acc.size + i) 0 = o.after.foldl (fun s e => if Region.binds .any e then s ||| 2 ^ e.on ||| acc'.getD e.on 0 else s) 0
  | [], _, _, _, h => by simp at h
  | p :: l, acc, 0, o, h => by
    simp at h; subst h
    refine ⟨acc, rfl, fun k hk => ?_, ?_⟩
    · exact bef_old (p :: l) acc k hk
    · rw [List.foldl_cons, Nat.add_zero, bef_old l _ acc.size (by simp [befStep])]
      simp [befStep]
  | p :: l, acc, i + 1, o, h => by
    obtain ⟨acc', h1, h2, h3⟩ := bef_at l (befStep acc p) i o (by simpa using h)
    have hs : (befStep acc p).size = acc.size + 1 := by simp [befStep]
    rw [hs] at h1 h2 h3
    refine ⟨acc', by omega, fun k hk => by rw [List.foldl_cons]; exact h2 k (by omega), ?_⟩
    rw [List.foldl_cons, show acc.size + (i + 1) = acc.size + 1 + i by omega]
    exact h3
theorem fold_bits (f : Edge → Nat) (j : Nat) : ∀ (l : List Edge) (s : Nat), (l.foldl (fun s e => if Region.binds .any e then s ||| 2 ^ e.on ||| f e else s) s).testBit j = true → s.testBit j = true ∨ ∃ e ∈ l, Region.binds .any e = true ∧ (e.on = j ∨ (f e).testBit j = true)
  | [], s, h => .inl h
  | e :: l, s, h => by
    rw [List.foldl_cons] at h
    rcases fold_bits f j l _ h with h1 | ⟨e', he, hb⟩
    · split at h1
      · rename_i hb
        rw [Nat.testBit_or, Nat.testBit_or, Nat.testBit_two_pow] at h1
        simp only [Bool.or_eq_true, decide_eq_true_eq] at h1
        rcases h1 with (h1 | h1) | h1
        · exact .inl h1
        · exact .inr ⟨e, by simp, hb, .inl h1⟩
        · exact .inr ⟨e, by simp, hb, .inr h1⟩
      · exact .inl h1
    · exact .inr ⟨e', by simp [he], hb⟩
theorem anc_listed {ops : Array Oper} {S : Nat → Prop} (hback : ∀ (i : Nat) (o : Oper), ops[i]? = some o → ∀ e ∈ o.after, Region.binds .any e = true → e.on < i)
    (hclosed : ∀ (i : Nat) (o : Oper), ops[i]? = some o → S i → ∀ e ∈ o.after, Region.binds .any e = true → S e.on) :
    ∀ (i : Nat) (o : Oper), ops[i]? = some o → (∀ e ∈ o.after, Region.binds .any e = true → S e.on) → ∀ j, ((Region.before ops).getD i 0).testBit j = true → S j := by
  intro i
  induction i using Nat.strongRecOn with
  | ind i ih =>
    intro o ho he j hj
    have ho' : ops.toList[i]? = some o := by simpa using ho
    obtain ⟨acc', h1, h2, h3⟩ := bef_at ops.toList #[] i o ho'
    rw [before_eq] at hj
    simp only [List.size_toArray, List.length_nil, Nat.zero_add] at h1 h2 h3
    rw [h3, ← Array.foldl_toList] at hj
    rcases fold_bits (fun e => acc'.getD e.on 0) j o.after.toList 0 hj with h | ⟨e, hm, hb, h⟩
    · simp at h
    · have hm' : e ∈ o.after := by simpa using hm
      have hlt := hback i o ho e hm' hb
      rcases h with h | h
      · rw [← h]; exact he e hm' hb
      · cases hoe : ops[e.on]? with
        | none =>
          have : ops.size ≤ e.on := by simpa using hoe
          have : i < ops.size := (Array.getElem?_eq_some_iff.1 ho).1
          omega
        | some oe =>
          refine ih e.on hlt oe hoe (fun e' he' hb' => hclosed e.on oe hoe (he e hm' hb) e' he' hb') j ?_
          rw [before_eq, h2 e.on hlt]; exact h
/-! ### The check -/
def lookS : List (Nat × List Nat) → Nat → List Nat
  | [], _ => []
  | (s, v) :: r, t => cond (Nat.beq s t) v (lookS r t)
def ordOK (ops : Array Oper) (B : Array Nat) (E Fl : List Nat) (S : List (Nat × List Nat)) : List Nat → List Nat → Bool
  | _, [] => true
  | done, i :: rest =>
    (match ops[i]? with
     | none => false
     | some o => o.after.all fun e => !Region.binds .any e || done.contains e.on) &&
    (Fl.contains i || done.all fun e => !(E.contains e || Fl.contains e) || (B.getD i 0).testBit e) && !done.contains i && (!E.contains i || done.all fun j => E.contains j || Fl.contains j || (B.getD i 0).testBit j || (lookS S i).contains j) && ordOK ops B E Fl S (i :: done) rest
def drawOK (ops : Array Oper) (E Fl : List Nat) (S : List (Nat × List Nat)) (σ : List Nat) (n : Nat) : Bool :=
  fixB ops && ordOK ops (Region.before ops) E Fl S [] σ && Nat.beq σ.length ops.size && ((List.range ops.size).all fun i => σ.contains i) && (Fl.all fun i => !E.contains i && (match ops[i]? with | some o => (match o.op, o.guard, o.dst with | .alloc _, none, some _ => true | _, _, _ => false) | none => false)) && ops.all fun o => match o.dst with | none => true | some d => Nat.ble (d + 1) n
section
variable {P : Program} {ops : Array Oper} {Q : Exit → Act → World → Prop} {n : Nat} {E Fl : List Nat} {S : List (Nat × List Nat)}
/-- The operation o reads v (or is not wanted). -/
def RdV (P : Program) (ops : Array Oper) (n : Nat) (o : Oper) (v : Value) (l : List (Nat × Value)) (L : List Asn) : Prop :=
  (Wanted o ops l = some true ∧ ∀ a w, Fr a n l → Mem w L → (execOp a.eval o).run P w = .ok (.value v) w) ∨ (Wanted o ops l = some false ∧ v = undef)
/-- Operation j reads what its slot holds. -/
def Rv (P : Program) (ops : Array Oper) (n : Nat) (j : Nat) (l : List (Nat × Value)) (L : List Asn) : Prop :=
  ∃ o v, ops[j]? = some o ∧ RdV P ops n o v l L ∧ ∀ t, o.dst = some t → look l t = some v
def Rvs (P : Program) (ops : Array Oper) (n : Nat) : List Nat → List (Nat × Value) → List Asn → Prop
  | [], _, _ => True
  | j :: r, l, L => Rv P ops n j l L ∧ Rvs P ops n r l L
theorem Rvs.mem {l : List (Nat × Value)} {L : List Asn} : ∀ {js : List Nat}, Rvs P ops n js l L → ∀ j ∈ js, Rv P ops n j l L
  | [], _, j, hj => by simp at hj
  | i :: r, h, j, hj => by
    rcases List.mem_cons.1 hj with rfl | hj
    · exact h.1
    · exact Rvs.mem h.2 j hj
/-- The operation acts; C is asked of what it yields and of memory behind it; whatever else there is stays. -/
def Acts (P : Program) (o : Oper) (l : List (Nat × Value)) (L : List Asn) (n : Nat) (C : Value → List Asn → Prop) : Prop := ∀ F a w, Fr a n l → Mem w (L ++ F) → UponD P (fun v w' => ∃ L', C v L' ∧ Mem w' (L' ++ F)) ((execOp a.eval o).run P w)
/-- The operation makes a new block of zero cells. -/
def News (P : Program) (o : Oper) (cs : List Value) (t : TypeId) : Prop := ∀ ρ w, (execOp ρ o).run P w = .ok (.value (.pointer (some ⟨w.heap.size, 0, none⟩))) (w.alloc (.cells cs.toArray t))
def PW (P : Program) (ops : Array Oper) (n : Nat) (Q : Exit → Act → World → Prop) (E Fl : List Nat) (S : List (Nat × List Nat)) : List Nat → List Nat → List (Nat × Value) → List Asn → Prop
  | [], _, l, L => ∀ a w, Fr a n l → Mem w L → Q .normal a w
  | i :: rest, done, l, L =>
    match ops[i]? with
    | none => False
    | some o =>
      if Fl.contains i then
        ∃ cs t, News P o cs t ∧ ∀ b, PW P ops n Q E Fl S rest (i :: done) (putL o.dst (.pointer (some ⟨b, 0, none⟩)) l) (pt b cs t :: L)
      else if E.contains i then
        (Wanted o ops l = some true ∧ Acts P o l L n fun v L' => Rvs P ops n (lookS S i) (putL o.dst v l) L' ∧ PW P ops n Q E Fl S rest (i :: done) (putL o.dst v l) L') ∨
        (Wanted o ops l = some false ∧ PW P ops n Q E Fl S rest (i :: done) (putL o.dst undef l) L)
      else ∃ v, RdV P ops n o v l L ∧ PW P ops n Q E Fl S rest (i :: done) (putL o.dst v l) L
/-- A frame with what is known laid over it. -/
def over (a : Act) (l : List (Nat × Value)) : Act := { a with tmps := Array.ofFn (n := a.tmps.size) fun i => (look l i.1).getD (a.tmps.getD i.1 undef) }
theorem over_fr {a : Act} {l : List (Nat × Value)} (hd : a.defers = []) (hs : a.tmps.size = n) (hl : ∀ t v, look l t = some v → t < n) : Fr (over a l) n l := by
  refine ⟨hd, by simp [over, hs], fun t v h => ⟨hl t v h, ?_⟩⟩
  have := hl t v h
  simp [over, hs, this, h]
theorem over_get {a : Act} {l : List (Nat × Value)} {t : Nat} (h : ∀ v, look l t = some v → a.tmps.getD t undef = v) : (over a l).tmps.getD t undef = a.tmps.getD t undef := by
  by_cases ht : t < a.tmps.size
  · cases hl : look l t with
    | none => simp [over, ht, hl]
    | some v =>
      have := h v hl
      simp only [Array.getD_eq_getD_getElem?] at this
      simp [over, ht, hl]
      simpa [ht] using this.symm
  · simp [over, ht]
theorem over_size (a : Act) (l : List (Nat × Value)) : (over a l).tmps.size = a.tmps.size := by simp [over]
/-- The slots at which an operation looks. -/
def looksAt (ops : Array Oper) (o : Oper) (t : Nat) : Prop := (.tmp t) ∈ o.op.operands ∨ ∃ g b p, o.guard = some (g, b) ∧ ops[g]? = some p ∧ p.dst = some t
theorem congr_over {a : Act} {l : List (Nat × Value)} {o : Oper} (hB : ∀ cs b, o.op ≠ .select cs b) (h : ∀ t, looksAt ops o t → ∀ v, look l t = some v → a.tmps.getD t undef = v) :
    execOp a.eval o = execOp (over a l).eval o ∧ Region.wanted o (yielded ops a.tmps) = Region.wanted o (yielded ops (over a l).tmps) := by
  constructor
  · refine execOp_congr o hB fun x hx => ?_
    cases x with
    | tmp t => exact (over_get (h t (.inl hx))).symm
    | const v => rfl
    | global g => rfl
    | func f => rfl
  · unfold Region.wanted
    cases hg : o.guard with
    | none => rfl
    | some gw =>
      obtain ⟨g, b⟩ := gw
      simp only []
      have : yielded ops a.tmps g = yielded ops (over a l).tmps g := by
        unfold yielded
        cases hp : ops[g]? with
        | none => rfl
        | some p =>
          simp only [Option.bind_some]
          cases hd : p.dst with
          | none => rfl
          | some d =>
            simp only [Option.bind_some]
            have h2 := over_get (a := a) (l := l) (h d (.inr ⟨g, b, p, hg, hp, hd⟩))
            have hsz := over_size a l
            by_cases hda : d < a.tmps.size
            · have hda' : d < (over a l).tmps.size := by rw [hsz]; exact hda
              simp only [Array.getD, hda, hda', dif_pos] at h2
              rw [Array.getElem?_eq_getElem hda, Array.getElem?_eq_getElem hda']
              have h3 : (over a l).tmps[d] = a.tmps[d] := by simpa using h2
              rw [h3]
            · rw [Array.getElem?_eq_none (Nat.le_of_not_lt hda), Array.getElem?_eq_none (Nat.le_of_not_lt (by rw [hsz]; exact hda))]
      rw [this]
def Valid (P : Program) (ops : Array Oper) (n : Nat) (l : List (Nat × Value)) (L : List Asn) (j : Nat) : Prop :=
  ∃ (o : Oper) (v : Value) (lj : List (Nat × Value)), ops[j]? = some o ∧ (∀ t, o.dst = some t → look l t = some v) ∧ (∀ t v, look lj t = some v → t < n) ∧ (∀ t, looksAt ops o t → ∀ u, look lj t = some u → look l t = some u) ∧ RdV P ops n o v lj L
theorem look_put {d t : Nat} {v : Value} {l : List (Nat × Value)} (h : d ≠ t) : look ((d, v) :: l) t = look l t := by simp [look, nbeq h]
theorem look_put_self {d : Nat} {v : Value} {l : List (Nat × Value)} : look ((d, v) :: l) d = some v := by simp [look, Nat.beq_refl]
theorem look_putL {ops : Array Oper} {l : List (Nat × Value)} (hn : ∀ (i : Nat) (o : Oper) (d : Nat), ops[i]? = some o → o.dst = some d → d < n) (hl : ∀ t u, look l t = some u → t < n) {k : Nat} {o : Oper} (ho : ops[k]? = some o) (v : Value) : ∀ t u, look (putL o.dst v l) t = some u → t < n := fun t u hu => by
  cases hd : o.dst with
  | none => rw [hd] at hu; exact hl t u hu
  | some t0 =>
    rw [hd] at hu
    by_cases ht : t0 = t
    · subst ht; exact hn k o t0 ho hd
    · rw [putL, look_put ht] at hu; exact hl t u hu
theorem look_put_cases {o : Oper} {v u : Value} {l : List (Nat × Value)} {t : Nat} (h : look (putL o.dst v l) t = some u) : (o.dst = some t ∧ u = v) ∨ (o.dst ≠ some t ∧ look l t = some u) := by
  cases hd : o.dst with
  | none => rw [hd] at h; exact .inr ⟨by simp, h⟩
  | some t0 =>
    rw [hd] at h
    by_cases ht : t0 = t
    · subst ht; rw [putL, look_put_self] at h; exact .inl ⟨rfl, (Option.some.inj h).symm⟩
    · rw [putL, look_put ht] at h; exact .inr ⟨by simp [ht], h⟩
theorem not_looks (hB : fixB ops = true) {done : List Nat} (hcl : ∀ j ∈ done, ∀ oj, ops[j]? = some oj → ∀ e ∈ oj.after, Region.binds .any e = true → e.on ∈ done) {i : Nat} {o : Oper} (hoi : ops[i]? = some o) (hni : i ∉ done) {t : Nat} (ht : o.dst = some t) :
    (∀ j ∈ done, ∀ oj, ops[j]? = some oj → ¬ looksAt ops oj t ∧ oj.dst ≠ some t) ∧ ¬ looksAt ops o t := by
  have key : ∀ (j : Nat) (oj : Oper), ops[j]? = some oj → looksAt ops oj t → ∃ e ∈ oj.after, Region.binds .any e = true ∧ e.on = i := by
    intro j oj hoj hlk
    have h1 := (fixB_spec hB hoj).2.2 i o t hoi ht
    rcases hlk with hlk | ⟨g, b, p, hg, hp, hpd⟩
    · exact h1.1 hlk
    · have hgi : g = i := by
        by_cases hgi : g = i
        · exact hgi
        · exact absurd ht ((fixB_spec hB hoi).2.2 g p t hp hpd |>.2.2 (Ne.symm hgi))
      exact h1.2.1 g b hg hgi
  refine ⟨fun j hj oj hoj => ⟨fun hlk => ?_, ?_⟩, fun hlk => ?_⟩
  · obtain ⟨e, hem, heb, heo⟩ := key j oj hoj hlk
    exact hni (heo ▸ hcl j hj oj hoj e hem heb)
  · have hij : j ≠ i := fun e => hni (e ▸ hj)
    exact ((fixB_spec hB hoj).2.2 i o t hoi ht).2.2 hij
  · obtain ⟨e, hem, heb, heo⟩ := key i o hoi hlk
    have := (fixB_spec hB hoi).1 e hem heb
    omega
theorem Valid.put (hB : fixB ops = true) {done : List Nat} (hcl : ∀ j ∈ done, ∀ oj, ops[j]? = some oj → ∀ e ∈ oj.after, Region.binds .any e = true → e.on ∈ done) {i : Nat} {o : Oper} (hoi : ops[i]? = some o) (hni : i ∉ done) {l : List (Nat × Value)} {L : List Asn} {v : Value} {j : Nat} (hj : j ∈ done)
    (h : Valid P ops n l L j) : Valid P ops n (putL o.dst v l) L j := by
  obtain ⟨oj, u, lj, h1, h2, h3, h4, h5⟩ := h
  cases hd : o.dst with
  | none => exact ⟨oj, u, lj, h1, h2, h3, h4, h5⟩
  | some t0 =>
    obtain ⟨k1, k2⟩ := (not_looks hB hcl hoi hni hd).1 j hj oj h1
    refine ⟨oj, u, lj, h1, fun t ht => ?_, h3, fun t hlk x hx => ?_, h5⟩
    · show look ((t0, v) :: l) t = some u
      rw [look_put (fun e => k2 (by rw [ht, e]))]; exact h2 t ht
    · show look ((t0, v) :: l) t = some x
      rw [look_put (fun e => by subst e; exact k1 hlk)]; exact h4 t hlk x hx
theorem RdV.more {o : Oper} {v : Value} {l : List (Nat × Value)} {L L' : List Asn} (h : RdV P ops n o v l L) (hp : ∀ w, Mem w L' → Mem w L) : RdV P ops n o v l L' := by
  rcases h with ⟨h1, h2⟩ | h
  · exact .inl ⟨h1, fun a w F M => h2 a w F (hp w M)⟩
  · exact .inr h
theorem Valid.more {l : List (Nat × Value)} {L L' : List Asn} {j : Nat} (h : Valid P ops n l L j) (hp : ∀ w, Mem w L' → Mem w L) : Valid P ops n l L' j := by
  obtain ⟨oj, u, lj, h1, h2, h3, h4, h5⟩ := h
  exact ⟨oj, u, lj, h1, h2, h3, h4, h5.more hp⟩
theorem Mem.drop_app {L F : List Asn} {w : World} (M : Mem w (L ++ F)) : Mem w L := by
  induction L generalizing w with
  | nil => exact Mem.nil w
  | cons A L ih =>
    obtain ⟨s, hs⟩ := M
    have key : ∀ (L : List Asn) (s : List Nat) (w : World), Sat (L ++ F) s w → ∃ s', Sat L s' w ∧ ∀ b ∈ s', b ∈ s := by
      intro L
      induction L with
      | nil => exact fun s w _ => ⟨[], .nil w, by simp⟩
      | cons A L ih =>
        intro s w hs
        cases hs with
        | cons h1 h2 h3 =>
          obtain ⟨s', k1, k2⟩ := ih _ _ h2
          refine ⟨_, .cons h1 k1 fun b hb hm => h3 b hb (k2 b hm), fun b hb => ?_⟩
          rcases List.mem_append.1 hb with hb | hb
          · exact List.mem_append.2 (.inl hb)
          · exact List.mem_append.2 (.inr (k2 b hb))
    obtain ⟨s', h, _⟩ := key (A :: L) s w hs
    exact ⟨s', h⟩
theorem pull_mid (L1 L2 : List Asn) (A : Asn) : Pull (L1 ++ A :: L2) A (L1 ++ L2) := by
  induction L1 with
  | nil => exact .here
  | cons X L1 ih => exact .there ih
theorem News.uniq {o : Oper} {cs cs' : List Value} {t t' : TypeId} (h : News P o cs t) (h' : News P o cs' t') : cs = cs' ∧ t = t' := by
  have h1 := h (fun _ => undef) { heap := #[], tape := fun _ _ => 0, drawn := 0, os := default, output := #[] }
  rw [h' (fun _ => undef) _] at h1
  have h2 := Result.ok.inj h1
  have h3 := congrArg World.heap h2.2
  simp [World.alloc] at h3
  exact ⟨h3.1.symm, h3.2.symm⟩
structure Pre (P : Program) (ops : Array Oper) (n : Nat) (Q : Exit → Act → World → Prop) (E Fl : List Nat) (S : List (Nat × List Nat)) (listed : Array Bool) (a : Act) (w : World) (done rest : List Nat) (l : List (Nat × Value)) (L : List Asn) (ear : List (Nat × Nat × Asn)) : Prop where
  pw : PW P ops n Q E Fl S rest done l L
  ord : ordOK ops (Region.before ops) E Fl S done rest = true
  perm : ∀ i, i < ops.size → i ∈ done ∨ i ∈ rest
  mem : Mem w (L ++ ear.map (·.2.2))
  early : ∀ x ∈ ear, ∃ o cs t d, ops[x.1]? = some o ∧ News P o cs t ∧ x.2.2 = pt x.2.1 cs t ∧ o.dst = some d ∧ a.tmps.getD d undef = .pointer (some ⟨x.2.1, 0, none⟩) ∧ Fl.contains x.1 = true ∧ listed.getD x.1 true = true ∧ x.1 ∉ done
  once : (ear.map (·.1)).Nodup
  sub : ∀ j, j < ops.size → listed.getD j true = true → j ∈ done ∨ j ∈ ear.map (·.1)
  effs : ∀ j ∈ done, (E.contains j = true ∨ Fl.contains j = true) → listed.getD j true = true
  dcl : ∀ j ∈ done, ∀ oj, ops[j]? = some oj → ∀ e ∈ oj.after, Region.binds .any e = true → e.on ∈ done
  closed : ∀ (j : Nat) (o : Oper), ops[j]? = some o → listed.getD j true = true → ∀ e ∈ o.after, Region.binds .any e = true → listed.getD e.on true = true
  ds : a.defers = []
  size : a.tmps.size = n
  lt : ∀ t v, look l t = some v → t < n
  slots : ∀ t v, look l t = some v → a.tmps.getD t undef = v ∨ (∃ j o, ops[j]? = some o ∧ listed.getD j true = false ∧ o.dst = some t) ∨ ∃ x ∈ ear, ∃ o, ops[x.1]? = some o ∧ o.dst = some t
  valid : ∀ j ∈ done, listed.getD j true = false → Valid P ops n l L j
def Head (E Fl : List Nat) (listed : Array Bool) (rest : List Nat) : Prop := ∀ i r, rest = i :: r → Fl.contains i = false ∧ E.contains i = true ∨ Fl.contains i = true ∧ listed.getD i true = false
/-- What comes next and only reads, or has been made already, is taken. -/
theorem norm (hB : fixB ops = true) (hn : ∀ (i : Nat) (o : Oper) (d : Nat), ops[i]? = some o → o.dst = some d → d < n) {listed : Array Bool} {a : Act} {w : World} :
    ∀ (rest done : List Nat) (l : List (Nat × Value)) (L : List Asn) (ear : List (Nat × Nat × Asn)), Pre P ops n Q E Fl S listed a w done rest l L ear → ∃ done' rest' l' L' ear', Pre P ops n Q E Fl S listed a w done' rest' l' L' ear' ∧ Head E Fl listed rest' := by
  intro rest
  induction rest with
  | nil => exact fun done l L ear I => ⟨done, [], l, L, ear, I, fun i r h => by cases h⟩
  | cons i rest ih =>
    intro done l L ear I
    have ho := I.ord
    rw [ordOK] at ho
    simp only [Bool.and_eq_true] at ho
    obtain ⟨⟨⟨⟨ho1, ho2⟩, ho3⟩, ho5⟩, ho4⟩ := ho
    have hni : i ∉ done := by simpa using ho3
    have h := I.pw
    rw [PW] at h
    cases hoi : ops[i]? with
    | none => rw [hoi] at h; exact h.elim
    | some o =>
      rw [hoi] at h ho1
      simp only at h
      have hlo : i < ops.size := (Array.getElem?_eq_some_iff.1 hoi).1
      have hedges : ∀ e ∈ o.after, Region.binds .any e = true → e.on ∈ done := fun e hem heb => by
        have := Array.all_eq_true_iff_forall_mem.1 ho1 e hem
        simpa [heb] using this
      have hcl' : ∀ j ∈ i :: done, ∀ oj, ops[j]? = some oj → ∀ e ∈ oj.after, Region.binds .any e = true → e.on ∈ i :: done := fun j hj oj hoj e hem heb => by
        rcases List.mem_cons.1 hj with rfl | hj
        · rw [hoi] at hoj; cases hoj
          exact List.mem_cons_of_mem _ (hedges e hem heb)
        · exact List.mem_cons_of_mem _ (I.dcl j hj oj hoj e hem heb)
      have hperm' : ∀ k, k < ops.size → k ∈ i :: done ∨ k ∈ rest := fun k hk => by
        rcases I.perm k hk with h | h
        · exact .inl (List.mem_cons_of_mem _ h)
        · rcases List.mem_cons.1 h with rfl | h
          · exact .inl (by simp)
          · exact .inr h
      by_cases hf : Fl.contains i = true
      ·
        by_cases hli : listed.getD i true = true
        · have hear := (I.sub i hlo hli).resolve_left hni
          obtain ⟨x, hx, hxi⟩ := List.mem_map.1 hear
          obtain ⟨e1, e2, rfl⟩ := List.append_of_mem hx
          obtain ⟨j, b, A⟩ := x
          simp only at hxi
          subst hxi
          obtain ⟨o', cs', t', d, q1, q2, q3, q4, q5, q6, q7, q8⟩ := I.early (j, b, A) hx
          simp only at q1 q3 q5 q6 q7 q8
          rw [hoi] at q1; cases q1
          simp only [hf, if_true] at h
          obtain ⟨cs, t, hnew, hpw⟩ := h
          obtain ⟨rfl, rfl⟩ := hnew.uniq q2
          subst q3
          have honce := I.once
          simp only [List.map_append, List.map_cons, List.nodup_append, List.nodup_cons, List.mem_cons] at honce
          obtain ⟨n1, ⟨n2, n3⟩, n4⟩ := honce
          have hjne : ∀ y ∈ e1 ++ e2, y.1 ≠ j := fun y hy e => by
            rcases List.mem_append.1 hy with hy | hy
            · exact n4 y.1 (List.mem_map.2 ⟨y, hy, rfl⟩) j (.inl rfl) e
            · exact n2 (List.mem_map.2 ⟨y, hy, e⟩)
          refine ih (j :: done) (putL o.dst (.pointer (some ⟨b, 0, none⟩)) l) (pt b cs t :: L) (e1 ++ e2) ⟨hpw b, ho4, hperm', ?_, fun y hy => ?_, ?_, fun k hk hkl => ?_, fun k hk hke => ?_, hcl', I.closed, I.ds, I.size, look_putL hn I.lt hoi _, fun s u hu => ?_, fun k hk hkl => ?_⟩
          · have M := I.mem
            simp only [List.map_append, List.map_cons] at M
            rw [← List.append_assoc] at M
            have := M.pull (pull_mid _ _ _)
            simpa using this
          · have hy' : y ∈ e1 ++ (j, b, pt b cs t) :: e2 := by
              rcases List.mem_append.1 hy with h | h
              · exact List.mem_append.2 (.inl h)
              · exact List.mem_append.2 (.inr (List.mem_cons_of_mem _ h))
            obtain ⟨oy, csy, ty, dy, r1, r2, r3, r4, r5, r6, r7, r8⟩ := I.early y hy'
            exact ⟨oy, csy, ty, dy, r1, r2, r3, r4, r5, r6, r7, fun hm => (List.mem_cons.1 hm).elim (fun e => hjne y hy e) r8⟩
          · simp only [List.map_append, List.nodup_append]
            exact ⟨n1, n3, fun p hp q hq => n4 p hp q (.inr hq)⟩
          · rcases I.sub k hk hkl with h | h
            · exact .inl (List.mem_cons_of_mem _ h)
            · simp only [List.map_append, List.map_cons, List.mem_append, List.mem_cons] at h
              rcases h with h | rfl | h
              · exact .inr (by simp [h])
              · exact .inl (by simp)
              · exact .inr (by simp only [List.map_append, List.mem_append]; exact .inr h)
          · rcases List.mem_cons.1 hk with rfl | hk
            · exact hli
            · exact I.effs k hk hke
          · rcases look_put_cases hu with ⟨h1, rfl⟩ | ⟨hne, h1⟩
            · rw [q4] at h1; cases h1; exact .inl q5
            · rcases I.slots s u h1 with h | h | ⟨x, hx2, ox, hox, hoxd⟩
              · exact .inl h
              · exact .inr (.inl h)
              · refine .inr (.inr ⟨x, ?_, ox, hox, hoxd⟩)
                rcases List.mem_append.1 hx2 with h | h
                · exact List.mem_append.2 (.inl h)
                · rcases List.mem_cons.1 h with rfl | h
                  · simp only at hox; rw [hoi] at hox; cases hox; exact absurd hoxd hne
                  · exact List.mem_append.2 (.inr h)
          · rcases List.mem_cons.1 hk with rfl | hk
            · rw [hli] at hkl; cases hkl
            · exact ((I.valid k hk hkl).put hB I.dcl hoi hni hk).more fun w M => M.drop
        · exact ⟨done, i :: rest, l, L, ear, I, fun k r e => by cases e; exact .inr ⟨hf, by simpa using hli⟩⟩
      · have hf' : Fl.contains i = false := by simpa using hf
        simp only [hf', Bool.false_eq_true, if_false] at h
        by_cases he : E.contains i = true
        · exact ⟨done, i :: rest, l, L, ear, I, fun k r e => by cases e; exact .inl ⟨hf', he⟩⟩
        · have he' : E.contains i = false := by simpa using he
          simp only [he', Bool.false_eq_true, if_false] at h
          obtain ⟨v, hrd, hpw⟩ := h
          have hli : listed.getD i true = false := by
            cases hli : listed.getD i true with
            | false => rfl
            | true =>
              rcases I.sub i hlo hli with h | h
              · exact absurd h hni
              · obtain ⟨x, hx, hxi⟩ := List.mem_map.1 h
                obtain ⟨_, _, _, _, _, _, _, _, _, q6, _⟩ := I.early x hx
                rw [hxi, hf'] at q6; cases q6
          have hvi : Valid P ops n (putL o.dst v l) L i := by
            refine ⟨o, v, l, hoi, fun t ht => by rw [ht]; exact look_put_self, I.lt, fun t hlk u hu => ?_, hrd⟩
            cases hd : o.dst with
            | none => exact hu
            | some t0 =>
              have := (not_looks hB I.dcl hoi hni hd).2
              show look ((t0, v) :: l) t = some u
              rw [look_put (fun e => by subst e; exact this hlk)]; exact hu
          refine ih (i :: done) (putL o.dst v l) L ear ⟨hpw, ho4, hperm', I.mem, fun y hy => ?_, I.once, fun k hk hkl => ?_, fun k hk hke => ?_, hcl', I.closed, I.ds, I.size, look_putL hn I.lt hoi _, fun s u hu => ?_, fun k hk hkl => ?_⟩
          · obtain ⟨oy, csy, ty, dy, r1, r2, r3, r4, r5, r6, r7, r8⟩ := I.early y hy
            exact ⟨oy, csy, ty, dy, r1, r2, r3, r4, r5, r6, r7, fun hm => (List.mem_cons.1 hm).elim (fun e => by rw [e, hf'] at r6; cases r6) r8⟩
          · rcases I.sub k hk hkl with h | h
            · exact .inl (List.mem_cons_of_mem _ h)
            · exact .inr h
          · rcases List.mem_cons.1 hk with rfl | hk
            · rw [he', hf'] at hke; rcases hke with h | h <;> cases h
            · exact I.effs k hk hke
          · rcases look_put_cases hu with ⟨h1, rfl⟩ | ⟨_, h1⟩
            · exact .inr (.inl ⟨i, o, hoi, hli, h1⟩)
            · exact I.slots s u h1
          · rcases List.mem_cons.1 hk with rfl | hk
            · exact hvi
            · exact (I.valid k hk hkl).put hB I.dcl hoi hni hk
theorem getD_set {listed : Array Bool} {i j : Nat} (hi : i < listed.size) : (listed.setIfInBounds i true).getD j true = (if i = j then true else listed.getD j true) := by
  by_cases h : i = j
  · subst h; simp [hi]
  · rw [if_neg h]
    simp [Array.getElem?_setIfInBounds, h]
/-- The floats: allocations that wait for nothing that they need. -/
def FlOK (P : Program) (ops : Array Oper) (Fl : List Nat) : Prop := ∀ i, Fl.contains i = true → ∀ o, ops[i]? = some o → o.guard = none ∧ (∃ d, o.dst = some d) ∧ ∃ cs t, News P o cs t
theorem pw_any (hB : fixB ops = true) (hn : ∀ (i : Nat) (o : Oper) (d : Nat), ops[i]? = some o → o.dst = some d → d < n) (hFl : FlOK P ops Fl) (hEF : ∀ i, Fl.contains i = true → E.contains i = false) :
    ∀ (fuel : Nat) (listed : Array Bool) (a : Act) (w : World), listed.size = ops.size → unlisted listed ≤ fuel → (∃ done rest l L ear, Pre P ops n Q E Fl S listed a w done rest l L ear ∧ Head E Fl listed rest) → wpAny P .any ops Q fuel listed a w := by
  have stop : ∀ (listed : Array Bool) (a : Act) (w : World), listed.size = ops.size → (∃ done rest l L ear, Pre P ops n Q E Fl S listed a w done rest l L ear ∧ Head E Fl listed rest) → Region.ready .any ops listed = [] → Q .normal a w := by
    intro listed a w hl ⟨done, rest, l, L, ear, I, hhead⟩ hr
    have hall := ready_nil_all hB hl hr
    cases rest with
    | cons i r =>
      exfalso
      have ho := I.ord
      rw [ordOK] at ho
      simp only [Bool.and_eq_true] at ho
      have hlt : i < ops.size := by
        cases hoi : ops[i]? with
        | none => have h1 := ho.1.1.1.1; rw [hoi] at h1; cases h1
        | some o => exact (Array.getElem?_eq_some_iff.1 hoi).1
      have hli := hall i hlt
      rcases hhead i r rfl with ⟨h1, h2⟩ | ⟨_, h2⟩
      · rcases I.sub i hlt hli with h | h
        · simp [h] at ho
        · obtain ⟨x, hx, hxi⟩ := List.mem_map.1 h
          obtain ⟨_, _, _, _, _, _, _, _, _, q6, _⟩ := I.early x hx
          rw [hxi, h1] at q6; cases q6
      · rw [hli] at h2; cases h2
    | nil =>
      have hpw := I.pw
      rw [PW] at hpw
      refine hpw a w ⟨I.ds, I.size, fun t v ht => ⟨I.lt t v ht, ?_⟩⟩ I.mem.drop_app
      rcases I.slots t v ht with h | ⟨j, o, hj, hf, _⟩ | ⟨x, hx, ox, hox, _⟩
      · exact h
      · have := hall j (Array.getElem?_eq_some_iff.1 hj).1
        rw [this] at hf; cases hf
      · obtain ⟨_, _, _, _, _, _, _, _, _, _, _, q8⟩ := I.early x hx
        exact absurd ((I.perm x.1 (Array.getElem?_eq_some_iff.1 hox).1).resolve_right (by simp)) q8
  intro fuel
  induction fuel with
  | zero =>
    intro listed a w hl hu hI
    have hr : Region.ready .any ops listed = [] := by
      apply List.eq_nil_iff_forall_not_mem.2
      intro i hi
      obtain ⟨h1, o, ho, _⟩ := mem_ready.1 hi
      have hlt : i < listed.size := by rw [hl]; exact (Array.getElem?_eq_some_iff.1 ho).1
      have := unlisted_set hlt h1
      omega
    exact ⟨hr, stop listed a w hl hI hr⟩
  | succ fuel ih =>
    intro listed a w hl hu hI
    refine ⟨fun hr => stop listed a w hl hI hr, fun i hi => ?_⟩
    obtain ⟨done, rest, l, L, ear, I, hhead⟩ := hI
    obtain ⟨h1, o, ho, hall0⟩ := mem_ready.1 hi
    have hlt : i < listed.size := by rw [hl]; exact (Array.getElem?_eq_some_iff.1 ho).1
    have hlo : i < ops.size := by rw [← hl]; exact hlt
    have hun := unlisted_set hlt h1
    obtain ⟨hb1, hb2, hb3⟩ := fixB_spec hB ho
    have hall : ∀ e ∈ o.after, Region.binds .any e = true → listed.getD e.on true = true := fun e hem heb => by
      have h2 := hall0 e hem heb
      have h3 := hb1 e hem heb
      have h4 : e.on < listed.size := by omega
      simpa [h4] using h2
    have hedge : ∀ (j : Nat) (oj : Oper) (t : Nat), ops[j]? = some oj → oj.dst = some t → looksAt ops o t → ∃ e ∈ o.after, Region.binds .any e = true ∧ e.on = j := fun j oj t hj hd hlk => by
      rcases hlk with hlk | ⟨g, b, p, hg, hp, hpd⟩
      · exact (hb3 j oj t hj hd).1 hlk
      · have hgj : g = j := by
          by_cases hgj : g = j
          · exact hgj
          · exact absurd hpd ((fixB_spec hB hp).2.2 j oj t hj hd |>.2.2 hgj)
        exact (hb3 j oj t hj hd).2.1 g b hg hgj
    have hslot : (∀ e ∈ o.after, Region.binds .any e = true → e.on ∈ done) → ∀ t, looksAt ops o t → ∀ u, look l t = some u → a.tmps.getD t undef = u := fun hdn t hlk u hu => by
      rcases I.slots t u hu with h | ⟨j, oj, hj, hf, hd⟩ | ⟨x, hx, ox, hox, hoxd⟩
      · exact h
      · exfalso
        obtain ⟨e, hem, heb, heo⟩ := hedge j oj t hj hd hlk
        have := hall e hem heb
        rw [heo, hf] at this; cases this
      · exfalso
        obtain ⟨e, hem, heb, heo⟩ := hedge x.1 ox t hox hoxd hlk
        obtain ⟨_, _, _, _, _, _, _, _, _, _, _, q8⟩ := I.early x hx
        exact q8 (heo ▸ hdn e hem heb)
    have hnd : ∀ t, o.dst = some t → t < n := fun t ht => hn i o t ho ht
    have hclosed' : ∀ (j : Nat) (oj : Oper), ops[j]? = some oj → (listed.setIfInBounds i true).getD j true = true → ∀ e ∈ oj.after, Region.binds .any e = true → (listed.setIfInBounds i true).getD e.on true = true := fun j oj hj hjl e hem heb => by
      rw [getD_set hlt] at hjl ⊢
      split
      · rfl
      · by_cases hij : i = j
        · subst hij; rw [ho] at hj; cases hj; exact hall e hem heb
        · rw [if_neg hij] at hjl; exact I.closed j oj hj hjl e hem heb

    have hother : ∀ (v : Value) (t : Nat), o.dst ≠ some t → (a.put o.dst v).tmps.getD t undef = a.tmps.getD t undef := fun v t htd => by
      cases hod : o.dst with
      | none => rfl
      | some t0 =>
        have : t0 ≠ t := fun e => htd (by rw [hod, e])
        simp [Act.put, Array.getElem?_setIfInBounds, this]
    have hown : ∀ (v : Value) (t : Nat), o.dst = some t → (a.put o.dst v).tmps.getD t undef = v := fun v t htd => by
      rw [htd]; simp [Act.put, I.size, hnd t htd]
    have hdst : ∀ (j : Nat) (oj : Oper) (t : Nat), ops[j]? = some oj → oj.dst = some t → i ≠ j → o.dst ≠ some t := fun j oj t hj ht hij h => (hb3 j oj t hj ht).2.2 hij h
    have hslots' : ∀ (v : Value) (t : Nat) (u : Value), look l t = some u → o.dst ≠ some t → (a.put o.dst v).tmps.getD t undef = u ∨ (∃ j oj, ops[j]? = some oj ∧ (listed.setIfInBounds i true).getD j true = false ∧ oj.dst = some t) ∨ ∃ x ∈ ear, ∃ o, ops[x.1]? = some o ∧ o.dst = some t := fun v t u hu htd => by
      rcases I.slots t u hu with h | ⟨j, oj, hj, hf, hd'⟩ | h
      · exact .inl (by rw [hother v t htd]; exact h)
      · refine .inr (.inl ⟨j, oj, hj, ?_, hd'⟩)
        have hij : i ≠ j := fun e => by subst e; rw [ho] at hj; cases hj; exact htd hd'
        rw [getD_set hlt, if_neg hij]; exact hf
      · exact .inr (.inr h)
    have hearly' : ∀ (v : Value) (done' : List Nat), (∀ k ∈ done', k ∈ done ∨ k = i) → Fl.contains i = false → ∀ x ∈ ear, ∃ o' cs t d, ops[x.1]? = some o' ∧ News P o' cs t ∧ x.2.2 = pt x.2.1 cs t ∧ o'.dst = some d ∧ (a.put o.dst v).tmps.getD d undef = .pointer (some ⟨x.2.1, 0, none⟩) ∧ Fl.contains x.1 = true ∧ (listed.setIfInBounds i true).getD x.1 true = true ∧ x.1 ∉ done' := fun v done' hd' hfi x hx => by
      obtain ⟨o', cs, t, d, q1, q2, q3, q4, q5, q6, q7, q8⟩ := I.early x hx
      have hix : i ≠ x.1 := fun e => by rw [← e, hfi] at q6; cases q6
      refine ⟨o', cs, t, d, q1, q2, q3, q4, by rw [hother v d (hdst x.1 o' d q1 q4 hix)]; exact q5, q6, by rw [getD_set hlt, if_neg hix]; exact q7, fun hm => ?_⟩
      rcases hd' _ hm with h | h
      · exact q8 h
      · exact hix h.symm
    unfold wpOp
    rw [ho]
    simp only []
    by_cases hdone : i ∈ done
    ·
      have hnE : E.contains i = false ∧ Fl.contains i = false := by
        constructor
        · cases hE : E.contains i with
          | false => rfl
          | true => have := I.effs i hdone (.inl hE); rw [this] at h1; cases h1
        · cases hE : Fl.contains i with
          | false => rfl
          | true => have := I.effs i hdone (.inr hE); rw [this] at h1; cases h1
      obtain ⟨o', v, lj, ho', hv1, hv2, hv3, hrd⟩ := I.valid i hdone h1
      rw [ho] at ho'; cases ho'
      have hsl : ∀ t, looksAt ops o t → ∀ u, look lj t = some u → a.tmps.getD t undef = u := fun t hlk u hu => hslot (I.dcl i hdone o ho) t hlk u (hv3 t hlk u hu)
      obtain ⟨c1, c2⟩ := congr_over (a := a) (l := lj) hb2 hsl
      have hF : Fr (over a lj) n lj := over_fr I.ds I.size hv2
      rw [c2]
      have next : Pre P ops n Q E Fl S (listed.setIfInBounds i true) (a.put o.dst v) w done rest l L ear := by
        refine ⟨I.pw, I.ord, I.perm, I.mem, hearly' v done (fun k hk => .inl hk) hnE.2, I.once, fun j hj hjl => ?_, fun j hj he => ?_, I.dcl, hclosed', (by cases o.dst <;> exact I.ds), ?_, I.lt, fun t u hu => ?_, fun j hj hjl => ?_⟩
        · rw [getD_set hlt] at hjl
          by_cases hij : i = j
          · exact .inl (hij ▸ hdone)
          · rw [if_neg hij] at hjl; exact I.sub j hj hjl
        · rw [getD_set hlt]; split
          · rfl
          · exact I.effs j hj he
        · cases o.dst <;> simp [Act.put, I.size]
        · by_cases htd : o.dst = some t
          · have hvt := hv1 t htd
            rw [hvt] at hu; cases hu
            exact .inl (hown _ t htd)
          · exact hslots' v t u hu htd
        · rw [getD_set hlt] at hjl
          split at hjl
          · cases hjl
          · exact I.valid j hj hjl
      have nhead : Head E Fl (listed.setIfInBounds i true) rest := fun k r hk => by
        rcases hhead k r hk with h | ⟨h2, h3⟩
        · exact .inl h
        · refine .inr ⟨h2, ?_⟩
          have hik : i ≠ k := fun e => by rw [e, h2] at hnE; exact absurd hnE.2 (by simp)
          rw [getD_set hlt, if_neg hik]; exact h3
      rcases hrd with ⟨k1, k2⟩ | ⟨k1, rfl⟩
      · rw [if_pos (hF.wanted k1)]
        left
        unfold Oper.wp
        rw [c1, k2 _ w hF I.mem.drop_app]
        exact ih _ _ _ (by simp [hl]) (by omega) ⟨_, _, _, _, _, next, nhead⟩
      · rw [if_neg (by rw [hF.wanted k1]; simp)]
        exact ih _ _ _ (by simp [hl]) (by omega) ⟨_, _, _, _, _, next, nhead⟩
    · have hirest : i ∈ rest := (I.perm i hlo).resolve_left hdone
      have hfin : ∀ (a' : Act) (w' : World) (done' rest' : List Nat) (l' : List (Nat × Value)) (L' : List Asn) (ear' : List (Nat × Nat × Asn)), Pre P ops n Q E Fl S (listed.setIfInBounds i true) a' w' done' rest' l' L' ear' → wpAny P .any ops Q fuel (listed.setIfInBounds i true) a' w' := fun a' w' done' rest' l' L' ear' hp => by
        obtain ⟨d2, r2, l2, L2, e2, hp2, hh2⟩ := norm hB hn rest' done' l' L' ear' hp
        exact ih _ _ _ (by simp [hl]) (by omega) ⟨d2, r2, l2, L2, e2, hp2, hh2⟩
      by_cases hfi : Fl.contains i = true
      ·
        obtain ⟨hg, ⟨d, hd⟩, cs, t, hnew⟩ := hFl i hfi o ho
        rw [if_pos (by simp [Region.wanted, hg])]
        left
        unfold Oper.wp
        rw [hnew a.eval w]
        have hnear : i ∉ ear.map (·.1) := fun hm => by
          obtain ⟨x, hx, hxi⟩ := List.mem_map.1 hm
          obtain ⟨_, _, _, _, _, _, _, _, _, _, q7, _⟩ := I.early x hx
          rw [hxi, h1] at q7; cases q7
        refine hfin _ _ done rest l L ((i, w.heap.size, pt w.heap.size cs t) :: ear) ⟨I.pw, I.ord, I.perm, ?_, fun x hx => ?_, ?_, fun j hj hjl => ?_, fun j hj he => ?_, I.dcl, hclosed', (by cases o.dst <;> exact I.ds), ?_, I.lt, fun t u hu => ?_, fun j hj hjl => ?_⟩
        · exact (I.mem.alloc cs t).push (pull_mid _ _ _)
        · rcases List.mem_cons.1 hx with rfl | hx
          · exact ⟨o, cs, t, d, ho, hnew, rfl, hd, hown _ d hd, hfi, by rw [getD_set hlt, if_pos rfl], hdone⟩
          · obtain ⟨o', cs', t', d', q1, q2, q3, q4, q5, q6, q7, q8⟩ := I.early x hx
            have hix : i ≠ x.1 := fun e => hnear (e ▸ List.mem_map.2 ⟨x, hx, rfl⟩)
            exact ⟨o', cs', t', d', q1, q2, q3, q4, by rw [hother _ d' (hdst x.1 o' d' q1 q4 hix)]; exact q5, q6, by rw [getD_set hlt, if_neg hix]; exact q7, q8⟩
        · simp only [List.map_cons, List.nodup_cons]
          exact ⟨hnear, I.once⟩
        · rw [getD_set hlt] at hjl
          by_cases hij : i = j
          · exact .inr (by simp [hij])
          · rw [if_neg hij] at hjl
            rcases I.sub j hj hjl with h | h
            · exact .inl h
            · exact .inr (by simp only [List.map_cons, List.mem_cons]; exact .inr h)
        · rw [getD_set hlt]; split
          · rfl
          · exact I.effs j hj he
        · cases o.dst <;> simp [Act.put, I.size]
        · by_cases htd : o.dst = some t
          · exact .inr (.inr ⟨_, List.mem_cons_self .., o, ho, htd⟩)
          · rcases hslots' (.pointer (some ⟨w.heap.size, 0, none⟩)) t u hu htd with h | h | ⟨x, hx, h⟩
            · exact .inl h
            · exact .inr (.inl h)
            · exact .inr (.inr ⟨x, List.mem_cons_of_mem _ hx, h⟩)
        · rw [getD_set hlt] at hjl
          split at hjl
          · cases hjl
          · exact I.valid j hj hjl
      ·
        have hfi' : Fl.contains i = false := by simpa using hfi
        have hanc := anc_listed (S := fun j => j < ops.size → listed.getD j true = true) (fun k ok hk => (fixB_spec hB hk).1) (fun k ok hk hS e hem heb hlt2 => I.closed k ok hk (hS (Array.getElem?_eq_some_iff.1 hk).1) e hem heb) i o ho (fun e hem heb _ => hall e hem heb)
        cases rest with
        | nil => simp at hirest
        | cons k r =>
          have hord0 := I.ord
          rw [ordOK] at hord0
          simp only [Bool.and_eq_true] at hord0
          obtain ⟨⟨⟨⟨g1, g2⟩, g3⟩, g5⟩, g4⟩ := hord0
          have hlk : k < ops.size := by
            cases hok : ops[k]? with
            | none => rw [hok] at g1; cases g1
            | some ok => exact (Array.getElem?_eq_some_iff.1 hok).1
          have hkd : k ∉ done := by simpa using g3
          have hkl : listed.getD k true = false := by
            rcases hhead k r rfl with ⟨q1, q2⟩ | ⟨_, q2⟩
            · cases hkl : listed.getD k true with
              | false => rfl
              | true =>
                rcases I.sub k hlk hkl with h | h
                · exact absurd h hkd
                · obtain ⟨x, hx, hxi⟩ := List.mem_map.1 h
                  obtain ⟨_, _, _, _, _, _, _, _, _, q6, _⟩ := I.early x hx
                  rw [hxi, q1] at q6; cases q6
            · exact q2
          have hEF' : E.contains k = true ∨ Fl.contains k = true := by
            rcases hhead k r rfl with ⟨_, q2⟩ | ⟨q2, _⟩
            · exact .inl q2
            · exact .inr q2
          have hki : k = i := by
            by_cases hki : k = i
            · exact hki
            · exfalso
              have hir : i ∈ r := by
                rcases List.mem_cons.1 hirest with h | h
                · exact absurd h.symm hki
                · exact h
              have hka : ∀ (r done : List Nat), ordOK ops (Region.before ops) E Fl S done r = true → i ∈ r → k ∈ done → ((Region.before ops).getD i 0).testBit k = true := by
                intro r
                induction r with
                | nil => intro done _ h; simp at h
                | cons x r ihr =>
                  intro done hor hix hkd
                  rw [ordOK] at hor
                  simp only [Bool.and_eq_true] at hor
                  obtain ⟨⟨⟨⟨_, q2⟩, _⟩, _⟩, q4⟩ := hor
                  rcases List.mem_cons.1 hix with rfl | hix
                  · rw [hfi', Bool.false_or] at q2
                    have := List.all_eq_true.1 q2 k hkd
                    rcases hEF' with h | h <;> rw [h] at this <;> simpa using this
                  · exact ihr (x :: done) q4 hix (List.mem_cons_of_mem _ hkd)
              have hb := hka r (k :: done) g4 hir (by simp)
              have := hanc k hb hlk
              rw [this] at hkl; cases hkl
          subst hki
          have hkE : E.contains k = true := hEF'.resolve_right (by rw [hfi']; simp)
          rw [ho] at g1
          have hedges : ∀ e ∈ o.after, Region.binds .any e = true → e.on ∈ done := fun e hem heb => by
            have := Array.all_eq_true_iff_forall_mem.1 g1 e hem
            simpa [heb] using this
          have hpw := I.pw
          rw [PW, ho] at hpw
          simp only [hfi', hkE, Bool.false_eq_true, if_false, if_true] at hpw
          obtain ⟨c1, c2⟩ := congr_over (a := a) (l := l) hb2 (hslot hedges)
          have hF : Fr (over a l) n l := over_fr I.ds I.size I.lt
          rw [c2]
          have hgo : ∀ (v : Value) (w' : World) (L' : List Asn), Mem w' (L' ++ ear.map (·.2.2)) → (∀ j ∈ done, listed.getD j true = false → Valid P ops n (putL o.dst v l) L' j) → PW P ops n Q E Fl S r (k :: done) (putL o.dst v l) L' → wpAny P .any ops Q fuel (listed.setIfInBounds k true) (a.put o.dst v) w' := by
            intro v w' L' hM hval hpw'
            refine hfin _ _ (k :: done) r (putL o.dst v l) L' ear ⟨hpw', g4, fun j hj => ?_, hM, hearly' v _ (fun j hj => (List.mem_cons.1 hj).symm) hfi', I.once, fun j hj hjl => ?_, fun j hj he => ?_, fun j hj oj hoj e hem heb => ?_, hclosed', (by cases o.dst <;> exact I.ds), ?_, look_putL hn I.lt ho _, fun t u hu => ?_, fun j hj hjl => ?_⟩
            · rcases I.perm j hj with h | h
              · exact .inl (List.mem_cons_of_mem _ h)
              · rcases List.mem_cons.1 h with rfl | h
                · exact .inl (by simp)
                · exact .inr h
            · rw [getD_set hlt] at hjl
              by_cases hkj : k = j
              · subst hkj; exact .inl (by simp)
              · rw [if_neg hkj] at hjl
                rcases I.sub j hj hjl with h | h
                · exact .inl (List.mem_cons_of_mem _ h)
                · exact .inr h
            · rw [getD_set hlt]
              by_cases hkj : k = j
              · rw [if_pos hkj]
              · rw [if_neg hkj]
                exact I.effs j ((List.mem_cons.1 hj).resolve_left (fun e => hkj e.symm)) he
            · rcases List.mem_cons.1 hj with rfl | hj
              · rw [ho] at hoj; cases hoj
                exact List.mem_cons_of_mem _ (hedges e hem heb)
              · exact List.mem_cons_of_mem _ (I.dcl j hj oj hoj e hem heb)
            · cases o.dst <;> simp [Act.put, I.size]
            · rcases look_put_cases hu with ⟨h, rfl⟩ | ⟨hne, h⟩
              · exact .inl (hown _ t h)
              · exact hslots' v t u h hne
            · rw [getD_set hlt] at hjl
              split at hjl
              · cases hjl
              · rename_i hkj
                exact hval j ((List.mem_cons.1 hj).resolve_left (fun e => hkj e.symm)) hjl
          rcases hpw with ⟨k1, k2⟩ | ⟨k1, k2⟩
          · rw [if_pos (hF.wanted k1)]
            left
            have hup := k2 (ear.map (·.2.2)) _ w hF I.mem
            rw [← c1] at hup
            refine hup.wp fun v w' ⟨L', ⟨hrev, e2⟩, hM⟩ => hgo v w' L' hM (fun j hjd hjl => ?_) e2
            have hjs : j < ops.size := by
              by_cases hjs : j < ops.size
              · exact hjs
              · have : listed.getD j true = true := by simp [hl, hjs]
                rw [this] at hjl; cases hjl
            have hej : E.contains j = false := by
              cases hej : E.contains j with
              | false => rfl
              | true => have := I.effs j hjd (.inl hej); rw [this] at hjl; cases hjl
            have hfj : Fl.contains j = false := by
              cases hej : Fl.contains j with
              | false => rfl
              | true => have := I.effs j hjd (.inr hej); rw [this] at hjl; cases hjl
            have hbj : ((Region.before ops).getD k 0).testBit j = false := by
              cases hbj : ((Region.before ops).getD k 0).testBit j with
              | false => rfl
              | true => have := hanc j hbj hjs; rw [this] at hjl; cases hjl
            have hjS : j ∈ lookS S k := by
              have h5 : (done.all fun j => E.contains j || Fl.contains j || ((Region.before ops).getD k 0).testBit j || (lookS S k).contains j) = true := by
                rw [hkE] at g5; simpa using g5
              have := List.all_eq_true.1 h5 j hjd
              simp only [hej, hfj, hbj, Bool.false_or] at this
              simpa using this
            obtain ⟨oj, vj, e1, e2, e3⟩ := hrev.mem j hjS
            exact ⟨oj, vj, putL o.dst v l, e1, e3, look_putL hn I.lt ho _, fun t _ u hu => hu, e2⟩
          · rw [if_neg (by rw [hF.wanted k1]; simp)]
            exact hgo undef w L I.mem (fun j hjd hjl => (I.valid j hjd hjl).put hB I.dcl ho hkd hjd) k2
/-- **A region that draws its order.** -/
theorem region_pw {id : Nat} {a : Act} {w : World} {l : List (Nat × Value)} {L : List Asn} {σ : List Nat} (hm : P.follows .mixedOrders = true) (hok : drawOK ops E Fl S σ n = true) (hFl : FlOK P ops Fl) (F : Fr a n l) (M : Mem w L) (h : PW P ops n Q E Fl S σ [] l L) : (Code.region id ops true).wp P Q a w := by
  simp only [drawOK, Bool.and_eq_true] at hok
  obtain ⟨⟨⟨⟨⟨hB, ho⟩, hlen⟩, hall⟩, hfl⟩, hds⟩ := hok
  have hn : ∀ (i : Nat) (o : Oper) (d : Nat), ops[i]? = some o → o.dst = some d → d < n := fun i o d hi hd => by
    have := Array.all_eq_true_iff_forall_mem.1 hds o (Array.mem_of_getElem? hi)
    rw [hd] at this
    exact Nat.le_of_ble_eq_true this
  have hEF : ∀ i, Fl.contains i = true → E.contains i = false := fun i hi => by
    have := List.all_eq_true.1 hfl i (by simpa using hi)
    simp only [Bool.and_eq_true, Bool.not_eq_true'] at this
    exact this.1
  have hrep : ∀ j, (Array.replicate ops.size false).getD j true = true → ops.size ≤ j := fun j hj => by
    by_cases hlt : j < ops.size
    · simp [hlt] at hj
    · omega
  obtain ⟨done', rest', l', L', ear', hp, hh⟩ := norm hB hn (listed := Array.replicate ops.size false) (a := a) (w := { w with drawn := w.drawn + 1 }) σ [] l L [] ⟨h, ho, fun i hi => .inr (by simpa using List.all_eq_true.1 hall i (List.mem_range.2 hi)), by rw [List.map_nil, List.append_nil]; exact M.drew _, by simp, by simp, fun j hj hjl => by have := hrep j hjl; omega, by simp, by simp,
    fun j o hj hjl => by have := hrep j hjl; have := (Array.getElem?_eq_some_iff.1 hj).1; omega, F.ds, F.size, fun t v ht => (F.val t v ht).1, fun t v ht => .inl (F.val t v ht).2, by simp⟩
  exact wp_region_any hm (pw_any hB hn hFl hEF ops.size _ a _ (by simp) (by simp [unlisted]) ⟨done', rest', l', L', ear', hp, hh⟩)
end
end Go.Proofs.YtaggjikjohamjaaGreatDoor
end
