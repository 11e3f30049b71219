/- Small lemmas that all texts of this seat use. -/
import Derived.Test.YtdlihlfknedpfaaRows
import Derived.WalkKit
import Derived.WalkSpells
import Derived.WalkLawsBesides
import Derived.Deep.QuietTactic
import Derived.BigQuiet
import Derived.Lib.Hide
import Derived.ProofKit
namespace Go.Proofs.Ytdlihlfknedpfaa
open Go.RowKit
theorem quiet_eq {P : Program} {f : FuncId} {args : Array Value} {w : World} {n : Nat} {v : Value}
    (h : Calls P f args (w.drewN n) fun e w' => e = .returned v ∧ w.drewN n = w') :
    Calls P f args (w.drewN n) fun e w' => e = .returned v ∧ ∃ n, w' = w.drewN n := h.mono fun _ _ ⟨a, b⟩ => ⟨a, n, b.symm⟩
theorem below_drewN {B : Nat} {a w : World} (h : Below B a w) (d : Nat) : Below B a (w.drewN d) := ⟨h.os, h.tape, h.output, h.size, h.block⟩

theorem undrew {w w' : World} (h : Below w.drew.heap.size w.drew w') : Below w.heap.size w w' := ⟨h.os, h.tape, h.output, h.size, h.block⟩
theorem undrewN {w w' : World} {d : Nat} (h : Below (w.drewN d).heap.size (w.drewN d) w') : Below w.heap.size w w' := ⟨h.os, h.tape, h.output, h.size, h.block⟩
/-- w' is w after some draws. -/
def Same (w w' : World) : Prop := ∃ d, w' = w.drewN d
theorem Same.refl (w : World) : Same w w := ⟨0, rfl⟩
theorem Same.more {w w' : World} (h : Same w w') (n : Nat) : Same w (w'.drewN n) := by
  obtain ⟨d, rfl⟩ := h
  exact ⟨_, World.drewN_drewN ..⟩
theorem Same.trans {w w' w'' : World} (h : Same w w') (k : Same w' w'') : Same w w'' := by
  obtain ⟨d, rfl⟩ := k
  exact h.more d
theorem Same.cell {w w' : World} (h : Same w w') (a : Addr) : w'.cell? a = w.cell? a := by obtain ⟨d, rfl⟩ := h; rfl
theorem Same.frozen {w w' : World} (h : Same w w') (a : Addr) : w'.frozen? a = w.frozen? a := by obtain ⟨d, rfl⟩ := h; rfl
theorem Same.heap {w w' : World} (h : Same w w') : w'.heap = w.heap := by obtain ⟨d, rfl⟩ := h; rfl
theorem Same.below {w w' : World} (h : Same w w') (B : Nat) : Below B w w' := by
  obtain ⟨d, rfl⟩ := h
  exact below_drewN (Below.refl _ _) d
theorem Same.of {w : World} {d : Nat} : Same w (w.drewN d) := ⟨d, rfl⟩
/-! ### Frames: all blocks but those of S are as they were -/
structure Upd (S : List Nat) (w w' : World) : Prop where
  os : w'.os = w.os
  tape : w'.tape = w.tape
  output : w'.output = w.output
  size : w.heap.size ≤ w'.heap.size
  block : ∀ k, k < w.heap.size → k ∉ S → w'.heap[k]? = w.heap[k]?
theorem Upd.refl (S : List Nat) (w : World) : Upd S w w := ⟨rfl, rfl, rfl, Nat.le_refl _, fun _ _ _ => rfl⟩
theorem Upd.trans {S : List Nat} {a b c : World} (h : Upd S a b) (k : Upd S b c) : Upd S a c :=
  ⟨k.os.trans h.os, k.tape.trans h.tape, k.output.trans h.output, Nat.le_trans h.size k.size, fun i hi hn => (k.block i (Nat.lt_of_lt_of_le hi h.size) hn).trans (h.block i hi hn)⟩
theorem Upd.mono {S S' : List Nat} {w w' : World} (h : Upd S w w') (hs : ∀ k, k ∈ S → k < w.heap.size → k ∈ S') : Upd S' w w' :=
  ⟨h.os, h.tape, h.output, h.size, fun k hk hn => h.block k hk fun hm => hn (hs k hm hk)⟩
theorem Upd.of_below {S : List Nat} {w w' : World} (h : Below w.heap.size w w') : Upd S w w' := ⟨h.os, h.tape, h.output, h.size, fun k hk _ => h.block k hk⟩
theorem Upd.below {S : List Nat} {w w' : World} {B : Nat} (h : Upd S w w') (hB : B ≤ w.heap.size) (hS : ∀ k, k ∈ S → B ≤ k) : Below B w w' :=
  ⟨h.os, h.tape, h.output, h.size, fun k hk => h.block k (by omega) fun hm => by have := hS k hm; omega⟩
theorem Upd.setCell {S : List Nat} {a w : World} (h : Upd S a w) {b : Nat} (hb : b ∈ S) (i : Nat) (v : Value) : Upd S a (w.setCell ⟨b, i, none⟩ v) :=
  h.trans ⟨rfl, rfl, rfl, by simp [World.setCell], fun k _ hn => Below.heap_setCell _ _ _ _ (fun e => hn (by rw [e]; exact hb))⟩
theorem Upd.drewN {S : List Nat} {a w : World} (h : Upd S a w) (d : Nat) : Upd S a (w.drewN d) := ⟨h.os, h.tape, h.output, h.size, h.block⟩
theorem Upd.alloc {S : List Nat} {a w : World} (h : Upd S a w) (o : Obj) : Upd S a (w.alloc o) := h.trans (Upd.of_below ((Below.refl _ _).alloc (Nat.le_refl _) o))
/-- Block b holds the cells c. -/
def BlockIs (w : World) (b : Nat) (c : Array Value) (t : TypeId) : Prop := w.heap[b]? = some (.cells c t (0, 0))
theorem BlockIs.cell {w : World} {b : Nat} {c : Array Value} {t : TypeId} (h : BlockIs w b c t) {i : Nat} {v : Value} (hi : c[i]? = some v) : w.cell? ⟨b, i, none⟩ = some v := by
  unfold BlockIs at h
  simp [World.cell?, h, hi]
theorem BlockIs.free {w : World} {b : Nat} {c : Array Value} {t : TypeId} (h : BlockIs w b c t) (i : Nat) : w.frozen? ⟨b, i, none⟩ = false := by
  unfold BlockIs at h
  simp [World.frozen?, h]
theorem BlockIs.lt {w : World} {b : Nat} {c : Array Value} {t : TypeId} (h : BlockIs w b c t) : b < w.heap.size := (Array.getElem?_eq_some_iff.1 h).1
theorem BlockIs.set {w : World} {b : Nat} {c : Array Value} {t : TypeId} (h : BlockIs w b c t) (i : Nat) (v : Value) : BlockIs (w.setCell ⟨b, i, none⟩ v) b (c.setIfInBounds i v) t := by
  unfold BlockIs at *
  simp [World.setCell, Array.getElem?_modify, h]
theorem BlockIs.of {w w' : World} {b : Nat} {c : Array Value} {t : TypeId} (h : BlockIs w b c t) (e : w'.heap[b]? = w.heap[b]?) : BlockIs w' b c t := e.trans h
theorem BlockIs.upd {w w' : World} {S : List Nat} {b : Nat} {c : Array Value} {t : TypeId} (h : BlockIs w b c t) (hu : Upd S w w') (hb : b ∉ S) : BlockIs w' b c t := (hu.block b h.lt hb).trans h
theorem BlockIs.below {w w' : World} {B b : Nat} {c : Array Value} {t : TypeId} (h : BlockIs w b c t) (hu : Below B w w') (hb : b < B) : BlockIs w' b c t := (hu.block b hb).trans h
theorem BlockIs.drewN {w : World} {b : Nat} {c : Array Value} {t : TypeId} (h : BlockIs w b c t) (d : Nat) : BlockIs (w.drewN d) b c t := h
theorem BlockIs.new (w : World) (c : Array Value) (t : TypeId) : BlockIs (w.alloc (.cells c t)) w.heap.size c t := heap_alloc_new w _
theorem BlockIs.alloc {w : World} {b : Nat} {c : Array Value} {t : TypeId} (h : BlockIs w b c t) (o : Obj) : BlockIs (w.alloc o) b c t := h.below ((Below.refl _ _).alloc (Nat.le_refl _) o) h.lt
/-! ### Slices that are read -/
/-- The slice v reads as n elements of 'size' cells each, the cells xs. -/
def SlR (w : World) (size : Nat) (v : Value) (n : Nat) (xs : List Value) : Prop :=
  xs.length = n * size ∧
  (((∃ a cap, v = .slice a 0 cap) ∧ n = 0) ∨
   ∃ b off cap, v = .slice (some ⟨b, off, none⟩) n cap ∧ b < w.heap.size ∧ n ≤ maxLen ∧ ∀ j u, xs[j]? = some u → w.cell? ⟨b, off + j, none⟩ = some u)
theorem SlR.nil (w : World) (size : Nat) : SlR w size (.slice none 0 0) 0 [] := ⟨by simp, .inl ⟨⟨_, _, rfl⟩, rfl⟩⟩
theorem SlR.len_le {w : World} {size : Nat} {v : Value} {n : Nat} {xs : List Value} (h : SlR w size v n xs) : n ≤ maxLen := by
  rcases h.2 with ⟨_, h⟩ | ⟨b, off, cap, _, _, h, _⟩
  · omega
  · exact h
theorem SlR.openSome {w : World} {size : Nat} {v : Value} {n : Nat} {xs : List Value} (h : SlR w size v n xs) (hn : 0 < n) :
    ∃ b off cap, v = .slice (some ⟨b, off, none⟩) n cap ∧ b < w.heap.size ∧ ∀ j u, xs[j]? = some u → w.cell? ⟨b, off + j, none⟩ = some u := by
  rcases h.2 with ⟨_, h⟩ | ⟨b, off, cap, e, hb, _, hc⟩
  · omega
  · exact ⟨b, off, cap, e, hb, hc⟩
theorem SlR.parts {w : World} {size : Nat} {v : Value} {n : Nat} {xs : List Value} (h : SlR w size v n xs) :
    ((∃ a cap, v = .slice a 0 cap) ∧ n = 0 ∧ xs = []) ∨ ∃ b off cap, v = .slice (some ⟨b, off, none⟩) n cap ∧ b < w.heap.size ∧ n ≤ maxLen ∧ ∀ j u, xs[j]? = some u → w.cell? ⟨b, off + j, none⟩ = some u := by
  rcases h.2 with ⟨e, h0⟩ | h'
  · refine .inl ⟨e, h0, List.eq_nil_of_length_eq_zero (by rw [h.1, h0]; simp)⟩
  · exact .inr h'
theorem SlR.form {w : World} {size : Nat} {v : Value} {n : Nat} {xs : List Value} (h : SlR w size v n xs) : ∃ a cap, v = .slice a n cap := by
  rcases h.2 with ⟨⟨_, _, rfl⟩, rfl⟩ | ⟨b, off, cap, rfl, _⟩
  · exact ⟨_, _, rfl⟩
  · exact ⟨_, _, rfl⟩
theorem ownsRow_SlR {w : World} {base : Nat} {e : TypeId} {size : Nat} {v : Value} {n : Nat} {xs : List Value} (h : w.ownsRow base e size v n xs) : SlR w size v n xs := by
  refine ⟨h.1, ?_⟩
  rcases h.2 with ⟨h0, h1⟩ | ⟨g, cap, cur, rfl, hb, hg, hn, hc, hs, ht⟩
  · exact .inl ⟨⟨_, _, h0⟩, h1⟩
  · refine .inr ⟨g, 0, cap, rfl, (Array.getElem?_eq_some_iff.1 hg).1, by omega, fun j u hu => ?_⟩
    have h2 := World.ownsRow.cells h (g := g) rfl j u hu
    have hadd : (⟨g, 0, none⟩ : Addr).add j = ⟨g, 0 + j, none⟩ := by unfold Addr.add; split <;> simp_all
    rw [hadd] at h2; exact h2
theorem SlR.below {w w' : World} {B size : Nat} {v : Value} {n : Nat} {xs : List Value} (h : SlR w size v n xs) (hb : Below B w w') (hB : ∀ b, v.ownBlock = Option.some b → 0 < n → b < B) : SlR w' size v n xs := by
  refine ⟨h.1, ?_⟩
  rcases h.2 with h0 | ⟨b, off, cap, rfl, hlt, hn, hc⟩
  · exact .inl h0
  · by_cases h0 : 0 < n
    · exact .inr ⟨b, off, cap, rfl, Nat.lt_of_lt_of_le hlt hb.size, hn, fun j u hu => by rw [hb.cell (p := ⟨b, off + j, none⟩) (hB b rfl h0)]; exact hc j u hu⟩
    · obtain rfl : n = 0 := by omega
      exact .inl ⟨⟨_, _, rfl⟩, rfl⟩
theorem SlR.below_all {w w' : World} {size : Nat} {v : Value} {n : Nat} {xs : List Value} (h : SlR w size v n xs) (hb : Below w.heap.size w w') : SlR w' size v n xs := by
  refine h.below hb fun b e h0 => ?_
  rcases h.2 with ⟨_, rfl⟩ | ⟨b', off, cap, rfl, hlt, hn, hc⟩
  · omega
  · simp [Value.ownBlock] at e; omega

/-- What is known of an element type: its slice type t, its own e. -/
def ElemT (P : Program) (t e : TypeId) (z : Value) (size bytes : Nat) : Prop :=
  P.underlying t = some (.slice e) ∧ (P.info? e).map (fun i => (i.zero, i.size, i.bytes)) = some (some z, size, bytes) ∧ z.cells.size = size ∧ 0 < size
theorem run_append_sl {P : Program} (w : World) {base : Nat} {t ty e : TypeId} {z : Value} {size bytes : Nat} (hT : ElemT P t e z size bytes)
    {v : Value} {n : Nat} {xs : List Value} (hown : w.ownsRow base e size v n xs) {x : Value} {m : Nat} {news : List Value} (hsrc : SlR w size x m news) (h1 : ∀ u ∈ news, u.oneCell' = true)
    (h63 : n + m ≤ maxLen) (hbytes : (n + m) * bytes ≤ 140737488355328) (hbase : base ≤ w.heap.size) :
    ∃ v' w', (Builtin.append_ #[t, t] ty #[v, x]).run P w = .ok v' w' ∧ w'.ownsRow base e size v' (n + m) (xs ++ news) ∧ w.grownBy w' v.ownBlock ∧
      (v' = .slice none 0 0 ↔ v = .slice none 0 0 ∧ m = 0) := by
  obtain ⟨ht, hinfo, hzs, hsz⟩ := hT
  cases hi : P.info? e with
  | none => rw [hi] at hinfo; simp at hinfo
  | some i =>
    rw [hi] at hinfo
    simp at hinfo
    obtain ⟨hz, hsize, hby⟩ := hinfo
    rcases hsrc.parts with ⟨⟨ao, cap, rfl⟩, rfl, rfl⟩ | ⟨b, off, cap, rfl, _, _, hc⟩
    · cases ao with
      | none =>
        refine ⟨v, w, ?_, by simpa using hown, ⟨rfl, rfl, rfl, Nat.le_refl _, fun _ _ _ => rfl⟩, by simp⟩
        rcases hown.2 with ⟨rfl, rfl⟩ | ⟨g, cap, cur, rfl, _, _, hnc, _⟩
        · simp [Builtin.append_, run_underlying ht, sizeOf, typeInfo, hi, Builtin.lenOf, Builtin.firstCells]
        · simp [Builtin.append_, run_underlying ht, sizeOf, typeInfo, hi, Builtin.lenOf, Builtin.firstCells, hnc, storeCells]
      | some a => exact run_append_own w base t ty e i z size bytes ht hi hz hsize hby hzs hsz v n xs hown a 0 cap [] (by simp) (by simp) (by simp) h63 hbytes hbase
    · exact run_append_own w base t ty e i z size bytes ht hi hz hsize hby hzs hsz v n xs hown ⟨b, off, none⟩ m cap news hsrc.1 (fun j u hu => by
        have h2 := hc j u hu
        have hadd : (⟨b, off, none⟩ : Addr).add j = ⟨b, off + j, none⟩ := by unfold Addr.add; split <;> simp_all
        rw [hadd]; exact h2) h1 h63 hbytes hbase
theorem wpList_append_sl {P : Program} (w : World) {ops : Array Oper} {rest : List Oper} {o : Oper} {a : Act} {Q : Exit → Act → World → Prop} (hgd : o.guard = none) (s x : Operand) (t : TypeId)
    (ho : o.op = .call { callee := .builtin .append, args := #[s, x], argTypes := #[t, t] })
    {e : TypeId} {z : Value} {size bytes : Nat} (hT : ElemT P t e z size bytes) {base : Nat}
    {v : Value} {n : Nat} {xs : List Value} (hown : w.ownsRow base e size v n xs) (hs : a.eval s = v)
    {y : Value} {m : Nat} {news : List Value} (hsrc : SlR w size y m news) (hx : a.eval x = y) (h1 : ∀ u ∈ news, u.oneCell' = true)
    (h63 : n + m ≤ maxLen) (hbytes : (n + m) * bytes ≤ 140737488355328) (hbase : base ≤ w.heap.size)
    (h : ∀ v' w', w'.ownsRow base e size v' (n + m) (xs ++ news) → w.grownBy w' v.ownBlock → (v' = .slice none 0 0 ↔ v = .slice none 0 0 ∧ m = 0) → wpList P ops Q rest (a.put o.dst v') w') : wpList P ops Q (o :: rest) a w :=
  wpList_plain hgd fun _ hK => by
    obtain ⟨v', w', hr, h2, h3, h4⟩ := run_append_sl (P := P) (ty := o.type) w hT hown hsrc h1 h63 hbytes hbase
    unfold Oper.wp execOp
    simp only [ho, resolve, invoke, builtin, Sem.run_bind, Sem.run_pure, Result.andThen_ok, List.map_toArray, List.map_cons, List.map_nil, hs, hx, hr]
    exact hK _ _ (h v' w' h2 h3 h4)
/-- The cells of a list of numbers. -/
def kints (k : IntKind) (zs : List Int) : List Value := zs.map (Value.int k)
theorem kints_one (k : IntKind) (zs : List Int) : ∀ u ∈ kints k zs, u.oneCell' = true := by
  intro u hu
  simp [kints] at hu
  obtain ⟨z, _, rfl⟩ := hu
  rfl
theorem kints_get {k : IntKind} {zs : List Int} {j : Nat} (h : j < zs.length) : (kints k zs)[j]? = some (.int k zs[j]) := by simp [kints, h]
/-- The cells of a list of ints. -/
def ints (zs : List Int) : List Value := zs.map (Value.int .i64)
theorem ints_one (zs : List Int) : ∀ u ∈ ints zs, u.oneCell' = true := by
  intro u hu
  simp [ints] at hu
  obtain ⟨z, _, rfl⟩ := hu
  rfl
theorem ints_get {zs : List Int} {j : Nat} (h : j < zs.length) : (ints zs)[j]? = some (.int .i64 zs[j]) := by simp [ints, h]
end Go.Proofs.Ytdlihlfknedpfaa
