/- Maps by their content: a list of pairs up to order; and a map literal, whatever the order of its entries. -/
import Derived.Test.YtdlihlfknedpfaaRegFix
import Derived.Maps.Own
import Derived.DeepKeys4
namespace Go.Proofs.Ytdlihlfknedpfaa
open Go.RowKit Go.Maps
open Go.ChangeMaps (setBlock)
def pairs (es : Array MapEntry) : List (Value × Value) := es.toList.map fun e => (e.key, e.val)
/-- Block b is a map with keys of type K that holds just the pairs L. -/
def MapIs (P : Program) (K : TypeId) (w : World) (b : Nat) (L : List (Value × Value)) : Prop :=
  ∃ es clk, w.heap[b]? = some (.map es clk) ∧ (pairs es).Perm L ∧ (∀ p ∈ L, ∃ l, keyOf P K p.1 = some l) ∧ (L.map (·.1)).Nodup
theorem MapIs.perm {P : Program} {K : TypeId} {w : World} {b : Nat} {L L' : List (Value × Value)} (h : MapIs P K w b L) (hp : L.Perm L') : MapIs P K w b L' := by
  obtain ⟨es, clk, h1, h2, h3, h4⟩ := h
  exact ⟨es, clk, h1, h2.trans hp, fun p hm => h3 p (hp.mem_iff.2 hm), (hp.map _).nodup_iff.1 h4⟩
theorem MapIs.of_block {P : Program} {K : TypeId} {w w' : World} {b : Nat} {L : List (Value × Value)} (h : MapIs P K w b L) (e : w'.heap[b]? = w.heap[b]?) : MapIs P K w' b L := by
  obtain ⟨es, clk, h1, h2⟩ := h
  exact ⟨es, clk, e.trans h1, h2⟩
theorem MapIs.lt {P : Program} {K : TypeId} {w : World} {b : Nat} {L : List (Value × Value)} (h : MapIs P K w b L) : b < w.heap.size := by
  obtain ⟨es, clk, h1, _⟩ := h
  exact (Array.getElem?_eq_some_iff.1 h1).1
/-- The world but for block b. -/
structure Touch (b : Nat) (w w' : World) : Prop where
  os : w'.os = w.os
  tape : w'.tape = w.tape
  output : w'.output = w.output
  drawn : w'.drawn = w.drawn
  size : w'.heap.size = w.heap.size
  block : ∀ k, k ≠ b → w'.heap[k]? = w.heap[k]?
theorem touch_setBlock (w : World) (b : Nat) (o : Obj) : Touch b w (setBlock w b o) := by
  refine ⟨rfl, rfl, rfl, rfl, by simp [setBlock], fun k hk => ?_⟩
  simp [setBlock, Array.getElem?_setIfInBounds, Ne.symm hk]
theorem nodup_val {L : List (Value × Value)} (hn : (L.map (·.1)).Nodup) {k v v' : Value} (h : (k, v) ∈ L) (h' : (k, v') ∈ L) : v = v' := by
  induction L with
  | nil => cases h
  | cons p L ih =>
    rw [List.map_cons, List.nodup_cons] at hn
    rcases List.mem_cons.1 h with h4 | h4 <;> rcases List.mem_cons.1 h' with h5 | h5
    · rw [← h4] at h5; exact (congrArg Prod.snd h5).symm
    · exfalso; apply hn.1; rw [← h4]; exact List.mem_map.2 ⟨_, h5, rfl⟩
    · exfalso; apply hn.1; rw [← h5]; exact List.mem_map.2 ⟨_, h4, rfl⟩
    · exact ih hn.2 h4 h5
section
variable {P : Program} {w : World} {b : Nat} {L : List (Value × Value)} {T K E : TypeId}
theorem run_mapUpdate_new (hT : P.underlying T = some (.map K E)) (hK : Keyed P K) {k v : Value} {l : Lit} (hk : keyOf P K k = some l) (hm : MapIs P K w b L) (hnew : ∀ p ∈ L, p.1 ≠ k) :
    ∃ w', (Instr.mapUpdate T (.map (some b)) k v).run P w = .ok () w' ∧ MapIs P K w' b ((k, v) :: L) ∧ Touch b w w' := by
  obtain ⟨es, clk, hb, hp, hl, hn⟩ := hm
  have hkeys : ∀ e ∈ es.toList, ∃ l, keyOf P K e.key = some l := fun e he => hl (e.key, e.val) (hp.mem_iff.1 (List.mem_map.2 ⟨e, he, rfl⟩))
  rcases hK.find w hk es.toList hkeys with ⟨h1, _⟩ | ⟨j, e, _, h2, h3⟩
  · refine ⟨setBlock w b (.map (es.push { key := k, val := v, born := clk }) (clk + 1)), ?_, ⟨es.push { key := k, val := v, born := clk }, clk + 1, ?_, ?_, ?_, ?_⟩, touch_setBlock w b _⟩
    · simp [Instr.mapUpdate, run_underlying hT, MapKept.run_getObj_map hb, hK.check w false hk, h1, MapKept.run_setObj_map _ hb, Result.andThen, setBlock]
    · have := (Array.getElem?_eq_some_iff.1 hb).1
      simp [setBlock, this]
    · simp only [pairs, Array.toList_push, List.map_append, List.map_cons, List.map_nil]
      exact (List.perm_append_singleton _ _).trans (List.Perm.cons _ hp)
    · intro p hp'
      rcases List.mem_cons.1 hp' with rfl | hp'
      · exact ⟨l, hk⟩
      · exact hl p hp'
    · rw [List.map_cons, List.nodup_cons]
      exact ⟨fun hmem => by obtain ⟨p, hp1, hp2⟩ := List.mem_map.1 hmem; exact hnew p hp1 hp2, hn⟩
  · exfalso
    exact hnew (e.key, e.val) (hp.mem_iff.1 (List.mem_map.2 ⟨e, List.mem_of_getElem? h2, rfl⟩)) h3
/-- 'v, ok := m[k]' -/
theorem run_lookup_hit (hT : P.underlying T = some (.map K E)) (hK : Keyed P K) {k v : Value} {l : Lit} (hk : keyOf P K k = some l) (hm : MapIs P K w b L) (hin : (k, v) ∈ L) (ok : Bool) :
    (Instr.lookup T (.map (some b)) k ok).run P w = .ok (if ok then .tuple #[v, .bool true] else v) w := by
  obtain ⟨es, clk, hb, hp, hl, hn⟩ := hm
  have hkeys : ∀ e ∈ es.toList, ∃ l, keyOf P K e.key = some l := fun e he => hl (e.key, e.val) (hp.mem_iff.1 (List.mem_map.2 ⟨e, he, rfl⟩))
  rcases hK.find w hk es.toList hkeys with ⟨_, h1⟩ | ⟨j, e, h1, h2, h3⟩
  · exfalso
    obtain ⟨e, he, hkv⟩ := List.mem_map.1 (hp.mem_iff.2 hin)
    exact h1 e he (congrArg Prod.fst hkv)
  · have hv : e.val = v := by
      have hmem : (e.key, e.val) ∈ L := hp.mem_iff.1 (List.mem_map.2 ⟨e, List.mem_of_getElem? h2, rfl⟩)
      rw [h3] at hmem
      exact nodup_val hn hmem hin
    cases ok <;> simp [Instr.lookup, run_underlying hT, MapKept.run_getObj_map hb, hK.check w _ hk, h1, hv, Result.andThen]
theorem run_lookup_miss (hT : P.underlying T = some (.map K E)) (hK : Keyed P K) {k z : Value} {l : Lit} (hk : keyOf P K k = some l) (hm : MapIs P K w b L) (hno : ∀ p ∈ L, p.1 ≠ k) (hz : (zeroValue E).run P w = .ok z w) (ok : Bool) :
    (Instr.lookup T (.map (some b)) k ok).run P w = .ok (if ok then .tuple #[z, .bool false] else z) w := by
  obtain ⟨es, clk, hb, hp, hl, hn⟩ := hm
  have hkeys : ∀ e ∈ es.toList, ∃ l, keyOf P K e.key = some l := fun e he => hl (e.key, e.val) (hp.mem_iff.1 (List.mem_map.2 ⟨e, he, rfl⟩))
  rcases hK.find w hk es.toList hkeys with ⟨h1, _⟩ | ⟨j, e, _, h2, h3⟩
  · cases ok <;> simp [Instr.lookup, run_underlying hT, MapKept.run_getObj_map hb, hK.check w _ hk, h1, hz, Result.andThen]
  · exfalso
    exact hno (e.key, e.val) (hp.mem_iff.1 (List.mem_map.2 ⟨e, List.mem_of_getElem? h2, rfl⟩)) h3
end
/-! ### A map literal -/
inductive Lk where
  | make
  | ins (k v : Value)
  | val
def Lk.entry : Lk → Option (Value × Value)
  | .ins k v => some (k, v)
  | _ => none
/-- One operation of the literal. -/
def LitOp (P : Program) (A : Act) (m : Tmp) (mt K : TypeId) (m0 : Nat) (o : Oper) : Lk → Prop
  | .make => o.op = .makeMap mt none ∧ o.dst = some m ∧ o.guard = none
  | .ins k v => ∃ kx vx, o.op = .insert mt (.tmp m) kx vx ∧ o.dst = none ∧ o.guard = none ∧ A.eval kx = k ∧ A.eval vx = v ∧ (o.after.toList.any fun e => Region.binds .any e && e.on == m0) = true ∧ ∃ l, keyOf P K k = some l
  | .val => o.guard = none ∧ ∃ v, (∀ d, o.dst = some d → v = A.tmps.getD d undef) ∧ ∀ w', (execOp A.eval o).run P w' = .ok (.value v) w'
def LitAll (P : Program) (A : Act) (m : Tmp) (mt K : TypeId) (m0 : Nat) : List Oper → List Lk → Nat → Prop
  | [], [], _ => True
  | o :: os, k :: ks, i => (LitOp P A m mt K m0 o k ∧ (k = .make ↔ i = m0)) ∧ LitAll P A m mt K m0 os ks (i + 1)
  | _, _, _ => False
theorem litAll_at {P : Program} {A : Act} {m : Tmp} {mt K : TypeId} {m0 : Nat} : ∀ {os : List Oper} {ks : List Lk} {i : Nat}, LitAll P A m mt K m0 os ks i → ks.length = os.length ∧ ∀ j o, os[j]? = some o → ∃ k, ks[j]? = some k ∧ LitOp P A m mt K m0 o k ∧ (k = .make ↔ i + j = m0)
  | [], [], _, _ => ⟨rfl, by simp⟩
  | o :: os, k :: ks, i, h => by
    obtain ⟨h1, h2⟩ := litAll_at h.2
    refine ⟨by simp [h1], fun j p hp => ?_⟩
    cases j with
    | zero => simp at hp; subst hp; exact ⟨k, rfl, h.1.1, by simpa using h.1.2⟩
    | succ j =>
      obtain ⟨k', e1, e2, e3⟩ := h2 j p (by simpa using hp)
      exact ⟨k', by simpa using e1, e2, by rw [e3]; omega⟩
  | [], _ :: _, _, h => h.elim
  | _ :: _, [], _, h => h.elim
/-- The entries of the operations that have been carried out. -/
def done (ks : List Lk) (listed : Array Bool) : List (Value × Value) :=
  (ks.zip listed.toList).filterMap fun p => if p.2 then p.1.entry else none
theorem done_none (ks : List Lk) (n : Nat) : done ks (Array.replicate n false) = [] := by
  unfold done
  rw [List.filterMap_eq_nil_iff]
  rintro ⟨k, b⟩ hp
  have := (List.of_mem_zip hp).2
  simp at this
  simp [this]
theorem done_all (ks : List Lk) : done ks (Array.replicate ks.length true) = ks.filterMap Lk.entry := by
  unfold done
  induction ks with
  | nil => rfl
  | cons k ks ih =>
    simp only [Array.toList_replicate, List.length_cons, List.replicate_succ, List.zip_cons_cons, List.filterMap_cons] at ih ⊢
    rw [ih]
    rfl
theorem done_set {ks : List Lk} {listed : Array Bool} (hl : listed.size = ks.length) {i : Nat} {k : Lk} (hk : ks[i]? = some k) (hf : listed.getD i true = false) :
    (done ks (listed.setIfInBounds i true)).Perm (k.entry.toList ++ done ks listed) := by
  have hlt : i < ks.length := (List.getElem?_eq_some_iff.1 hk).1
  have hf' : listed.toList[i]? = some false := by
    have : listed[i]'(by omega) = false := by simpa [hl, hlt] using hf
    simp [hl, hlt, this]
  have hl' : listed.toList.length = ks.length := by simpa using hl
  unfold done
  rw [Array.toList_setIfInBounds]
  generalize listed.toList = l at *
  clear hf hl hlt
  induction ks generalizing i l with
  | nil => simp at hk
  | cons k' ks ih =>
    cases l with
    | nil => simp at hl'
    | cons b l =>
      cases i with
      | zero =>
        simp at hk hf'
        subst hk; subst hf'
        simp only [List.set_cons_zero, List.zip_cons_cons, List.filterMap_cons]
        cases k'.entry <;> simp
      | succ i =>
        simp only [List.set_cons_succ, List.zip_cons_cons, List.filterMap_cons]
        have h1 := ih (by simpa using hk) l (by simpa using hf') (by simpa using hl')
        cases (if b = true then k'.entry else none) with
        | none => exact h1
        | some x =>
          simp only []
          refine (List.Perm.cons x h1).trans ?_
          exact (List.perm_middle (a := x) (l₁ := k.entry.toList)).symm
theorem done_mem {ks : List Lk} {listed : Array Bool} (hl : listed.size = ks.length) {p : Value × Value} (h : p ∈ done ks listed) : ∃ j k, ks[j]? = some k ∧ k.entry = some p ∧ listed.getD j true = true := by
  unfold done at h
  obtain ⟨⟨k, b⟩, h1, h2⟩ := List.mem_filterMap.1 h
  obtain ⟨j, hj⟩ := List.getElem?_of_mem h1
  rw [List.getElem?_zip_eq_some] at hj
  obtain ⟨h3, h4⟩ := hj
  cases b with
  | false => simp at h2
  | true =>
    refine ⟨j, k, h3, by simpa using h2, ?_⟩
    have hlt : j < listed.size := by
      have := (List.getElem?_eq_some_iff.1 h4).1; simpa using this
    simp only [Array.getElem?_toList] at h4
    rw [Array.getElem?_eq_getElem hlt] at h4
    simp [hlt, Option.some.inj h4]
theorem run_makeMap_none {P : Program} {mt K E : TypeId} (hT : P.underlying mt = some (.map K E)) (w : World) : (Instr.makeMap mt none).run P w = .ok (.map (some w.heap.size)) (w.alloc (.map #[] 0)) := by
  simp [Instr.makeMap]
theorem rest_of {ops : Array Oper} {a0 : Act} {T : Array Value} (vals : List (Tmp × Value)) (h : vals.foldl (fun a p => a.setIfInBounds p.1 p.2) a0.tmps = T) (slots : List Tmp) (hs : vals.map (·.1) = slots) (hw' : (slots.all fun d => ops.toList.any fun o => o.dst == some d) = true) :
    ∀ t, (∀ (j : Nat) (o : Oper), ops[j]? = some o → o.dst ≠ some t) → T.getD t undef = a0.tmps.getD t undef := by
  intro t ht
  subst h
  have hw : (vals.all fun p => ops.toList.any fun o => o.dst == some p.1) = true := by rw [← hw', ← hs, List.all_map]; rfl
  clear hw' hs
  generalize a0.tmps = tm
  induction vals generalizing tm with
  | nil => rfl
  | cons p vals ih =>
    simp only [List.all_cons, Bool.and_eq_true] at hw
    rw [List.foldl_cons, ih hw.2]
    obtain ⟨o, ho, hd⟩ := List.any_eq_true.1 hw.1
    obtain ⟨j, hj⟩ := List.getElem?_of_mem ho
    have hne : p.1 ≠ t := fun e => ht j o (by simpa using hj) (by rw [← e]; simpa using hd)
    simp [Array.getElem?_setIfInBounds, hne]
theorem wp_region_map {P : Program} {ops : Array Oper} {a0 : Act} {id : Nat} {Q : Exit → Act → World → Prop} {w : World} {mt K E : TypeId} (hT : P.underlying mt = some (.map K E)) (hK : Keyed P K) (m : Tmp) (m0 : Nat) (ks : List Lk) (T : Array Value)
    (hm : P.follows .mixedOrders = true) (hB : fixB ops = true) (hd : (ops.toList.all fun o => match o.dst with | none => true | some d => decide (d < a0.tmps.size)) = true) (hsz : T.size = a0.tmps.size)
    (hrest : ∀ t, (∀ (j : Nat) (o : Oper), ops[j]? = some o → o.dst ≠ some t) → T.getD t undef = a0.tmps.getD t undef) (hTm : T.getD m undef = .map (some w.heap.size))
    (hall : LitAll P ⟨T, a0.defers⟩ m mt K m0 ops.toList ks 0) (hnd : ((ks.filterMap Lk.entry).map (·.1)).Nodup) (hm0 : m0 < ops.size)
    (hQ : ∀ w', Below w.heap.size w w' → w'.heap.size = w.heap.size + 1 → MapIs P K w' w.heap.size (ks.filterMap Lk.entry) → Q .normal ⟨T, a0.defers⟩ w') : (Code.region id ops true).wp P Q a0 w := by
  obtain ⟨hlen, hat⟩ := litAll_at hall
  have hlen' : ks.length = ops.size := by simpa using hlen
  have hat' : ∀ (j : Nat) (o : Oper), ops[j]? = some o → ∃ k, ks[j]? = some k ∧ LitOp P ⟨T, a0.defers⟩ m mt K m0 o k ∧ (k = .make ↔ j = m0) := fun j o ho => by
    have := hat j o (by simpa using ho)
    simpa using this
  have hkeys : ∀ p ∈ ks.filterMap Lk.entry, ∃ l, keyOf P K p.1 = some l := fun p hp => by
    obtain ⟨k, hk, he⟩ := List.mem_filterMap.1 hp
    obtain ⟨j, hj⟩ := List.getElem?_of_mem hk
    have hlt : j < ops.size := by rw [← hlen']; exact (List.getElem?_eq_some_iff.1 hj).1
    obtain ⟨k', e1, e2, _⟩ := hat' j ops[j] (Array.getElem?_eq_getElem hlt)
    rw [hj] at e1; cases e1
    cases k with
    | ins kk vv =>
      simp [Lk.entry] at he
      subst he
      obtain ⟨_, _, _, _, _, _, _, _, h⟩ := e2
      exact h
    | make => simp [Lk.entry] at he
    | val => simp [Lk.entry] at he
  -- two operations with one key are one
  have hone : ∀ (i j : Nat) (k v v' : Value), ks[i]? = some (Lk.ins k v) → ks[j]? = some (Lk.ins k v') → i = j := by
    clear hat' hat hall hlen hlen' hkeys hQ
    intro i j k v v' hi hj
    induction ks generalizing i j with
    | nil => simp at hi
    | cons x ks ih =>
      have hnd' : ((ks.filterMap Lk.entry).map (·.1)).Nodup := by
        cases hx : x.entry with
        | none => simpa [List.filterMap_cons, hx] using hnd
        | some p => simp only [List.filterMap_cons, hx, List.map_cons, List.nodup_cons] at hnd; exact hnd.2
      have hin : ∀ {n : Nat} {u : Value}, ks[n]? = some (Lk.ins k u) → k ∈ (ks.filterMap Lk.entry).map (·.1) := fun {n u} h =>
        List.mem_map.2 ⟨(k, u), List.mem_filterMap.2 ⟨_, List.mem_of_getElem? h, rfl⟩, rfl⟩
      cases i with
      | zero =>
        cases j with
        | zero => rfl
        | succ j =>
          exfalso
          simp at hi hj
          subst hi
          simp only [List.filterMap_cons, Lk.entry, List.map_cons, List.nodup_cons] at hnd
          exact hnd.1 (hin hj)
      | succ i =>
        cases j with
        | zero =>
          exfalso
          simp at hi hj
          subst hj
          simp only [List.filterMap_cons, Lk.entry, List.map_cons, List.nodup_cons] at hnd
          exact hnd.1 (hin hi)
        | succ j => rw [ih hnd' i j (by simpa using hi) (by simpa using hj)]
  refine wp_region_fix (fun listed w' => Below w.heap.size w w' ∧ (listed.getD m0 false = false → w'.heap.size = w.heap.size ∧ done ks listed = []) ∧
      (listed.getD m0 false = true → w'.heap.size = w.heap.size + 1 ∧ MapIs P K w' w.heap.size (done ks listed))) T hm hB (fun i o d ho hdd => ?_) hsz hrest ?_ ?_ (fun w' hJ => ?_)
  · have h1 := List.all_eq_true.1 hd o (by simpa using Array.mem_of_getElem? ho)
    rw [hdd] at h1
    simpa using h1
  · refine ⟨⟨rfl, rfl, rfl, Nat.le_refl _, fun _ _ => rfl⟩, fun _ => ⟨rfl, done_none _ _⟩, fun h => ?_⟩
    simp [hm0] at h
  · intro i o listed w1 ho hls hun hedge ⟨hb, hJ1, hJ2⟩
    have hlt : i < ops.size := (Array.getElem?_eq_some_iff.1 ho).1
    obtain ⟨k, hk, hop, hmk⟩ := hat' i o ho
    have hperm := done_set (by rw [hls, hlen']) hk hun
    have hset : ∀ j, j ≠ i → (listed.setIfInBounds i true).getD j false = listed.getD j false := fun j hj => getD_set_ne false (Ne.symm hj)
    cases k with
    | make =>
      obtain ⟨h1, h2, h3⟩ := hop
      have hi0 := hmk.1 rfl
      subst hi0
      have hfalse : listed.getD i false = false := by simpa [hls, hlt] using hun
      obtain ⟨hs, hdn⟩ := hJ1 hfalse
      rw [if_pos (by simp [Region.wanted, h3])]
      refine ⟨.map (some w.heap.size), fun d hdd => ?_, ?_⟩
      · rw [h2] at hdd; cases hdd; exact hTm.symm
      · have hrun : (execOp (⟨T, a0.defers⟩ : Act).eval o).run P w1 = .ok (.value (.map (some w.heap.size))) (w1.alloc (.map #[] 0)) := by
          unfold execOp
          simp only [h1, Option.map_none]
          simp [run_makeMap_none hT, hs]
        rw [hrun]
        refine ⟨rfl, hb.alloc (by omega) _, fun h => ?_, fun _ => ⟨by simp [hs], ?_⟩⟩
        · simp [hls, hlt] at h
        · have hd0 : done ks (listed.setIfInBounds i true) = [] := by
            rw [hdn] at hperm
            simpa [Lk.entry] using hperm
          rw [hd0]
          refine ⟨#[], 0, ?_, List.Perm.refl _, by simp, by simp⟩
          rw [← hs]; exact heap_alloc_new w1 _
    | ins kk vv =>
      obtain ⟨kx, vx, h1, h2, h3, h4, h5, h6, l, h7⟩ := hop
      have hne : m0 ≠ i := fun e => by have := hmk.2 e.symm; cases this
      have hmade : listed.getD m0 false = true := by
        obtain ⟨e, he, hbb⟩ := List.any_eq_true.1 h6
        simp only [Bool.and_eq_true, beq_iff_eq] at hbb
        rw [← hbb.2]
        exact hedge e (by simpa using he) hbb.1
      obtain ⟨hs, hM⟩ := hJ2 hmade
      rw [if_pos (by simp [Region.wanted, h3])]
      obtain ⟨w2, hr, hM2, ht⟩ := run_mapUpdate_new (v := vv) hT hK h7 hM (fun p hp hpk => by
        obtain ⟨j, k', e1, e2, e3⟩ := done_mem (by rw [hls, hlen']) hp
        cases k' with
        | ins k2 v2 =>
          simp [Lk.entry] at e2
          subst e2
          simp only at hpk
          subst hpk
          have := hone _ _ _ _ _ hk e1
          subst this
          rw [hun] at e3; cases e3
        | make => simp [Lk.entry] at e2
        | val => simp [Lk.entry] at e2)
      refine ⟨undef, fun d hdd => (by rw [h2] at hdd; cases hdd), ?_⟩
      have hrun : (execOp (⟨T, a0.defers⟩ : Act).eval o).run P w1 = .ok .skip w2 := by
        unfold execOp
        simp only [h1]
        have hev : (⟨T, a0.defers⟩ : Act).eval (.tmp m) = .map (some w.heap.size) := hTm
        rw [hev, h4, h5]
        simp [hr]
      rw [hrun]
      refine ⟨rfl, hb.trans ⟨ht.os, ht.tape, ht.output, Nat.le_of_eq ht.size.symm, fun k hk' => ht.block k (by omega)⟩, fun h => ?_, fun _ => ⟨by rw [ht.size]; exact hs, hM2.perm ?_⟩⟩
      · rw [hset m0 hne, hmade] at h; cases h
      · exact hperm.symm
    | val =>
      obtain ⟨h1, v, h2, h3⟩ := hop
      have hne : m0 ≠ i := fun e => by have := hmk.2 e.symm; cases this
      rw [if_pos (by simp [Region.wanted, h1])]
      refine ⟨v, h2, ?_⟩
      rw [h3 w1]
      have hp' : (done ks (listed.setIfInBounds i true)).Perm (done ks listed) := by simpa [Lk.entry] using hperm
      refine ⟨rfl, hb, fun h => ?_, fun h => ?_⟩
      · rw [hset m0 hne] at h
        obtain ⟨e1, e2⟩ := hJ1 h
        rw [e2] at hp'
        exact ⟨e1, hp'.eq_nil⟩
      · rw [hset m0 hne] at h
        obtain ⟨e1, e2⟩ := hJ2 h
        exact ⟨e1, e2.perm hp'.symm⟩
  · obtain ⟨hb, _, hJ2⟩ := hJ
    obtain ⟨h1, h2⟩ := hJ2 (by simp [hm0])
    rw [← hlen', done_all] at h2
    exact hQ w' hb h1 h2
end Go.Proofs.Ytdlihlfknedpfaa
