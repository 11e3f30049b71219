/- What an argument that can be read looks like: its shape, and that a reading gives it. -/
import Derived.Test.YtdlihlfknedpfaaBase
import Derived.OpenShut
import Derived.ShutString
namespace Go.Proofs.Ytdlihlfknedpfaa
open Go.RowKit Go.WideShapes Go.ChangeShapes
/-- The shape of a type: numbers, bools, strings, slices (of elements of so many cells), and structs and arrays. -/
inductive Sh where
  | int (k : IntKind)
  | bool
  | str
  | slice (size : Nat) (e : Sh)
  | agg (fs : List Sh)
/-- The cells cs have the shape. -/
inductive HasSh (w : World) : Sh → List Value → Prop where
  | int (k : IntKind) (n : Int) : (Lit.int k n).wf = true → HasSh w (.int k) [.int k n]
  | bool (b : Bool) : HasSh w .bool [.bool b]
  | str (s : ByteArray) : s.size ≤ maxLen → HasSh w .str [.string s]
  | slice (size : Nat) (e : Sh) (a : Option Addr) (n cap : Nat) (xss : List (List Value)) : xss.length = n → (∀ x ∈ xss, x.length = size) → (∀ x ∈ xss, HasSh w e x) → n ≤ cap → cap ≤ maxLen →
      SlR w size (.slice a n cap) n xss.flatten → HasSh w (.slice size e) [.slice a n cap]
  | nil : HasSh w (.agg []) []
  | cons (s : Sh) (ss : List Sh) (c r : List Value) : HasSh w s c → HasSh w (.agg ss) r → HasSh w (.agg (s :: ss)) (c ++ r)
def shapeFields (P : Program) (g : TypeId → Option Sh) : Nat → List Field → Option (List Sh × Nat)
  | o, [] => some ([], o)
  | o, f :: r =>
    if f.offset = o then
      match g f.type, shapeFields P g (o + P.cellsOf f.type) r with
      | some s, some (ss, e) => some (s :: ss, e)
      | _, _ => none
    else none
def shapeOf (P : Program) : Nat → TypeId → Option Sh
  | 0, _ => none
  | d + 1, t =>
    match P.underlying t with
    | some .bool => some .bool
    | some (.int k) => some (.int k)
    | some .string => some .str
    | some (.slice e) => if P.cellsOf e = 0 then none else (shapeOf P d e).map (.slice (P.cellsOf e))
    | some (.struct fs) =>
      match shapeFields P (shapeOf P d) 0 fs.toList with
      | some (ss, e) => if e = P.cellsOf t then some (.agg ss) else none
      | none => none
    | some (.array n e) => if n * P.cellsOf e = P.cellsOf t then (shapeOf P d e).map fun s => .agg (List.replicate n s) else none
    | _ => none
theorem flatten_at {α : Type} {sz : Nat} : ∀ {L : List (List α)}, (∀ x ∈ L, x.length = sz) → ∀ {j : Nat} {u : α}, L.flatten[j]? = some u → ∃ i r x, j = i * sz + r ∧ r < sz ∧ L[i]? = some x ∧ x[r]? = some u
  | [], _, j, u, h => by simp at h
  | y :: L, hl, j, u, h => by
    have hy := hl y (by simp)
    rw [List.flatten_cons, List.getElem?_append] at h
    split at h
    · exact ⟨0, j, y, by omega, by omega, rfl, h⟩
    · rename_i hge
      obtain ⟨i, r, x, e1, e2, e3, e4⟩ := flatten_at (fun x hx => hl x (by simp [hx])) h
      refine ⟨i + 1, r, x, ?_, e2, by simpa using e3, e4⟩
      rw [Nat.add_mul]; omega
theorem flatten_len {α : Type} {sz : Nat} : ∀ {L : List (List α)}, (∀ x ∈ L, x.length = sz) → L.flatten.length = L.length * sz
  | [], _ => by simp
  | y :: L, hl => by
    rw [List.flatten_cons, List.length_append, flatten_len (fun x hx => hl x (by simp [hx])), hl y (by simp), List.length_cons, Nat.add_mul]; omega
section
variable {H : Type} {enc : TypeId × Value → H} {P : Program} {w : World}
theorem cells?_spec {a : Addr} {n : Nat} {cs : List Value} (h : w.cells? 0 a n = some cs) : cs.length = n ∧ ∀ r u, cs[r]? = some u → w.cell? (a.add r) = some u := by
  unfold World.cells? at h
  rw [if_pos (Nat.zero_le _)] at h
  have hl := mapM_some_length h
  refine ⟨by simpa using hl, fun r u hu => ?_⟩
  have hr : r < n := by
    have := (List.getElem?_eq_some_iff.1 hu).1
    rw [hl] at this; simpa using this
  rw [mapM_some_get h r r (by simp [hr])]
  exact hu
theorem hasSh_fields {d : Nat} (ih : ∀ t sh fuel cs x, shapeOf P d t = some sh → DataW.trod enc P w 0 (fun _ => true) true fuel t cs = some x → HasSh w sh cs) {fuel : Nat} {cs : List Value} :
    ∀ (fs : List Field) (o : Nat) (ss : List Sh), (∀ f ∈ fs, ∃ x, DataW.trod enc P w 0 (fun _ => true) true fuel f.type ((cs.drop f.offset).take (P.cellsOf f.type)) = some x) →
      shapeFields P (shapeOf P d) o fs = some (ss, cs.length) → HasSh w (.agg ss) (cs.drop o)
  | [], o, ss, _, h => by
    simp only [shapeFields, Option.some.injEq, Prod.mk.injEq] at h
    obtain ⟨rfl, rfl⟩ := h
    rw [List.drop_of_length_le (Nat.le_refl _)]
    exact .nil
  | f :: r, o, ss, hx, h => by
    simp only [shapeFields] at h
    split at h
    · rename_i ho
      split at h
      · rename_i s ss' e hs hss
        simp only [Option.some.injEq, Prod.mk.injEq] at h
        obtain ⟨rfl, rfl⟩ := h
        obtain ⟨x, hx0⟩ := hx f (by simp)
        have h1 := ih _ _ _ _ _ hs hx0
        have h2 := hasSh_fields ih r (o + P.cellsOf f.type) ss' (fun g hg => hx g (by simp [hg])) hss
        rw [ho] at h1
        have := HasSh.cons _ _ _ _ h1 h2
        rwa [← List.drop_drop, List.take_append_drop] at this
      · cases h
    · cases h
theorem hasSh_elems {d : Nat} {e : TypeId} {s : Sh} (ih : ∀ t sh fuel cs x, shapeOf P d t = some sh → DataW.trod enc P w 0 (fun _ => true) true fuel t cs = some x → HasSh w sh cs) (hs : shapeOf P d e = some s) {fuel n : Nat} {cs : List Value}
    (hx : ∀ i, i < n → ∃ x, DataW.trod enc P w 0 (fun _ => true) true fuel e ((cs.drop (i * P.cellsOf e)).take (P.cellsOf e)) = some x) (hl : cs.length = n * P.cellsOf e) :
    ∀ k, k ≤ n → HasSh w (.agg (List.replicate k s)) (cs.drop ((n - k) * P.cellsOf e))
  | 0, _ => by
    rw [List.drop_of_length_le (by rw [hl]; exact Nat.le_refl _)]
    exact .nil
  | k + 1, hk => by
    obtain ⟨x, hx0⟩ := hx (n - (k + 1)) (by omega)
    have h1 := ih _ _ _ _ _ hs hx0
    have h2 := hasSh_elems ih hs hx hl k (by omega)
    have := HasSh.cons _ _ _ _ h1 h2
    have e1 : (n - k) * P.cellsOf e = (n - (k + 1)) * P.cellsOf e + P.cellsOf e := by
      rw [← Nat.succ_mul]; congr 1; omega
    rw [e1, ← List.drop_drop, List.take_append_drop] at this
    exact this
theorem hasSh_of_trod : ∀ (d : Nat) (t : TypeId) (sh : Sh) (fuel : Nat) (cs : List Value) (x : DataW H × List MemPlace), shapeOf P d t = some sh →
    DataW.trod enc P w 0 (fun _ => true) true fuel t cs = some x → HasSh w sh cs
  | 0, _, _, _, _, _, h, _ => by simp [shapeOf] at h
  | d + 1, t, sh, fuel, cs, x, h, hx => by
    have ih := hasSh_of_trod d
    unfold shapeOf at h
    split at h
    · rename_i ht
      simp only [Option.some.injEq] at h; subst h
      obtain ⟨b, rfl, _⟩ := DataW.trod_bool ht hx
      exact .bool b
    · rename_i k ht
      simp only [Option.some.injEq] at h; subst h
      obtain ⟨n, rfl, _, hw⟩ := DataW.trod_int ht hx
      exact .int k n hw
    · rename_i ht
      simp only [Option.some.injEq] at h; subst h
      obtain ⟨s, rfl, _, hs⟩ := DataW.trod_string ht hx
      exact .str s hs
    · rename_i e ht
      split at h
      · cases h
      · rename_i hsz
        simp only [Option.map_eq_some_iff] at h
        obtain ⟨s, hs, rfl⟩ := h
        rcases DataW.trod_slice ht hx with ⟨rfl, _⟩ | ⟨a, len, cap, elems, rest, n, _, rfl, _, _, hl, hc, hel, hcells, _, _⟩
        · exact .slice _ _ _ _ _ [] rfl (by simp) (by simp) (Nat.le_refl _) (Nat.zero_le _) (SlR.nil _ _)
        · have hcs : ∀ i, i < len → ∃ ci x, w.cells? 0 (a.add (i * P.cellsOf e)) (P.cellsOf e) = some ci ∧ DataW.trod enc P w 0 (fun _ => true) true n e ci = some x := fun i hi => by
            have h1 := hcells i hi
            rw [List.getElem?_eq_getElem (by omega : i < elems.length)] at h1
            obtain ⟨ci, h2, h3⟩ := Option.bind_eq_some_iff.1 h1
            exact ⟨ci, _, h2, h3⟩
          let f : Nat → List Value := fun i => (w.cells? 0 (a.add (i * P.cellsOf e)) (P.cellsOf e)).getD []
          have hf : ∀ i, i < len → (w.cells? 0 (a.add (i * P.cellsOf e)) (P.cellsOf e)) = some (f i) := fun i hi => by
            obtain ⟨ci, _, h1, _⟩ := hcs i hi
            show _ = some ((w.cells? 0 (a.add (i * P.cellsOf e)) (P.cellsOf e)).getD [])
            rw [h1]; rfl
          have hlen : ∀ x ∈ (List.range len).map f, x.length = P.cellsOf e := fun x hx => by
            obtain ⟨i, hi, rfl⟩ := List.mem_map.1 hx
            exact (cells?_spec (hf i (by simpa using hi))).1
          refine .slice _ _ _ _ _ ((List.range len).map f) (by simp) hlen (fun x hx => ?_) hl hc ⟨by rw [flatten_len hlen]; simp, ?_⟩
          · obtain ⟨i, hi, rfl⟩ := List.mem_map.1 hx
            obtain ⟨ci, x, h1, h2⟩ := hcs i (by simpa using hi)
            have := (hf i (by simpa using hi)).symm.trans h1
            rw [Option.some.inj this]
            exact ih _ _ _ _ _ hs h2
          · by_cases h0 : len = 0
            · subst h0; exact .inl ⟨⟨_, _, rfl⟩, rfl⟩
            · have hspot : a.spot = none := by
                have h1 := cells?_spec (hf 0 (by omega))
                have h2 := h1.2 0 ((f 0)[0]'(by rw [h1.1]; omega)) (by rw [List.getElem?_eq_getElem])
                by_cases hsp : a.spot = none
                · exact hsp
                · exfalso
                  unfold World.cell? at h2
                  have : ((a.add (0 * P.cellsOf e)).add 0).spot.isSome = true := by
                    cases hs' : a.spot with
                    | none => exact absurd hs' hsp
                    | some v => unfold Addr.add; simp [hs']
                  split at h2
                  · rw [if_pos this] at h2; cases h2
                  · cases h2
              obtain ⟨b, off, sp⟩ := a
              simp only at hspot
              subst hspot
              have hadd : ∀ j, (⟨b, off, none⟩ : Addr).add j = ⟨b, off + j, none⟩ := fun j => by unfold Addr.add; split <;> simp_all
              have hadd' : ∀ o j, (⟨b, o, none⟩ : Addr).add j = ⟨b, o + j, none⟩ := fun o j => by unfold Addr.add; split <;> simp_all
              have hcell : ∀ j u, ((List.range len).map f).flatten[j]? = some u → w.cell? ⟨b, off + j, none⟩ = some u := fun j u hu => by
                obtain ⟨i, r, x, rfl, hr, hxi, hxr⟩ := flatten_at hlen hu
                have hi : i < len := by
                  have := (List.getElem?_eq_some_iff.1 hxi).1; simpa using this
                have hx' : x = f i := by
                  rw [List.getElem?_map, List.getElem?_range hi] at hxi
                  exact (Option.some.inj hxi).symm
                subst hx'
                have h3 := (cells?_spec (hf i hi)).2 r u hxr
                rw [hadd, hadd', Nat.add_assoc] at h3
                exact h3
              refine .inr ⟨b, off, cap, rfl, ?_, by omega, hcell⟩
              have h1 := cells?_spec (hf 0 (by omega))
              obtain ⟨u, hu⟩ : ∃ u, (f 0)[0]? = some u := ⟨_, List.getElem?_eq_getElem (by rw [h1.1]; omega)⟩
              have h2 := h1.2 0 u hu
              rw [hadd, hadd'] at h2
              exact World.block_lt_of_cell? w _ h2
    · rename_i fs ht
      split at h
      · rename_i ss e hss
        split at h
        · rename_i he
          simp only [Option.some.injEq] at h; subst h
          obtain ⟨xs, n, _, _, hl, hxl, hfs⟩ := DataW.trod_struct ht hx
          have := hasSh_fields (P := P) (enc := enc) ih (fuel := n) (cs := cs) fs.toList 0 ss (fun f hf => by
            obtain ⟨i, hi, rfl⟩ := List.getElem_of_mem hf
            have h1 := hfs i _ (by simpa using Array.getElem?_eq_getElem (by simpa using hi))
            rw [List.getElem?_eq_getElem (by rw [hxl]; simpa using hi)] at h1
            exact ⟨_, by simpa using h1⟩) (by rw [hss, hl, he])
          simpa using this
        · cases h
      · cases h
    · rename_i n e ht
      split at h
      · rename_i hn
        simp only [Option.map_eq_some_iff] at h
        obtain ⟨s, hs, rfl⟩ := h
        obtain ⟨xs, m, _, _, hl, hxl, hfs⟩ := DataW.trod_array ht hx
        have := hasSh_elems (P := P) (enc := enc) ih hs (fuel := m) (n := n) (cs := cs) (fun i hi => by
          have h1 := hfs i hi
          rw [List.getElem?_eq_getElem (by omega)] at h1
          exact ⟨_, h1⟩) (by rw [hl, hn]) n (Nat.le_refl _)
        simpa using this
      · cases h
    · cases h
end
end Go.Proofs.Ytdlihlfknedpfaa
