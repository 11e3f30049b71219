/- Drawn regions whose last operation waits for all others: it may write a slot that others read. -/
import Derived.Test.YtffmcnaaaojgpaaDoorSa
namespace Go.Proofs.YtffmcnaaaojgpaaDoor
open Go.RowKit
set_option linter.unusedVariables false
set_option maxRecDepth 100000
set_option linter.unusedSimpArgs false
/-- All but the last, and the last. -/
def lastL : List Oper → Option (List Oper × Oper)
  | [] => none
  | a :: r => match lastL r with
    | some (p, o) => some (a :: p, o)
    | none => some ([], a)
theorem lastL_spec : ∀ (l : List Oper) {p : List Oper} {o : Oper}, lastL l = some (p, o) → l = p ++ [o]
  | [], p, o, h => by simp [lastL] at h
  | a :: r, p, o, h => by
    simp only [lastL] at h
    split at h
    · rename_i p' o' hr
      have h := Option.some.inj h
      obtain ⟨rfl, rfl⟩ := Prod.mk.inj h
      rw [lastL_spec r hr]; rfl
    · rename_i hr
      have h := Option.some.inj h
      obtain ⟨rfl, rfl⟩ := Prod.mk.inj h
      cases r with
      | nil => rfl
      | cons b r => simp only [lastL] at hr; split at hr <;> cases hr
def lastOK (pre : Array Oper) (o : Oper) : Bool :=
  (pre.all fun p => match p.guard with | none => true | some (g, _) => Nat.blt g pre.size) &&
  (o.after.all fun e => !Region.binds .any e || Nat.blt e.on pre.size) &&
  ((List.range pre.size).all fun j => o.after.any fun e => Region.binds .any e && (Nat.beq e.on j || ((Region.before pre).getD e.on 0).testBit j))
/-- What is asked behind the others: the last operation. -/
def QL (ops : Array Oper) (o : Oper) (Q : Exit → Act → World → Prop) : Exit → Act → World → Prop := fun e a w => match e with
  | .normal => wpList Tryd.prog ops Q [o] a w
  | e => Q e a w
section
variable {ops : Array Oper} {Q : Exit → Act → World → Prop} {o : Oper} {a : Act} {w : World} {n : Nat} {l : List (Nat × Value)} {L : List Asn}
theorem ql_open (h : wpList Tryd.prog ops Q [o] a w) : QL ops o Q .normal a w := h
theorem ql_wp {o' : Oper} {N N' : Act → World → Prop} (h : o'.wp Tryd.prog a w N (QL ops o Q)) (hN : ∀ a w, N a w → N' a w) : o'.wp Tryd.prog a w N' Q := by
  have h := Oper.wp_mono (Q := QL ops o Q) hN h
  unfold Oper.wp at *
  generalize (execOp a.eval o').run Tryd.prog w = r at *
  cases r with
  | ok n w' =>
    cases n <;> simp only [Oper.upon] at h ⊢
    case enter f args =>
      refine h.mono fun e w'' he => ?_
      cases e <;> exact he
    all_goals exact h
  | halt x w' => cases x <;> exact h
theorem ql_lets (h : LetsOut (QL ops o Q)) : LetsOut Q := h
theorem getD_push_lt {xs : Array Bool} {i : Nat} {b d : Bool} (h : i < xs.size) : (xs.push b).getD i d = xs.getD i d := by
  simp [Array.getElem?_push, Nat.ne_of_lt h]
theorem set_push {xs : Array Bool} {i : Nat} {b c : Bool} (h : i < xs.size) : (xs.push b).setIfInBounds i c = (xs.setIfInBounds i c).push b := by
  apply Array.ext_getElem?
  intro k
  simp only [Array.getElem?_setIfInBounds, Array.getElem?_push, Array.size_push, Array.size_setIfInBounds]
  by_cases hk : i = k
  · subst hk
    have : i ≠ xs.size := Nat.ne_of_lt h
    simp [h, this]; omega
  · simp only [if_neg hk]
theorem wpAny_push {pre : Array Oper} (hB : fixB pre = true) (hla : lastOK pre o = true) : ∀ (fuel : Nat) (listed : Array Bool) (a : Act) (w : World), listed.size = pre.size → (∀ (j : Nat) (oj : Oper), pre[j]? = some oj → listed.getD j true = true → ∀ e ∈ oj.after, Region.binds .any e = true → listed.getD e.on true = true) →
    wpAny Tryd.prog .any pre (QL (pre.push o) o Q) fuel listed a w → wpAny Tryd.prog .any (pre.push o) Q (fuel + 1) (listed.push false) a w := by
  simp only [lastOK, Bool.and_eq_true] at hla
  obtain ⟨⟨hg, hb⟩, hall⟩ := hla
  have hops : ∀ i, i < pre.size → (pre.push o)[i]? = pre[i]? := fun i hi => by simp [Array.getElem?_push, Nat.ne_of_lt hi]
  have hlast : (pre.push o)[pre.size]? = some o := by simp
  have hoe : ∀ e ∈ o.after, Region.binds .any e = true → e.on < pre.size := fun e he heb => by
    have := Array.all_eq_true_iff_forall_mem.1 hb e he
    simp only [heb, Bool.not_true, Bool.false_or] at this
    simpa [Nat.blt_eq] using this
  -- where the last may run, all others have run
  have full : ∀ (listed : Array Bool), listed.size = pre.size → (∀ (j : Nat) (oj : Oper), pre[j]? = some oj → listed.getD j true = true → ∀ e ∈ oj.after, Region.binds .any e = true → listed.getD e.on true = true) → (∀ e ∈ o.after, Region.binds .any e = true → listed.getD e.on true = true) → ∀ j, j < pre.size → listed.getD j true = true := by
    intro listed hl hc he j hj
    have h1 := List.all_eq_true.1 hall j (List.mem_range.2 hj)
    obtain ⟨k, hk, h2⟩ := Array.any_eq_true.1 h1
    obtain ⟨e, hem, hek⟩ : ∃ e, e ∈ o.after ∧ e = o.after[k] := ⟨_, Array.getElem_mem hk, rfl⟩
    rw [← hek] at h2
    simp only [Bool.and_eq_true, Bool.or_eq_true] at h2
    obtain ⟨heb, h3⟩ := h2
    have h4 := he e hem heb
    rcases h3 with h3 | h3
    · rw [← Nat.eq_of_beq_eq_true h3]; exact h4
    · have hlt := hoe e hem heb
      have hpe : pre[e.on]? = some pre[e.on] := by simp [hlt]
      exact anc_listed (S := fun k => listed.getD k true = true) (fun k ok hk => (fixB_spec hB hk).1) (fun k ok hk hS e' he' hb' => hc k ok hk hS e' he' hb') e.on _ hpe (fun e' he' hb' => hc e.on _ hpe h4 e' he' hb') j h3
  have hready : ∀ (listed : Array Bool) (i : Nat), listed.size = pre.size → (∀ (j : Nat) (oj : Oper), pre[j]? = some oj → listed.getD j true = true → ∀ e ∈ oj.after, Region.binds .any e = true → listed.getD e.on true = true) → i ∈ Region.ready .any (pre.push o) (listed.push false) →
      (i < pre.size ∧ i ∈ Region.ready .any pre listed) ∨ (i = pre.size ∧ ∀ j, j < pre.size → listed.getD j true = true) := by
    intro listed i hl hc hi
    obtain ⟨h1, oi, h2, h3⟩ := mem_ready.1 hi
    rcases Nat.lt_trichotomy i pre.size with hlt | rfl | hgt
    · left
      refine ⟨hlt, mem_ready.2 ⟨by rw [getD_push_lt (by omega)] at h1; exact h1, oi, by rw [hops i hlt] at h2; exact h2, fun e he heb => ?_⟩⟩
      have h4 := h3 e he heb
      rw [hops i hlt] at h2
      have h5 := (fixB_spec hB h2).1 e he heb
      rwa [getD_push_lt (by omega)] at h4
    · right
      refine ⟨rfl, full listed hl hc fun e he heb => ?_⟩
      rw [hlast] at h2
      cases h2
      have h4 := h3 e he heb
      have h5 := hoe e he heb
      rw [getD_push_lt (by omega)] at h4
      have : e.on < listed.size := by omega
      simpa [this] using h4
    · exfalso
      have : (pre.push o)[i]? = none := by simp; omega
      rw [this] at h2; cases h2
  -- the last
  have hend : ∀ (fuel : Nat) (listed : Array Bool) (a : Act) (w : World), listed.size = pre.size → (∀ j, j < pre.size → listed.getD j true = true) → (Region.ready .any pre listed = []) → QL (pre.push o) o Q .normal a w → wpOp Tryd.prog (pre.push o) Q pre.size (wpAny Tryd.prog .any (pre.push o) Q fuel ((listed.push false).setIfInBounds pre.size true)) a w := by
    intro fuel listed a w hl hfull hr h
    have hnone : Region.ready .any (pre.push o) ((listed.push false).setIfInBounds pre.size true) = [] := by
      apply List.eq_nil_iff_forall_not_mem.2
      intro i hi
      obtain ⟨h1, oi, h2, h3⟩ := mem_ready.1 hi
      have hlt : i < (pre.push o).size := (Array.getElem?_eq_some_iff.1 h2).1
      rw [Array.size_push] at hlt
      by_cases hip : i = pre.size
      · subst hip
        simp [hl] at h1
      · have hlt' : i < pre.size := by omega
        have h4 := hfull i hlt'
        have : ((listed.push false).setIfInBounds pre.size true).getD i true = listed.getD i true := by
          have hne : pre.size ≠ i := fun e => hip e.symm
          have hne2 : i ≠ listed.size := by omega
          simp [Array.getElem?_setIfInBounds, hne, Array.getElem?_push, hne2]
        rw [this, h4] at h1; cases h1
    have hK : ∀ a w, Q .normal a w → wpAny Tryd.prog .any (pre.push o) Q fuel ((listed.push false).setIfInBounds pre.size true) a w := by
      intro a w hq
      cases fuel with
      | zero => exact ⟨hnone, hq⟩
      | succ fuel => exact ⟨fun _ => hq, fun i hi => by rw [hnone] at hi; simp at hi⟩
    have h' : wpList Tryd.prog (pre.push o) Q [o] a w := h
    unfold wpOp
    rw [hlast]
    simp only [wpList] at h'
    simp only []
    split
    · rename_i hw
      rw [if_pos hw] at h'
      exact h'.imp (Oper.wp_mono hK) id
    · rename_i hw
      rw [if_neg hw] at h'
      exact hK _ _ h'
  intro fuel
  induction fuel with
  | zero =>
    intro listed a w hl hc ⟨hr, hq⟩
    have hfull := ready_nil_all hB hl hr
    refine ⟨fun hr' => ?_, fun i hi => ?_⟩
    · exfalso
      have : pre.size ∈ Region.ready .any (pre.push o) (listed.push false) := mem_ready.2 ⟨by simp [← hl], o, hlast, fun e he heb => by
        have h5 := hoe e he heb
        rw [getD_push_lt (by omega)]
        have := hfull e.on h5
        have hlt : e.on < listed.size := by omega
        simpa [hlt] using this⟩
      rw [hr'] at this; simp at this
    · rcases hready listed i hl hc hi with ⟨_, h⟩ | ⟨rfl, hf⟩
      · rw [hr] at h; simp at h
      · exact hend 0 listed a w hl hf hr hq
  | succ fuel ih =>
    intro listed a w hl hc ⟨h0, h1⟩
    refine ⟨fun hr' => ?_, fun i hi => ?_⟩
    · exfalso
      have hnil : Region.ready .any pre listed = [] := by
        apply List.eq_nil_iff_forall_not_mem.2
        intro i hi
        obtain ⟨k1, oi, k2, k3⟩ := mem_ready.1 hi
        have hlt : i < pre.size := (Array.getElem?_eq_some_iff.1 k2).1
        have : i ∈ Region.ready .any (pre.push o) (listed.push false) := mem_ready.2 ⟨by rw [getD_push_lt (by omega)]; exact k1, oi, by rw [hops i hlt]; exact k2, fun e he heb => by
          have h5 := (fixB_spec hB k2).1 e he heb
          rw [getD_push_lt (by omega)]; exact k3 e he heb⟩
        rw [hr'] at this; simp at this
      have hfull := ready_nil_all hB hl hnil
      have : pre.size ∈ Region.ready .any (pre.push o) (listed.push false) := mem_ready.2 ⟨by simp [← hl], o, hlast, fun e he heb => by
        have h5 := hoe e he heb
        rw [getD_push_lt (by omega)]
        have := hfull e.on h5
        have hlt : e.on < listed.size := by omega
        simpa [hlt] using this⟩
      rw [hr'] at this; simp at this
    · rcases hready listed i hl hc hi with ⟨hlt, h⟩ | ⟨rfl, hf⟩
      · have h2 := h1 i h
        rw [set_push (by omega)]
        obtain ⟨k1, oi, k2, k3⟩ := mem_ready.1 h
        have hN : ∀ a w, wpAny Tryd.prog .any pre (QL (pre.push o) o Q) fuel (listed.setIfInBounds i true) a w → wpAny Tryd.prog .any (pre.push o) Q (fuel + 1) ((listed.setIfInBounds i true).push false) a w := fun a w hh => ih _ a w (by simp [hl]) (fun j oj hj hjl e he heb => by
          rw [getD_set (by omega)] at hjl ⊢
          split
          · rfl
          · split at hjl
            · rename_i hij
              subst hij
              rw [k2] at hj; cases hj
              have h4 := k3 e he heb
              have h5 := (fixB_spec hB k2).1 e he heb
              have h6 : e.on < listed.size := by omega
              simpa [h6] using h4
            · exact hc j oj hj hjl e he heb) hh
        unfold wpOp at h2 ⊢
        rw [k2] at h2
        rw [hops i hlt, k2]
        simp only [] at h2 ⊢
        have hw : Region.wanted oi (yielded (pre.push o) a.tmps) = Region.wanted oi (yielded pre a.tmps) := by
          unfold Region.wanted
          cases hgu : oi.guard with
          | none => rfl
          | some gb =>
            obtain ⟨g, b⟩ := gb
            have hgl : g < pre.size := by
              have := Array.all_eq_true_iff_forall_mem.1 hg oi (Array.mem_of_getElem? k2)
              rw [hgu] at this
              simpa [Nat.blt_eq] using this
            simp only [yielded, hops g hgl]
        rw [hw]
        split
        · rename_i hww
          rw [if_pos hww] at h2
          rcases h2 with h2 | ⟨h2, h3⟩
          · exact .inl (ql_wp h2 hN)
          · exact .inr ⟨h2, ql_lets h3⟩
        · rename_i hww
          rw [if_neg hww] at h2
          exact hN _ _ h2
      · have hnil : Region.ready .any pre listed = [] := by
          apply List.eq_nil_iff_forall_not_mem.2
          intro i hi
          obtain ⟨k1, oi, k2, k3⟩ := mem_ready.1 hi
          have := hf i (Array.getElem?_eq_some_iff.1 k2).1
          rw [this] at k1; cases k1
        exact hend (fuel + 1) listed a w hl hf hnil (h0 hnil)
/-- A region that draws its order, the last operation behind all others. -/
theorem svDrawL {id : Nat} {os pre : List Oper} (E Fl : List Nat) (S : List (Nat × List Nat)) (σ : List Nat) (F : Fr a n l) (M : Mem w L) (h : PW Tryd.prog pre.toArray n (QL os.toArray o Q) E Fl S σ [] l L) (hl : lastL os = some (pre, o) := by exact rfl) (hok : drawOK pre.toArray E Fl S σ n = true := by kernel_rfl) (hla : lastOK pre.toArray o = true := by kernel_rfl)
    (hFl : FlOK Tryd.prog pre.toArray Fl := by (first | (focus ((repeat (first | exact flok_nil | (apply flok_cons; (exact rfl); (exact rfl); (exact inferInstance); (exact rfl); (exact rfl)))); done)) | fail)) : (Code.region id os.toArray true).wp Tryd.prog Q a w := by
  have he := lastL_spec os hl
  have he' : os.toArray = pre.toArray.push o := by rw [he]; simp
  rw [he'] at h ⊢
  generalize pre.toArray = ops at *
  simp only [drawOK, Bool.and_eq_true] at hok
  obtain ⟨⟨⟨⟨⟨hB, ho⟩, hlen⟩, hall⟩, hfl⟩, hds⟩ := hok
  have hn : ∀ (i : Nat) (o : Oper) (d : Nat), ops[i]? = some o → o.dst = some d → d < n := fun i o d hi hd => by
    have := Array.all_eq_true_iff_forall_mem.1 hds o (Array.mem_of_getElem? hi)
    rw [hd] at this
    exact Nat.le_of_ble_eq_true this
  have hEF : ∀ i, Fl.contains i = true → E.contains i = false := fun i hi => by
    have := List.all_eq_true.1 hfl i (by simpa using hi)
    simp only [Bool.and_eq_true, Bool.not_eq_true'] at this
    exact this.1
  have hrep : ∀ j, (Array.replicate ops.size false).getD j true = true → ops.size ≤ j := fun j hj => by
    by_cases hlt : j < ops.size
    · simp [hlt] at hj
    · omega
  obtain ⟨done', rest', l', L', ear', hp, hh⟩ := norm hB hn (listed := Array.replicate ops.size false) (a := a) (w := { w with drawn := w.drawn + 1 }) σ [] l L [] ⟨h, ho, fun i hi => .inr (by simpa using List.all_eq_true.1 hall i (List.mem_range.2 hi)), by rw [List.map_nil, List.append_nil]; exact M.drew _, by simp, by simp, fun j hj hjl => by have := hrep j hjl; omega, by simp, by simp,
    fun j o hj hjl => by have := hrep j hjl; have := (Array.getElem?_eq_some_iff.1 hj).1; omega, F.ds, F.size, fun t v ht => (F.val t v ht).1, fun t v ht => .inl (F.val t v ht).2, by simp⟩
  have h1 := pw_any hB hn hFl hEF ops.size _ a _ (by simp) (by simp [unlisted]) ⟨done', rest', l', L', ear', hp, hh⟩
  have h2 := wpAny_push hB hla ops.size _ a _ (by simp) (fun j oj hj hjl => by have := hrep j hjl; have := (Array.getElem?_eq_some_iff.1 hj).1; omega) h1
  refine wp_region_any mixed ?_
  have e1 : (Array.replicate ops.size false).push false = Array.replicate (ops.push o).size false := by
    rw [Array.size_push, ← Array.replicate_succ]
  rw [e1] at h2
  have e2 : ops.size + 1 = (ops.push o).size := by simp
  rw [e2] at h2
  exact h2
end
end Go.Proofs.YtffmcnaaaojgpaaDoor
