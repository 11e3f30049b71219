/- A region that draws its order, whose slots come to fixed values whatever the order, while an invariant of the world is kept. -/
import Derived.Test.YtdlihlfknedpfaaBase
import Derived.Orders
namespace Go.Proofs.Ytdlihlfknedpfaa
open Go.RowKit
/-- What is asked once an operation has yielded this: the value v, and R of the world. -/
def fixUpon (P : Program) (v : Value) (R : World → Prop) : Result Next → Prop
  | .ok (.value u) w' => u = v ∧ R w'
  | .ok .skip w' => v = undef ∧ R w'
  | .ok (.enter f args) w' => Calls P f args w' fun e w'' => e = .returned v ∧ R w''
  | _ => False
theorem Oper.wp_of_fix {P : Program} {o : Oper} {a : Act} {w : World} {v : Value} {R : World → Prop} {K : Act → World → Prop} {Q : Exit → Act → World → Prop}
    (h : fixUpon P v R ((execOp a.eval o).run P w)) (hK : ∀ w', R w' → K (a.put o.dst v) w') : o.wp P a w K Q := by
  unfold Oper.wp
  generalize (execOp a.eval o).run P w = r at *
  cases r with
  | ok n w' =>
    cases n <;> simp only [fixUpon] at h <;> simp only [Oper.upon]
    case value u => rw [h.1]; exact hK _ h.2
    case skip => rw [← h.1]; exact hK _ h.2
    case enter f args => exact h.mono fun e w'' ⟨he, hr⟩ => by subst he; exact hK _ hr
  | halt x w' => simp only [fixUpon] at h
/-- What the law asks of a region, by reckoning: every edge points back; a slot is written by one operation alone; whoever looks at a slot that the region writes waits for its writer; no select. -/
def fixB (ops : Array Oper) : Bool :=
  (List.range ops.size).all fun i =>
    match ops[i]? with
    | none => false
    | some o =>
      (o.after.toList.all fun e => !Region.binds .any e || decide (e.on < i)) &&
      (match o.op with | .select .. => false | _ => true) &&
      ((List.range ops.size).all fun j =>
        match ops[j]? with
        | none => false
        | some p =>
          match p.dst with
          | none => true
          | some d =>
            (!(o.op.operands.toList.any fun x => match x with | .tmp t => t == d | _ => false) || (o.after.toList.any fun e => Region.binds .any e && e.on == j)) &&
            (match o.guard with | none => true | some (g, _) => !(g == j) || (o.after.toList.any fun e => Region.binds .any e && e.on == j)) &&
            (i == j || !(o.dst == some d)))
section
variable {P : Program} {ops : Array Oper} {a0 : Act} {T : Array Value}
/-- The frame's slots: what has been written is at its end, the rest as it was. -/
def AtFix (ops : Array Oper) (a0 : Act) (T : Array Value) (listed : Array Bool) (a : Act) : Prop :=
  a.defers = a0.defers ∧ a.tmps.size = a0.tmps.size ∧ ∀ t, ((∃ (j : Nat) (o : Oper), ops[j]? = some o ∧ o.dst = some t ∧ listed.getD j true = false) ∨ a.tmps.getD t undef = T.getD t undef) ∧
    ((∀ (j : Nat) (o : Oper), ops[j]? = some o → o.dst ≠ some t) → a.tmps.getD t undef = a0.tmps.getD t undef)
theorem fixB_spec (h : fixB ops = true) {i : Nat} {o : Oper} (hi : ops[i]? = some o) :
    (∀ e ∈ o.after, Region.binds .any e = true → e.on < i) ∧ (∀ cs b, o.op ≠ .select cs b) ∧
    (∀ (j : Nat) (p : Oper) (d : Tmp), ops[j]? = some p → p.dst = some d → ((.tmp d) ∈ o.op.operands → ∃ e ∈ o.after, Region.binds .any e = true ∧ e.on = j) ∧ (∀ g b, o.guard = some (g, b) → g = j → ∃ e ∈ o.after, Region.binds .any e = true ∧ e.on = j) ∧ (i ≠ j → o.dst ≠ some d)) := by
  have hlt : i < ops.size := (Array.getElem?_eq_some_iff.1 hi).1
  have h1 := List.all_eq_true.1 h i (List.mem_range.2 hlt)
  rw [hi] at h1
  simp only [Bool.and_eq_true] at h1
  obtain ⟨⟨ha, hs⟩, hj⟩ := h1
  refine ⟨fun e he hb => ?_, fun cs b hc => ?_, fun j p d hp hd => ?_⟩
  · have := List.all_eq_true.1 ha e (by simpa using he)
    simpa [hb] using this
  · rw [hc] at hs; simp at hs
  · have hlj : j < ops.size := (Array.getElem?_eq_some_iff.1 hp).1
    have h2 := List.all_eq_true.1 hj j (List.mem_range.2 hlj)
    rw [hp] at h2
    simp only [hd, Bool.and_eq_true, Bool.or_eq_true, Bool.not_eq_true'] at h2
    obtain ⟨⟨h3, h4⟩, h5⟩ := h2
    refine ⟨fun hm => ?_, fun g b hg hgj => ?_, fun hij hdd => ?_⟩
    · rcases h3 with h3 | h3
      · exfalso
        have : (o.op.operands.toList.any fun x => match x with | .tmp t => t == d | _ => false) = true := List.any_eq_true.2 ⟨.tmp d, by simpa using hm, by simp⟩
        rw [this] at h3; cases h3
      · obtain ⟨e, he, hb⟩ := List.any_eq_true.1 h3
        simp only [Bool.and_eq_true, beq_iff_eq] at hb
        exact ⟨e, by simpa using he, hb.1, hb.2⟩
    · rw [hg] at h4
      simp only [Bool.or_eq_true, Bool.not_eq_true'] at h4
      rcases h4 with h4 | h4
      · exfalso; simp [hgj] at h4
      · obtain ⟨e, he, hb⟩ := List.any_eq_true.1 h4
        simp only [Bool.and_eq_true, beq_iff_eq] at hb
        exact ⟨e, by simpa using he, hb.1, hb.2⟩
    · rcases h5 with h5 | h5
      · exact hij (by simpa using h5)
      · rw [hdd] at h5; simp at h5
theorem AtFix.slot {listed : Array Bool} {a : Act} (hB : fixB ops = true) (h : AtFix ops a0 T listed a) {i : Nat} {o : Oper} (hi : ops[i]? = some o) (hall : ∀ e ∈ o.after, Region.binds .any e = true → listed.getD e.on false = true)
    (hl : listed.size = ops.size) (t : Tmp) (ht : ∀ (j : Nat) (p : Oper), ops[j]? = some p → p.dst = some t → ∃ e ∈ o.after, Region.binds .any e = true ∧ e.on = j) : a.tmps.getD t undef = T.getD t undef := by
  rcases (h.2.2 t).1 with ⟨j, p, hp, hd, hn⟩ | h1
  · exfalso
    obtain ⟨e, he, hb, rfl⟩ := ht j p hp hd
    have h2 := hall e he hb
    have hlt : e.on < ops.size := (Array.getElem?_eq_some_iff.1 hp).1
    simp [hl, hlt] at hn h2
    rw [hn] at h2; cases h2
  · exact h1
theorem getD_set_self {listed : Array Bool} {i : Nat} (h : i < listed.size) (d : Bool) : (listed.setIfInBounds i true).getD i d = true := by simp [h]
theorem AtFix.put {listed : Array Bool} {a : Act} (hB : fixB ops = true) (h : AtFix ops a0 T listed a) {i : Nat} {o : Oper} (hi : ops[i]? = some o) (hl : listed.size = ops.size) {v : Value} (hv : ∀ d, o.dst = some d → v = T.getD d undef ∧ d < a0.tmps.size) :
    AtFix ops a0 T (listed.setIfInBounds i true) (a.put o.dst v) := by
  have hlt : i < ops.size := (Array.getElem?_eq_some_iff.1 hi).1
  cases hd : o.dst with
  | none =>
    refine ⟨h.1, h.2.1, fun t => ⟨?_, (h.2.2 t).2⟩⟩
    rcases (h.2.2 t).1 with ⟨j, p, hp, hpd, hn⟩ | h1
    · left
      refine ⟨j, p, hp, hpd, ?_⟩
      have hij : i ≠ j := fun e => by subst e; rw [hi] at hp; cases hp; rw [hd] at hpd; cases hpd
      rw [getD_set_ne true hij]; exact hn
    · exact .inr h1
  | some d =>
    obtain ⟨hv1, hv2⟩ := hv d hd
    refine ⟨h.1, by simp [Act.put, h.2.1], fun t => ?_⟩
    by_cases htd : t = d
    · subst htd
      refine ⟨.inr ?_, fun hno => absurd hd (hno i o hi)⟩
      simp [Act.put, h.2.1, hv2, hv1]
    · have e : (a.put (some d) v).tmps.getD t undef = a.tmps.getD t undef := by
        simp [Act.put, Array.getElem?_setIfInBounds, Ne.symm htd]
      rw [e]
      refine ⟨?_, (h.2.2 t).2⟩
      rcases (h.2.2 t).1 with ⟨j, p, hp, hpd, hn⟩ | h1
      · left
        refine ⟨j, p, hp, hpd, ?_⟩
        have hij : i ≠ j := fun e => by
          subst e; rw [hi] at hp; cases hp; rw [hd] at hpd; exact htd (Option.some.inj hpd).symm
        rw [getD_set_ne true hij]; exact hn
      · exact .inr h1
theorem ready_nil_all (hB : fixB ops = true) {listed : Array Bool} (hl : listed.size = ops.size) (h : Region.ready .any ops listed = []) : ∀ i, i < ops.size → listed.getD i true = true := by
  intro i
  induction i using Nat.strongRecOn with
  | ind i ih =>
    intro hi
    cases hu : listed.getD i true with
    | true => rfl
    | false =>
      exfalso
      have : i ∈ Region.ready .any ops listed := mem_ready.2 ⟨hu, ops[i], Array.getElem?_eq_getElem hi, fun e he hb => by
        have h1 := (fixB_spec hB (Array.getElem?_eq_getElem hi)).1 e he hb
        have h2 := ih e.on h1 (by omega)
        simpa [hl, Nat.lt_trans h1 hi] using h2⟩
      rw [h] at this; cases this
def unlisted (listed : Array Bool) : Nat := (listed.toList.filter (fun b => !b)).length
theorem unlisted_set {listed : Array Bool} {i : Nat} (h : i < listed.size) (hf : listed.getD i true = false) : unlisted (listed.setIfInBounds i true) + 1 = unlisted listed := by
  unfold unlisted
  have hf' : listed.toList[i]? = some false := by
    have : listed[i] = false := by simpa [h] using hf
    simp [h, this]
  rw [Array.toList_setIfInBounds]
  generalize listed.toList = l at *
  clear hf h
  induction l generalizing i with
  | nil => simp at hf'
  | cons b l ih =>
    cases i with
    | zero => simp at hf'; subst hf'; simp
    | succ i =>
      simp only [List.set_cons_succ, List.filter_cons]
      have := ih (by simpa using hf')
      cases b <;> simp <;> omega
theorem wpAny_fix {Q : Exit → Act → World → Prop} {J : Array Bool → World → Prop} (hB : fixB ops = true) (hT : ∀ (i : Nat) (o : Oper) (d : Tmp), ops[i]? = some o → o.dst = some d → d < a0.tmps.size)
    (hstep : ∀ (i : Nat) (o : Oper) (listed : Array Bool) (w : World), ops[i]? = some o → listed.size = ops.size → listed.getD i true = false → (∀ e ∈ o.after, Region.binds .any e = true → listed.getD e.on false = true) → J listed w →
      if Region.wanted o (yielded ops T) then ∃ v, (∀ d, o.dst = some d → v = T.getD d undef) ∧ fixUpon P v (J (listed.setIfInBounds i true)) ((execOp (⟨T, a0.defers⟩ : Act).eval o).run P w)
      else (∀ d, o.dst = some d → T.getD d undef = undef) ∧ J (listed.setIfInBounds i true) w)
    (hsz : T.size = a0.tmps.size)
    (hend : ∀ a w, AtFix ops a0 T (Array.replicate ops.size true) a → J (Array.replicate ops.size true) w → Q .normal a w) :
    ∀ (fuel : Nat) (listed : Array Bool) (a : Act) (w : World), listed.size = ops.size → unlisted listed ≤ fuel → AtFix ops a0 T listed a → J listed w → wpAny P .any ops Q fuel listed a w := by
  have stop : ∀ (listed : Array Bool) (a : Act) (w : World), listed.size = ops.size → AtFix ops a0 T listed a → J listed w → Region.ready .any ops listed = [] → Q .normal a w := fun listed a w hl hA hJ hr => by
    have e : listed = Array.replicate ops.size true := Array.ext (by simp [hl]) fun i h1 h2 => by
      have := ready_nil_all hB hl hr i (by omega)
      simpa [h1] using this
    subst e
    exact hend a w hA hJ
  intro fuel
  induction fuel with
  | zero =>
    intro listed a w hl hu hA hJ
    have hr : Region.ready .any ops listed = [] := by
      apply List.eq_nil_iff_forall_not_mem.2
      intro i hi
      obtain ⟨h1, o, ho, _⟩ := mem_ready.1 hi
      have hlt : i < listed.size := by rw [hl]; exact (Array.getElem?_eq_some_iff.1 ho).1
      have := unlisted_set hlt h1
      omega
    exact ⟨hr, stop listed a w hl hA hJ hr⟩
  | succ fuel ih =>
    intro listed a w hl hu hA hJ
    refine ⟨fun hr => stop listed a w hl hA hJ hr, fun i hi => ?_⟩
    obtain ⟨h1, o, ho, hall⟩ := mem_ready.1 hi
    have hlt : i < listed.size := by rw [hl]; exact (Array.getElem?_eq_some_iff.1 ho).1
    have hun := unlisted_set hlt h1
    obtain ⟨hb1, hb2, hb3⟩ := fixB_spec hB ho
    have hev : execOp a.eval o = execOp (⟨T, a0.defers⟩ : Act).eval o := execOp_congr o hb2 fun x hx => by
      cases x with
      | tmp t => exact hA.slot hB ho hall hl t fun j p hp hd => (hb3 j p t hp hd).1 hx
      | const v => rfl
      | global g => rfl
      | func f => rfl
    have hwa : Region.wanted o (yielded ops a.tmps) = Region.wanted o (yielded ops T) := by
      unfold Region.wanted
      cases hg : o.guard with
      | none => rfl
      | some gw =>
        obtain ⟨g, b⟩ := gw
        simp only []
        have : yielded ops a.tmps g = yielded ops T g := by
          unfold yielded
          cases hp : ops[g]? with
          | none => rfl
          | some p =>
            simp only [Option.bind_some]
            cases hd : p.dst with
            | none => rfl
            | some d =>
              simp only [Option.bind_some]
              have h2 := hA.slot hB ho hall hl d fun j p' hp' hd' => by
                by_cases hgj : g = j
                · subst hgj; exact (hb3 g p d hp hd).2.1 g b hg rfl
                · exact absurd hd' ((fixB_spec hB hp').2.2 g p d hp hd |>.2.2 (Ne.symm hgj))
              have hda : d < a.tmps.size := by rw [hA.2.1]; exact hT g p d hp hd
              have hdT : d < T.size := by rw [hsz]; exact hT g p d hp hd
              simp only [Array.getD, hda, hdT, dif_pos] at h2
              rw [Array.getElem?_eq_getElem hda, Array.getElem?_eq_getElem hdT]
              have h3 : a.tmps[d] = T[d] := by simpa using h2
              rw [h3]
        rw [this]
    have hs := hstep i o listed w ho hl h1 hall hJ
    unfold wpOp
    rw [ho]
    simp only []
    rw [hwa]
    split
    · rename_i hw
      rw [if_pos hw] at hs
      obtain ⟨v, hv, hf⟩ := hs
      left
      rw [← hev] at hf
      exact Oper.wp_of_fix hf fun w' hJ' => ih _ _ _ (by simp [hl]) (by omega) (hA.put hB ho hl fun d hd => ⟨hv d hd, hT i o d ho hd⟩) hJ'
    · rename_i hw
      rw [if_neg hw] at hs
      exact ih _ _ _ (by simp [hl]) (by omega) (hA.put hB ho hl fun d hd => ⟨(hs.1 d hd).symm, hT i o d ho hd⟩) hs.2
/-- **The law.** -/
theorem wp_region_fix {id : Nat} {Q : Exit → Act → World → Prop} {w : World} (J : Array Bool → World → Prop) (T : Array Value) (hm : P.follows .mixedOrders = true) (hB : fixB ops = true)
    (hT : ∀ (i : Nat) (o : Oper) (d : Tmp), ops[i]? = some o → o.dst = some d → d < a0.tmps.size) (hsz : T.size = a0.tmps.size) (hrest : ∀ t, (∀ (j : Nat) (o : Oper), ops[j]? = some o → o.dst ≠ some t) → T.getD t undef = a0.tmps.getD t undef)
    (h0 : J (Array.replicate ops.size false) { w with drawn := w.drawn + 1 })
    (hstep : ∀ (i : Nat) (o : Oper) (listed : Array Bool) (w : World), ops[i]? = some o → listed.size = ops.size → listed.getD i true = false → (∀ e ∈ o.after, Region.binds .any e = true → listed.getD e.on false = true) → J listed w →
      if Region.wanted o (yielded ops T) then ∃ v, (∀ d, o.dst = some d → v = T.getD d undef) ∧ fixUpon P v (J (listed.setIfInBounds i true)) ((execOp (⟨T, a0.defers⟩ : Act).eval o).run P w)
      else (∀ d, o.dst = some d → T.getD d undef = undef) ∧ J (listed.setIfInBounds i true) w)
    (hend : ∀ w', J (Array.replicate ops.size true) w' → Q .normal ⟨T, a0.defers⟩ w') : (Code.region id ops true).wp P Q a0 w := by
  refine wp_region_any hm (wpAny_fix (a0 := a0) (T := T) hB hT hstep hsz (fun a w' hA hJ => ?_) ops.size _ a0 _ (by simp) (by simp [unlisted]) ?_ h0)
  · have e : a = ⟨T, a0.defers⟩ := by
      obtain ⟨h1, h2, h3⟩ := hA
      obtain ⟨tm, df⟩ := a
      simp only at h1 h2 h3
      subst h1
      congr 1
      refine Array.ext (by omega) fun i hi1 hi2 => ?_
      rcases (h3 i).1 with ⟨j, o, ho, _, hn⟩ | h4
      · have hlt : j < ops.size := (Array.getElem?_eq_some_iff.1 ho).1
        simp [hlt] at hn
      · simpa [hi1, hi2] using h4
    rw [e]
    exact hend w' hJ
  · refine ⟨rfl, rfl, fun t => ⟨?_, fun _ => rfl⟩⟩
    by_cases h : ∃ (j : Nat) (o : Oper), ops[j]? = some o ∧ o.dst = some t
    · obtain ⟨j, o, ho, hd⟩ := h
      have hlt : j < ops.size := (Array.getElem?_eq_some_iff.1 ho).1
      exact .inl ⟨j, o, ho, hd, by simp [hlt]⟩
    · exact .inr (hrest t fun j o ho hd => h ⟨j, o, ho, hd⟩).symm
end
end Go.Proofs.Ytdlihlfknedpfaa
