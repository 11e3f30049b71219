/- History: Payments and Assigned are those of the reference (plain); order; what is rejected. -/
import Derived.Test.YtdlihlfknedpfaaHistL
namespace Go.Proofs.Ytdlihlfknedpfaa
open Go.RowKit
set_option linter.unusedVariables false
set_option maxRecDepth 100000
set_option linter.unusedSimpArgs false
set_option maxHeartbeats 1000000
def refPays (i : Int) (ps : List PR) : List Pm := ps.flatMap fun p => if p.2.r.c = 0 then p.2.r.pms.filter fun y => decide (y.ix = i) else []
def refAsgd (e : Int) (ps : List PR) : List Asg := ps.flatMap fun p => if p.2.r.c = 0 then p.2.r.asg.filter fun y => decide (y.ep = e) else []
theorem pays_on (i j : Int) (f : Rd → Rd) (hf : ∀ r, (f r).pays = r.pays) (r : Rd) : (onI i j f r).pays = r.pays := by unfold onI; split; (· exact hf r); rfl
theorem pays_asgR (y : Asg) (r : Rd) : (asgR y r).pays = r.pays := by unfold asgR; split <;> rfl
theorem pays_payR (y : Pm) (e : Int) (r : Rd) : (payR y e r).pays = r.pays ++ [y] := by unfold payR; split <;> rfl
theorem pays_slashR (e : Int) (r : Rd) : (slashR e r).pays = r.pays := by unfold slashR; split <;> rfl
theorem pays_beginR (c e d : Int) (r : Rd) : (beginR c e d r).pays = r.pays := by unfold beginR; split <;> rfl
theorem pays_foldA (i : Int) : ∀ (l : List Asg) (r : Rd), (l.foldl (fun r y => onI i y.ix (asgR y) r) r).pays = r.pays
  | [], r => rfl
  | y :: l, r => by rw [List.foldl_cons, pays_foldA i l, pays_on _ _ _ (pays_asgR y)]
theorem pays_foldP (i e : Int) : ∀ (l : List Pm) (r : Rd), (l.foldl (fun r y => onI i y.ix (payR y e) r) r).pays = r.pays ++ l.filter fun y => decide (y.ix = i)
  | [], r => by simp
  | y :: l, r => by
    rw [List.foldl_cons, pays_foldP i e l, onI]
    by_cases h : y.ix = i
    · rw [if_pos h, pays_payR]; simp [h]
    · rw [if_neg h]; simp [h]
theorem pays_step (i : Int) (p : PR) (r : Rd) : (stepR i p r).pays = r.pays ++ (if p.2.r.c = 0 then p.2.r.pms.filter (fun y => decide (y.ix = i)) else []) := by
  unfold stepR
  by_cases hc : p.2.r.c = 0
  · simp only [ne_eq, hc, not_true_eq_false, if_false, if_true]
    have hb : ∀ c e d r', (onI i p.2.r.ix (beginR c e d) r').pays = r'.pays := fun c e d r' => pays_on _ _ _ (pays_beginR c e d) r'
    have hs : ∀ e c d r', (onI i p.2.r.ix (fun r => beginR c e d (slashR e r)) r').pays = r'.pays := fun e c d r' => pays_on i p.2.r.ix (fun r => beginR c e d (slashR e r)) (fun r => by rw [pays_beginR, pays_slashR]) r'
    split
    · rw [hb, pays_foldP, pays_foldA]
    · split
      · rw [hs, pays_foldP, pays_foldA]
      · split
        · rw [hb, pays_foldP, pays_foldA]
        · rw [pays_foldP, pays_foldA]
  · simp [hc]
theorem pays_fold (i : Int) : ∀ (l : List PR) (r : Rd), (l.foldl (fun r p => stepR i p r) r).pays = r.pays ++ refPays i l
  | [], r => by simp [refPays]
  | p :: l, r => by rw [List.foldl_cons, pays_fold i l, pays_step]; simp [refPays]
theorem law_pays (ps : List PR) (i : Int) : (getR i (hsOf ps).recs).pays = refPays i ps := by rw [get_hsOf, pays_fold]; simp [r0]
theorem asg_foldA : ∀ (l : List Asg) (q : HS), (l.foldl addA q).asg = q.asg ++ l
  | [], q => by simp
  | y :: l, q => by rw [List.foldl_cons, asg_foldA l, addA]; simp
theorem asg_step (q : HS) (p : PR) : (stepH q p).asg = q.asg ++ (if p.2.r.c = 0 then p.2.r.asg else []) := by
  unfold stepH addR
  by_cases hc : p.2.r.c = 0
  · simp only [ne_eq, hc, not_true_eq_false, if_false, if_true]
    have h3 : (p.2.r.pms.foldl (addP p.2.r.ep) (p.2.r.asg.foldl addA { q with n := q.n + 1, ep := p.2.r.ep })).asg = q.asg ++ p.2.r.asg := by
      rw [(foldP_keep _ _ _).2.2.2, asg_foldA]
    split
    · rw [addB]; exact h3
    · split
      · rw [addB, addS]; exact h3
      · split
        · rw [addB]; exact h3
        · exact h3
  · simp [hc]
theorem asg_fold : ∀ (l : List PR) (q : HS) (e : Int), (l.foldl stepH q).asg.filter (fun y => decide (y.ep = e)) = q.asg.filter (fun y => decide (y.ep = e)) ++ refAsgd e l
  | [], q, e => by simp [refAsgd]
  | p :: l, q, e => by
    rw [List.foldl_cons, asg_fold l, asg_step, List.filter_append]
    by_cases hc : p.2.r.c = 0 <;> simp [refAsgd, hc]
theorem law_asgd (ps : List PR) (e : Int) : (hsOf ps).asg.filter (fun y => decide (y.ep = e)) = refAsgd e ps := by rw [hsOf, asg_fold]; simp [h0]
/-! ### What is rejected does not matter -/
structure Sq (q q' : HS) : Prop where
  recs : q.recs = q'.recs
  ord : q.ord = q'.ord
  ep : q.ep = q'.ep
  asg : q.asg = q'.asg
theorem sq_eq {q q' : HS} (h : Sq q q') : q' = { q with n := q'.n } := by
  obtain ⟨a, b, c, d, e⟩ := q; obtain ⟨a', b', c', d', e'⟩ := q'
  obtain ⟨h1, h2, h3, h4⟩ := h
  simp only at h1 h2 h3 h4
  subst h1 h2 h3 h4; rfl
theorem n_foldA : ∀ (l : List Asg) (q : HS) (m : Int), l.foldl addA { q with n := m } = { l.foldl addA q with n := m }
  | [], q, m => rfl
  | y :: l, q, m => by rw [List.foldl_cons, List.foldl_cons, ← n_foldA l (addA q y)]; rfl
theorem n_foldP (e : Int) : ∀ (l : List Pm) (q : HS) (m : Int), l.foldl (addP e) { q with n := m } = { l.foldl (addP e) q with n := m }
  | [], q, m => rfl
  | y :: l, q, m => by rw [List.foldl_cons, List.foldl_cons, ← n_foldP e l (addP e q y)]; rfl
theorem n_add (k : Int) (x : Rc) (q : HS) (m : Int) : addR k x { q with n := m } = { addR k x q with n := m + 1 } := by
  unfold addR
  split
  · rfl
  · have h : ({ q with n := m } : HS) = { q with n := m } := rfl
    have e1 := n_foldP x.ep x.pms (x.asg.foldl addA { q with n := q.n + 1, ep := x.ep }) (m + 1)
    have e2 := n_foldA x.asg { q with n := q.n + 1, ep := x.ep } (m + 1)
    simp only at e1 e2 ⊢
    rw [e2, e1]
    split
    · rfl
    · split
      · rfl
      · split <;> rfl
theorem sq_step {q q' : HS} (h : Sq q q') (p : PR) : Sq (stepH q p) (stepH q' p) := by
  rw [sq_eq h]
  have e : stepH { q with n := q'.n } p = { stepH q p with n := q'.n + 1 } := n_add _ _ _ _
  rw [e]
  exact ⟨rfl, rfl, rfl, rfl⟩
theorem sq_rej {q : HS} (p : PR) (hc : p.2.r.c ≠ 0) : Sq q (stepH q p) := by
  unfold stepH addR
  rw [if_pos hc]
  exact ⟨rfl, rfl, rfl, rfl⟩
theorem Sq.trans {a b c : HS} (h : Sq a b) (k : Sq b c) : Sq a c := ⟨h.recs.trans k.recs, h.ord.trans k.ord, h.ep.trans k.ep, h.asg.trans k.asg⟩
def accd (ps : List PR) : List PR := ps.filter fun p => decide (p.2.r.c = 0)
theorem sq_fold : ∀ (l : List PR) {q q' : HS}, Sq q q' → Sq ((accd l).foldl stepH q) (l.foldl stepH q')
  | [], q, q', h => h
  | p :: l, q, q', h => by
    unfold accd
    by_cases hc : p.2.r.c = 0
    · rw [List.filter_cons_of_pos (by simpa using hc), List.foldl_cons, List.foldl_cons]
      exact sq_fold l (sq_step h p)
    · rw [List.filter_cons_of_neg (by simpa using hc), List.foldl_cons]
      exact sq_fold l (h.trans (sq_rej p hc))
theorem law_rej (ps : List PR) : Sq (hsOf (accd ps)) (hsOf ps) := sq_fold ps ⟨rfl, rfl, rfl, rfl⟩
/-! ### The order -/
theorem rd_step (i : Int) (p : PR) (r : Rd) : (stepR i p r).rd = (r.rd || qual i p) := by
  cases hq : qual i p
  · rw [rd_none i p hq]; simp
  · unfold qual at hq
    simp only [Bool.and_eq_true, beq_iff_eq, Bool.or_eq_true] at hq
    obtain ⟨⟨hc, hix⟩, hk⟩ := hq
    unfold stepR
    simp only [ne_eq, hc, not_true_eq_false, if_false]
    have hb : ∀ f r', (∀ r, (f r).rd = true) → (onI i p.2.r.ix f r').rd = true := fun f r' hf => by rw [onI, if_pos hix]; exact hf r'
    rw [Bool.or_true]
    split
    · exact hb _ _ (rd_beginR _ _ _)
    · split
      · exact hb _ _ (fun r => rd_beginR _ _ _ _)
      · rw [if_pos (by omega)]; exact hb _ _ (rd_beginR _ _ _)
theorem rd_fold (i : Int) : ∀ (l : List PR) (r : Rd), (l.foldl (fun r p => stepR i p r) r).rd = (r.rd || l.any (qual i))
  | [], r => by simp
  | p :: l, r => by rw [List.foldl_cons, rd_fold i l, rd_step, List.any_cons, Bool.or_assoc]
theorem rd_hsOf (i : Int) (ps : List PR) : (getR i (hsOf ps).recs).rd = ps.any (qual i) := by rw [get_hsOf, rd_fold]; simp [r0]
theorem ord_step (q : HS) (p : PR) : (stepH q p).ord = q.ord ++ (if qual p.2.r.ix p = true ∧ (getR p.2.r.ix q.recs).rd = false then [p.2.r.ix] else []) := by
  unfold stepH addR
  by_cases hc : p.2.r.c = 0
  · simp only [ne_eq, hc, not_true_eq_false, if_false]
    have ho : (p.2.r.pms.foldl (addP p.2.r.ep) (p.2.r.asg.foldl addA { q with n := q.n + 1, ep := p.2.r.ep })).ord = q.ord := by rw [(foldP_keep _ _ _).1, (foldA_keep _ _).1]
    have hr : (getR p.2.r.ix (p.2.r.pms.foldl (addP p.2.r.ep) (p.2.r.asg.foldl addA { q with n := q.n + 1, ep := p.2.r.ep })).recs).rd = (getR p.2.r.ix q.recs).rd := by
      rw [get_foldP, get_foldA]
      have hA : ∀ (l : List Asg) (r : Rd), (l.foldl (fun r y => onI p.2.r.ix y.ix (asgR y) r) r).rd = r.rd := fun l => by
        induction l with
        | nil => exact fun _ => rfl
        | cons y l ih => exact fun r => by rw [List.foldl_cons, ih, rd_on _ _ _ (rd_asgR y)]
      have hP : ∀ (l : List Pm) (r : Rd), (l.foldl (fun r y => onI p.2.r.ix y.ix (payR y p.2.r.ep) r) r).rd = r.rd := fun l => by
        induction l with
        | nil => exact fun _ => rfl
        | cons y l ih => exact fun r => by rw [List.foldl_cons, ih, rd_on _ _ _ (rd_payR y _)]
      rw [hP, hA]
    generalize p.2.r.pms.foldl (addP p.2.r.ep) (p.2.r.asg.foldl addA { q with n := q.n + 1, ep := p.2.r.ep }) = q3 at *
    have hB : ∀ c, (addB c p.2.r q3).ord = q.ord ++ (if (getR p.2.r.ix q.recs).rd = false then [p.2.r.ix] else []) := fun c => by
      unfold addB beginO; simp only; rw [hr, ho]; cases (getR p.2.r.ix q.recs).rd <;> simp
    by_cases k2 : p.1.k = 2
    · rw [if_pos k2, hB]; simp [qual, hc, k2]
    · rw [if_neg k2]
      by_cases k4 : p.1.k = 4
      · rw [if_pos k4]
        have hrs : (getR p.2.r.ix (addS p.2.r q3).recs).rd = (getR p.2.r.ix q.recs).rd := by unfold addS; simp only; rw [getR_set, if_pos rfl, rd_slashR, hr]
        have hos : (addS p.2.r q3).ord = q.ord := ho
        unfold addB beginO; simp only; rw [hrs, hos]; cases (getR p.2.r.ix q.recs).rd <;> simp [qual, hc, k4]
      · rw [if_neg k4]
        by_cases k3 : p.1.k = 3
        · rw [if_pos k3, hB]; simp [qual, hc, k3]
        · rw [if_neg k3, ho]; simp [qual, hc, k2, k3, k4]
  · simp [hc, qual]
def ordL (ps : List PR) : List PR → Nat → List Int
  | [], _ => []
  | p :: r, k => (if idxP (qual p.2.r.ix) ps 0 = (k : Int) then [p.2.r.ix] else []) ++ ordL ps r (k + 1)
theorem idxP_append {α : Type} (f : α → Bool) (l : List α) (p : α) (r : List α) (h : l.any f = false) (hp : f p = true) (k : Nat) : idxP f (l ++ p :: r) k = ((k + l.length : Nat) : Int) := by
  induction l generalizing k with
  | nil => simp [idxP, hp]
  | cons x l ih =>
    simp only [List.any_cons, Bool.or_eq_false_iff] at h
    simp only [List.cons_append, idxP, h.1, Bool.false_eq_true, if_false]
    rw [ih h.2, List.length_cons]; congr 1; omega
theorem idxP_ne {α : Type} (f : α → Bool) (l : List α) (p : α) (r : List α) (h : l.any f = true ∨ f p = false) (k : Nat) : idxP f (l ++ p :: r) k ≠ ((k + l.length : Nat) : Int) := by
  induction l generalizing k with
  | nil =>
    rcases h with h | h
    · simp at h
    · simp only [List.nil_append, idxP, h, Bool.false_eq_true, if_false, List.length_nil, Nat.add_zero]
      rcases idxP_spec f r (k + 1) with ⟨h1, _⟩ | ⟨i, x, _, h1, _⟩ <;> rw [h1] <;> omega
  | cons x l ih =>
    simp only [List.cons_append, idxP]
    cases hx : f x
    · simp only [Bool.false_eq_true, if_false]
      have := ih (by rcases h with h | h; (· left; simpa [hx] using h); right; exact h) (k + 1)
      rw [List.length_cons, show k + (l.length + 1) = k + 1 + l.length by omega]; exact this
    · simp only [if_true, List.length_cons]; omega
theorem ord_fold (ps : List PR) : ∀ (r l : List PR), ps = l ++ r → (r.foldl stepH (hsOf l)).ord = (hsOf l).ord ++ ordL ps r l.length
  | [], l, _ => by simp [ordL]
  | p :: r, l, h => by
    have e : stepH (hsOf l) p = hsOf (l ++ [p]) := by rw [hsOf, hsOf, List.foldl_append]; rfl
    rw [List.foldl_cons, e, ord_fold ps r (l ++ [p]) (by simp [h]), ← e, ord_step, ordL, rd_hsOf, List.length_append, List.append_assoc]
    congr 2
    by_cases hq : qual p.2.r.ix p = true ∧ l.any (qual p.2.r.ix) = false
    · rw [if_pos hq, h, idxP_append _ _ _ _ hq.2 hq.1]; simp
    · rw [if_neg hq, if_neg]
      rw [h]
      have := idxP_ne (qual p.2.r.ix) l p r (by cases h1 : l.any (qual p.2.r.ix) <;> cases h2 : qual p.2.r.ix p <;> simp_all) 0
      simpa using this
theorem law_ord (ps : List PR) : (hsOf ps).ord = ordL ps ps 0 := by
  have := ord_fold ps ps [] rfl
  simpa [hsOf, h0] using this
theorem ord_nodup : ∀ (l : List PR), (hsOf l).ord.Nodup ∧ (∀ i ∈ (hsOf l).ord, (getR i (hsOf l).recs).rd = true) ∧ (hsOf l).ord.length ≤ l.length := by
  have key : ∀ (r l : List PR), ((hsOf l).ord.Nodup ∧ (∀ i ∈ (hsOf l).ord, (getR i (hsOf l).recs).rd = true) ∧ (hsOf l).ord.length ≤ l.length) → ((hsOf (l ++ r)).ord.Nodup ∧ (∀ i ∈ (hsOf (l ++ r)).ord, (getR i (hsOf (l ++ r)).recs).rd = true) ∧ (hsOf (l ++ r)).ord.length ≤ (l ++ r).length) := by
    intro r
    induction r with
    | nil => intro l h; simpa using h
    | cons p r ih =>
      intro l ⟨h1, h2, h3⟩
      have e : hsOf (l ++ [p]) = stepH (hsOf l) p := by rw [hsOf, hsOf, List.foldl_append]; rfl
      have := ih (l ++ [p]) (by
        rw [e, ord_step]
        refine ⟨?_, ?_, ?_⟩
        · split
          · rename_i hq
            rw [List.nodup_append]
            refine ⟨h1, by simp, ?_⟩
            intro a ha b hb he
            subst he
            rw [List.mem_singleton.1 hb, ] at ha
            have := h2 _ ha
            rw [hq.2] at this; cases this
          · simpa using h1
        · intro i hi
          rw [get_step, rd_step]
          rcases List.mem_append.1 hi with hi | hi
          · rw [h2 i hi]; rfl
          · split at hi
            · rename_i hq
              rw [List.mem_singleton.1 hi, hq.1, Bool.or_true]
            · simp at hi
        · rw [List.length_append, List.length_append]
          split <;> simp <;> omega)
      simpa using this
  intro l
  simpa using key l [] ⟨by simp [hsOf, h0], by intro i hi; simp [hsOf, h0] at hi, by simp [hsOf, h0]⟩
end Go.Proofs.Ytdlihlfknedpfaa
