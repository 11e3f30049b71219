/- History: Exit is that of the reference. -/
import Derived.Test.YtdlihlfknedpfaaHistI
namespace Go.Proofs.Ytdlihlfknedpfaa
open Go.RowKit
set_option linter.unusedVariables false
set_option maxRecDepth 100000
set_option linter.unusedSimpArgs false
set_option maxHeartbeats 1000000
def onI (i j : Int) (f : Rd → Rd) (r : Rd) : Rd := if j = i then f r else r
def stepR (i : Int) (p : PR) (r : Rd) : Rd :=
  if p.2.r.c ≠ 0 then r
  else
    let r3 := p.2.r.pms.foldl (fun r y => onI i y.ix (payR y p.2.r.ep) r) (p.2.r.asg.foldl (fun r y => onI i y.ix (asgR y) r) r)
    if p.1.k = 2 then onI i p.2.r.ix (beginR 1 p.2.r.ep p.2.r.dl) r3
    else if p.1.k = 4 then onI i p.2.r.ix (fun r => beginR 0 p.2.r.ep p.2.r.dl (slashR p.2.r.ep r)) r3
    else if p.1.k = 3 then onI i p.2.r.ix (beginR 0 p.2.r.ep p.2.r.dl) r3 else r3
theorem get_on (i j : Int) (f : Rd → Rd) (l : List (Int × Rd)) : getR i (setR j (f (getR j l)) l) = onI i j f (getR i l) := by
  rw [getR_set, onI]
  by_cases h : j = i
  · subst h; simp
  · simp [h]
theorem get_foldA (i : Int) : ∀ (l : List Asg) (q : HS), getR i (l.foldl addA q).recs = l.foldl (fun r y => onI i y.ix (asgR y) r) (getR i q.recs)
  | [], q => rfl
  | y :: l, q => by rw [List.foldl_cons, List.foldl_cons, get_foldA i l, addA]; simp only; rw [get_on i y.ix (asgR y)]
theorem get_foldP (i e : Int) : ∀ (l : List Pm) (q : HS), getR i (l.foldl (addP e) q).recs = l.foldl (fun r y => onI i y.ix (payR y e) r) (getR i q.recs)
  | [], q => rfl
  | y :: l, q => by rw [List.foldl_cons, List.foldl_cons, get_foldP i e l, addP]; simp only; rw [get_on i y.ix (payR y e)]
theorem get_step (i : Int) (q : HS) (p : PR) : getR i (stepH q p).recs = stepR i p (getR i q.recs) := by
  unfold stepH addR stepR
  split
  · rfl
  · simp only
    split
    · rw [addB]; simp only; rw [get_on i p.2.r.ix (beginR 1 p.2.r.ep p.2.r.dl), get_foldP, get_foldA]
    · split
      · rw [addB, addS]; simp only
        rw [get_on i p.2.r.ix (beginR 0 p.2.r.ep p.2.r.dl), get_on i p.2.r.ix (slashR p.2.r.ep), get_foldP, get_foldA]
        unfold onI; split <;> rfl
      · split
        · rw [addB]; simp only; rw [get_on i p.2.r.ix (beginR 0 p.2.r.ep p.2.r.dl), get_foldP, get_foldA]
        · rw [get_foldP, get_foldA]
theorem get_hs (i : Int) : ∀ (l : List PR) (q : HS), getR i (l.foldl stepH q).recs = l.foldl (fun r p => stepR i p r) (getR i q.recs)
  | [], q => rfl
  | p :: l, q => by rw [List.foldl_cons, List.foldl_cons, get_hs i l, get_step]
/-- All but the slashing. -/
structure Rl (late : Bool) (r : Rd) (s : OS) : Prop where
  rd : r.rd = late
  fa : r.asd = s.fa
  asg : r.ex.asg = s.ex.asg
  fp : r.fu = s.fp
  pd : r.ex.pd = s.ex.pd
  am : r.ex.am = s.ex.am
  cl : late = true → r.ex.cl = s.ex.cl ∧ r.ex.rq = s.ex.rq ∧ r.ex.dl = s.ex.dl
/-- The slashing, and what is fixed. -/
structure Sm (r r' : Rd) (s s' : OS) : Prop where
  sld : r'.sld = r.sld
  sl : r'.ex.sl = r.ex.sl
  fs : s'.fs = s.fs
  ss : s'.ex.sl = s.ex.sl
  cl : s'.ex.cl = s.ex.cl
  rq : s'.ex.rq = s.ex.rq
  dl : s'.ex.dl = s.ex.dl
theorem Sm.refl (r : Rd) (s : OS) : Sm r r s s := ⟨rfl, rfl, rfl, rfl, rfl, rfl, rfl⟩
theorem Sm.trans {r r1 r2 : Rd} {s s1 s2 : OS} (h : Sm r r1 s s1) (k : Sm r1 r2 s1 s2) : Sm r r2 s s2 := ⟨k.sld.trans h.sld, k.sl.trans h.sl, k.fs.trans h.fs, k.ss.trans h.ss, k.cl.trans h.cl, k.rq.trans h.rq, k.dl.trans h.dl⟩
theorem rl_asg (i : Int) (late : Bool) (y : Asg) {r : Rd} {s : OS} (h : Rl late r s) : Rl late (onI i y.ix (asgR y) r) (ofA i late s y) ∧ Sm r (onI i y.ix (asgR y) r) s (ofA i late s y) := by
  obtain ⟨⟨a1, a2, a3, a4, a5, a6, a7⟩, b1, b2, b3, b4, b5⟩ := r
  obtain ⟨⟨c1, c2, c3, c4, c5, c6, c7⟩, d1, d2, d3⟩ := s
  obtain ⟨h1, h2, h3, h4, h5, h6, h7⟩ := h
  simp only at h1 h2 h3 h4 h5 h6 h7
  subst h1 h2 h3 h4 h5 h6
  unfold onI asgR ofA
  by_cases hy : y.ix = i
  · cases b1 <;> cases b3 <;> simp_all <;> exact ⟨⟨rfl, rfl, rfl, rfl, rfl, rfl, by simp_all⟩, ⟨rfl, rfl, rfl, rfl, rfl, rfl, rfl⟩⟩
  · simp_all; exact ⟨⟨rfl, rfl, rfl, rfl, rfl, rfl, by simp_all⟩, ⟨rfl, rfl, rfl, rfl, rfl, rfl, rfl⟩⟩
theorem rl_pay (i e : Int) (late : Bool) (y : Pm) {r : Rd} {s : OS} (h : Rl late r s) : Rl late (onI i y.ix (payR y e) r) (ofP i e s y) ∧ Sm r (onI i y.ix (payR y e) r) s (ofP i e s y) := by
  obtain ⟨⟨a1, a2, a3, a4, a5, a6, a7⟩, b1, b2, b3, b4, b5⟩ := r
  obtain ⟨⟨c1, c2, c3, c4, c5, c6, c7⟩, d1, d2, d3⟩ := s
  obtain ⟨h1, h2, h3, h4, h5, h6, h7⟩ := h
  simp only at h1 h2 h3 h4 h5 h6 h7
  subst h1 h2 h3 h4 h5 h6
  obtain ⟨yi, ya, yf⟩ := y
  unfold onI payR ofP
  by_cases hy : yi = i
  · cases yf <;> cases b5 <;> simp_all <;> exact ⟨⟨rfl, rfl, rfl, rfl, rfl, rfl, by simp_all⟩, ⟨rfl, rfl, rfl, rfl, rfl, rfl, rfl⟩⟩
  · simp_all; exact ⟨⟨rfl, rfl, rfl, rfl, rfl, rfl, by simp_all⟩, ⟨rfl, rfl, rfl, rfl, rfl, rfl, rfl⟩⟩
theorem rl_foldA (i : Int) (late : Bool) : ∀ (l : List Asg) {r : Rd} {s : OS}, Rl late r s → Rl late (l.foldl (fun r y => onI i y.ix (asgR y) r) r) (l.foldl (ofA i late) s) ∧ Sm r (l.foldl (fun r y => onI i y.ix (asgR y) r) r) s (l.foldl (ofA i late) s)
  | [], r, s, h => ⟨h, Sm.refl r s⟩
  | y :: l, r, s, h => by
    obtain ⟨h1, h2⟩ := rl_asg i late y h
    obtain ⟨h3, h4⟩ := rl_foldA i late l h1
    exact ⟨h3, h2.trans h4⟩
theorem rl_foldP (i e : Int) (late : Bool) : ∀ (l : List Pm) {r : Rd} {s : OS}, Rl late r s → Rl late (l.foldl (fun r y => onI i y.ix (payR y e) r) r) (l.foldl (ofP i e) s) ∧ Sm r (l.foldl (fun r y => onI i y.ix (payR y e) r) r) s (l.foldl (ofP i e) s)
  | [], r, s, h => ⟨h, Sm.refl r s⟩
  | y :: l, r, s, h => by
    obtain ⟨h1, h2⟩ := rl_pay i e late y h
    obtain ⟨h3, h4⟩ := rl_foldP i e late l h1
    exact ⟨h3, h2.trans h4⟩
/-- A step before the exit, at it, behind it. -/
structure Iv (late : Bool) (c0 : Ex) (r : Rd) (s : OS) : Prop where
  rl : Rl late r s
  sld : r.sld = s.fs
  sl : r.ex.sl = s.ex.sl
  cl : s.ex.cl = c0.cl ∧ s.ex.rq = c0.rq ∧ s.ex.dl = c0.dl
theorem iv_step (i a : Int) (k : Nat) (p p0 : PR) {r : Rd} {s : OS} {late : Bool} (hl : late = decide (a < (k : Int))) (h : Iv late (ofI p0).ex r s) (hq : (late = true ∧ a < (k : Int)) ∨ (late = false ∧ qual i p = false ∧ (k : Int) < a) ∨ (late = false ∧ qual i p = true ∧ p = p0 ∧ (k : Int) = a)) :
    Iv (decide (a < ((k + 1 : Nat) : Int))) (ofI p0).ex (stepR i p r) (ofS i a k s p) := by
  unfold stepR ofS
  by_cases hc : p.2.r.c = 0
  · simp only [ne_eq, hc, not_true_eq_false, if_false]
    rw [← hl]
    have hlk : decide (a < ((k + 1 : Nat) : Int)) = decide (a ≤ (k : Int)) := by rw [decide_eq_decide]; omega
    have hlq : (decide (a ≤ (k : Int)) = true ∧ late = true) ∨ (decide (a ≤ (k : Int)) = false ∧ late = false ∧ qual i p = false) ∨ (decide (a ≤ (k : Int)) = true ∧ late = false ∧ qual i p = true ∧ p = p0) := by
      rcases hq with ⟨q1, q2⟩ | ⟨q1, q2, q3⟩ | ⟨q1, q2, q3, q4⟩
      · exact .inl ⟨by simp; omega, q1⟩
      · exact .inr (.inl ⟨by simp; omega, q1, q2⟩)
      · exact .inr (.inr ⟨by simp; omega, q1, q2, q3⟩)
    have hs1 : Rl late r (ofSl i p s) := by
      obtain ⟨h1, h2, h3, h4, h5, h6, h7⟩ := h.rl
      unfold ofSl; split <;> exact ⟨h1, h2, h3, h4, h5, h6, h7⟩
    obtain ⟨h2, m2⟩ := rl_foldA i late p.2.r.asg hs1
    obtain ⟨h3, m3⟩ := rl_foldP i p.2.r.ep late p.2.r.pms h2
    have m := m2.trans m3
    generalize p.2.r.pms.foldl (fun r y => onI i y.ix (payR y p.2.r.ep) r) (p.2.r.asg.foldl (fun r y => onI i y.ix (asgR y) r) r) = r3 at *
    generalize p.2.r.pms.foldl (ofP i p.2.r.ep) (p.2.r.asg.foldl (ofA i late) (ofSl i p s)) = s3 at *
    clear h2 m2 m3 hs1
    obtain ⟨hsld, hsl, hcl⟩ := (⟨h.sld, h.sl, h.cl⟩ : _ ∧ _ ∧ _)
    obtain ⟨g1, g2, g3, g4, g5, g6, g7⟩ := h3
    obtain ⟨e1, e2, e3, e4, e5, e6, e7⟩ := m
    obtain ⟨⟨a1, a2, a3, a4, a5, a6, a7⟩, b1, b2, b3, b4, b5⟩ := r3
    obtain ⟨⟨c1, c2, c3, c4, c5, c6, c7⟩, d1, d2, d3⟩ := s3
    simp only at g1 g2 g3 g4 g5 g6 g7 e1 e2 e3 e4 e5 e6 e7
    subst g1 g2 g3 g4 g5 g6
    unfold ofSl at e3 e4 e5 e6 e7
    unfold qual at hq
    rw [hlk]
    clear hq hlk hl
    generalize decide (a ≤ (k : Int)) = late' at *
    obtain ⟨r1, r2⟩ : ∃ z, r.ex.sl = z := ⟨_, rfl⟩
    unfold qual at hlq
    obtain ⟨⟨s1, s2, s3, s4, s5, s6, s7⟩, t1, t2, t3⟩ := s
    simp only at hsld hsl hcl e1 e2 e3 e4 e5 e6 e7
    rw [hsld] at e1
    rw [hsl] at e2
    obtain ⟨hcl1, hcl2, hcl3⟩ := hcl
    subst e1 e2
    clear hsld hsl h r1 r2
    by_cases hix : p.2.r.ix = i
    · by_cases k2 : p.1.k = 2
      · simp [hix, k2, hc] at hlq e3 e4 e5 e6 e7 ⊢
        rcases hlq with ⟨rfl, rfl⟩ | ⟨rfl, rfl, rfl⟩
        · obtain ⟨rfl, rfl, rfl⟩ := g7 rfl
          subst e3 e4 e5 e6 e7
          simp only [onI, if_true, beginR]
          exact ⟨⟨rfl, rfl, rfl, rfl, rfl, rfl, fun _ => ⟨rfl, rfl, rfl⟩⟩, rfl, rfl, hcl1, hcl2, hcl3⟩
        · subst e3 e4 e5 e6 e7
          simp only [onI, if_true, beginR, Bool.false_eq_true, if_false]
          refine ⟨⟨rfl, rfl, rfl, rfl, rfl, rfl, fun _ => ?_⟩, rfl, rfl, hcl1, hcl2, hcl3⟩
          simp only [ofI, k2, if_true] at hcl1 hcl2 hcl3
          exact ⟨hcl1.symm, hcl2.symm, hcl3.symm⟩
      · by_cases k4 : p.1.k = 4
        · simp [hix, k4, hc] at hlq e3 e4 e5 e6 e7 ⊢
          rcases hlq with ⟨rfl, rfl⟩ | ⟨rfl, rfl, rfl⟩
          · obtain ⟨rfl, rfl, rfl⟩ := g7 rfl
            cases b4 <;> simp at e3 e4 e5 e6 e7 <;> subst e3 e4 e5 e6 e7 <;> simp only [onI, if_true, beginR, slashR, Bool.false_eq_true, if_false] <;>
            exact ⟨⟨rfl, rfl, rfl, rfl, rfl, rfl, fun _ => ⟨rfl, rfl, rfl⟩⟩, rfl, rfl, hcl1, hcl2, hcl3⟩
          · simp only [ofI, k2, if_false] at hcl1 hcl2 hcl3
            cases b4 <;> simp at e3 e4 e5 e6 e7 <;> subst e3 e4 e5 e6 e7 <;> simp only [onI, if_true, beginR, slashR, Bool.false_eq_true, if_false] <;>
            exact ⟨⟨rfl, rfl, rfl, rfl, rfl, rfl, fun _ => ⟨hcl1.symm, hcl2.symm, hcl3.symm⟩⟩, rfl, rfl, by simp [ofI, k2, hcl1], hcl2, hcl3⟩
        · by_cases k3 : p.1.k = 3
          · simp [hix, k3, hc] at hlq e3 e4 e5 e6 e7 ⊢
            subst e3 e4 e5 e6 e7
            rcases hlq with ⟨rfl, rfl⟩ | ⟨rfl, rfl, rfl⟩
            · obtain ⟨rfl, rfl, rfl⟩ := g7 rfl
              simp only [onI, if_true, beginR]
              exact ⟨⟨rfl, rfl, rfl, rfl, rfl, rfl, fun _ => ⟨rfl, rfl, rfl⟩⟩, rfl, rfl, hcl1, hcl2, hcl3⟩
            · simp only [ofI, k2, if_false] at hcl1 hcl2 hcl3
              simp only [onI, if_true, beginR, Bool.false_eq_true, if_false]
              exact ⟨⟨rfl, rfl, rfl, rfl, rfl, rfl, fun _ => ⟨hcl1.symm, hcl2.symm, hcl3.symm⟩⟩, rfl, rfl, by simp [ofI, k2, hcl1], hcl2, hcl3⟩
          · simp [hix, k2, k3, k4, hc] at hlq e3 e4 e5 e6 e7 ⊢
            subst e3 e4 e5 e6 e7
            rcases hlq with ⟨rfl, rfl⟩ | ⟨rfl, rfl⟩
            · exact ⟨⟨rfl, rfl, rfl, rfl, rfl, rfl, g7⟩, rfl, rfl, hcl1, hcl2, hcl3⟩
            · exact ⟨⟨rfl, rfl, rfl, rfl, rfl, rfl, g7⟩, rfl, rfl, hcl1, hcl2, hcl3⟩
    · have hq0 : (p.2.r.c == 0 && p.2.r.ix == i && (p.1.k == 2 || p.1.k == 3 || p.1.k == 4)) = false := by simp [hix]
      rw [hq0] at hlq
      simp [hix] at hlq e3 e4 e5 e6 e7
      subst e3 e4 e5 e6 e7
      have hl' : late' = b1 := by rcases hlq with ⟨h1, h2⟩ | ⟨h1, h2⟩ <;> rw [h1, h2]
      subst hl'
      simp only [onI, hix, if_false, ite_self]
      exact ⟨⟨rfl, rfl, rfl, rfl, rfl, rfl, g7⟩, rfl, rfl, hcl1, hcl2, hcl3⟩
  · simp only [ne_eq, hc, not_false_eq_true, if_true]
    have : (decide (a < ((k + 1 : Nat) : Int))) = late := by
      rw [hl, decide_eq_decide]
      rcases hq with ⟨_, h1⟩ | ⟨_, _, h1⟩ | ⟨_, h1, _⟩
      · omega
      · omega
      · unfold qual at h1; simp_all
    rw [this]; exact h
theorem iv_run (i a : Int) (p0 : PR) : ∀ (l : List PR) (k : Nat) (r : Rd) (s : OS), Iv (decide (a < (k : Int))) (ofI p0).ex r s → (∀ j p, l[j]? = some p → (((k + j : Nat) : Int) < a → qual i p = false) ∧ (((k + j : Nat) : Int) = a → qual i p = true ∧ p = p0)) → Iv (decide (a < ((k + l.length : Nat) : Int))) (ofI p0).ex (l.foldl (fun r p => stepR i p r) r) (ofL i a l k s)
  | [], k, r, s, h, _ => h
  | p :: l, k, r, s, h, hp => by
    have h0 := hp 0 p rfl
    rw [Nat.add_zero] at h0
    have h1 := iv_step i a k p p0 rfl h (by
      by_cases c1 : a < (k : Int)
      · exact .inl ⟨by simpa using c1, c1⟩
      · by_cases c2 : (k : Int) < a
        · exact .inr (.inl ⟨by simpa using c1, h0.1 c2, c2⟩)
        · exact .inr (.inr ⟨by simpa using c1, (h0.2 (by omega)).1, (h0.2 (by omega)).2, by omega⟩))
    have h2 := iv_run i a p0 l (k + 1) _ _ h1 (fun j q hq => by
      have := hp (j + 1) q (by simpa using hq)
      rwa [show k + (j + 1) = k + 1 + j by omega] at this)
    rw [List.foldl_cons, ofL, List.length_cons, show k + (l.length + 1) = k + 1 + l.length by omega]
    exact h2
theorem rd_on (i j : Int) (f : Rd → Rd) (hf : ∀ r, (f r).rd = r.rd) (r : Rd) : (onI i j f r).rd = r.rd := by unfold onI; split; (· exact hf r); rfl
theorem rd_none (i : Int) (p : PR) (h : qual i p = false) (r : Rd) : (stepR i p r).rd = r.rd := by
  have hA : ∀ (l : List Asg) (r : Rd), (l.foldl (fun r y => onI i y.ix (asgR y) r) r).rd = r.rd := fun l => by
    induction l with
    | nil => exact fun _ => rfl
    | cons y l ih => exact fun r => by rw [List.foldl_cons, ih, rd_on _ _ _ (rd_asgR y)]
  have hP : ∀ (l : List Pm) (r : Rd), (l.foldl (fun r y => onI i y.ix (payR y p.2.r.ep) r) r).rd = r.rd := fun l => by
    induction l with
    | nil => exact fun _ => rfl
    | cons y l ih => exact fun r => by rw [List.foldl_cons, ih, rd_on _ _ _ (rd_payR y _)]
  unfold stepR
  split
  · rfl
  · rename_i hc
    unfold qual at h
    simp only
    by_cases hix : p.2.r.ix = i
    · simp at hc
      simp [hc, hix] at h
      obtain ⟨⟨h1, h2⟩, h3⟩ := h
      rw [if_neg h1, if_neg h3, if_neg h2, hP, hA]
    · have e : ∀ f r', onI i p.2.r.ix f r' = r' := fun f r' => by rw [onI, if_neg hix]
      simp only [e]
      split
      · rw [hP, hA]
      · split
        · rw [hP, hA]
        · split <;> rw [hP, hA]
theorem rd_nones (i : Int) : ∀ (l : List PR) (r : Rd), (∀ p ∈ l, qual i p = false) → (l.foldl (fun r p => stepR i p r) r).rd = r.rd
  | [], r, _ => rfl
  | p :: l, r, h => by rw [List.foldl_cons, rd_nones i l _ (fun q hq => h q (by simp [hq])), rd_none i p (h p (by simp))]
theorem get_hsOf (i : Int) (ps : List PR) : getR i (hsOf ps).recs = ps.foldl (fun r p => stepR i p r) r0 := by rw [hsOf, get_hs]; rfl
theorem law_exits (ps : List PR) (i : Int) : refOf ps i = (exOf (hsOf ps) i, (getR i (hsOf ps).recs).rd) := by
  rw [exOf, get_hsOf]
  rcases idxP_spec (qual i) ps 0 with ⟨z1, z2⟩ | ⟨a0, p0, z1, z2, z3, z4⟩
  · have hr := rd_nones i ps r0 z2
    rw [hr]
    unfold refOf; rw [z1]; split <;> rfl
  · rw [Nat.zero_add] at z2
    have hR : refOf ps i = ((ofL i a0 ps 0 (ofI p0)).ex, true) := by
      unfold refOf; rw [z2, Int.toNat_natCast, z1]; simp
    have ha0 : a0 < ps.length := (List.getElem?_eq_some_iff.1 z1).1
    have hi : Iv (decide ((a0 : Int) < ((0 : Nat) : Int))) (ofI p0).ex r0 (ofI p0) := by
      have : decide ((a0 : Int) < ((0 : Nat) : Int)) = false := by simp
      rw [this]
      exact ⟨⟨rfl, rfl, rfl, rfl, rfl, rfl, fun h => by cases h⟩, rfl, rfl, rfl, rfl, rfl⟩
    have h := iv_run i a0 p0 ps 0 r0 (ofI p0) hi (fun j p hp => ⟨fun hj => z3 p (by
        rw [List.mem_iff_getElem?]
        exact ⟨j, by rw [List.getElem?_take, if_pos (by omega)]; exact hp⟩), fun hj => by
        obtain rfl : j = a0 := by omega
        rw [z1] at hp
        obtain rfl := Option.some.inj hp
        exact ⟨z4, rfl⟩⟩)
    have hd : decide ((a0 : Int) < ((0 + ps.length : Nat) : Int)) = true := by simp; omega
    rw [hd] at h
    obtain ⟨⟨h1, h2, h3, h4, h5, h6, h7⟩, h8, h9, h10⟩ := h
    rw [hR, h1, if_pos rfl]
    obtain ⟨k1, k2, k3⟩ := h7 rfl
    congr 1
    generalize ps.foldl (fun r p => stepR i p r) r0 = r at *
    generalize ofL i a0 ps 0 (ofI p0) = s at *
    obtain ⟨⟨a1, a2, a3, a4, a5, a6, a7⟩, b1, b2, b3, b4, b5⟩ := r
    obtain ⟨⟨c1, c2, c3, c4, c5, c6, c7⟩, d1, d2, d3⟩ := s
    simp_all
end Go.Proofs.Ytdlihlfknedpfaa
