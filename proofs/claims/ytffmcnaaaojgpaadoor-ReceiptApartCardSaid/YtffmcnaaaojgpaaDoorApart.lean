/- Receipts: lines of ticks that are equal come from equal ticks. -/
import Derived.Test.YtffmcnaaaojgpaaDoorRcpF
namespace Go.Proofs.YtffmcnaaaojgpaaDoor
open Go.RowKit
set_option linter.unusedVariables false
set_option maxRecDepth 100000
set_option linter.unusedSimpArgs false
def isNum (c : UInt8) : Bool := c == 45 || (Nat.ble 48 c.toNat && Nat.ble c.toNat 57)
def nonNum : List UInt8 → Bool
  | [] => true
  | c :: _ => !isNum c
theorem num_split : ∀ {p q r s : List UInt8}, p.all isNum = true → q.all isNum = true → nonNum r = true → nonNum s = true → p ++ r = q ++ s → p = q ∧ r = s
  | [], [], r, s, _, _, _, _, h => ⟨rfl, h⟩
  | [], c :: q, r, s, _, hq, hr, _, h => by
    simp at h; subst h
    simp [nonNum] at hr
    simp at hq
    rw [hr] at hq
    cases hq.1
  | c :: p, [], r, s, hp, _, _, hs, h => by
    simp at h; subst h
    simp [nonNum] at hs
    simp at hp
    rw [hs] at hp
    cases hp.1
  | c :: p, d :: q, r, s, hp, hq, hr, hs, h => by
    simp only [List.cons_append, List.cons.injEq] at h
    simp only [List.all_cons, Bool.and_eq_true] at hp hq
    obtain ⟨h1, h2⟩ := num_split hp.2 hq.2 hr hs h.2
    exact ⟨by rw [h.1, h1], h2⟩
def decVal (l : List UInt8) : Nat := l.foldl (fun a c => a * 10 + (c.toNat - 48)) 0
theorem decVal_dec (u : Nat) : decVal (Lib.decDigits u) = u := by
  induction u using Nat.strongRecOn with
  | _ u ih =>
    rw [Lib.decDigits]
    split
    · rename_i h
      simp [decVal]; omega
    · rename_i h
      have := ih (u / 10) (by omega)
      unfold decVal at this ⊢
      rw [List.foldl_append, this]
      simp; omega
theorem dec_num (u : Nat) : (Lib.decDigits u).all isNum = true ∧ ∃ c r, Lib.decDigits u = c :: r ∧ c ≠ 45 := by
  induction u using Nat.strongRecOn with
  | _ u ih =>
    have key : ∀ d, d < 10 → isNum (UInt8.ofNat (48 + d)) = true ∧ UInt8.ofNat (48 + d) ≠ 45 := by decide
    rw [Lib.decDigits]
    split
    · rename_i h
      exact ⟨by simp only [List.all_cons, List.all_nil, Bool.and_true]; exact (key u h).1, _, _, rfl, (key u h).2⟩
    · rename_i h
      obtain ⟨h1, c, r, h2, h3⟩ := ih (u / 10) (by omega)
      refine ⟨?_, c, r ++ [UInt8.ofNat (48 + u % 10)], by rw [h2]; rfl, h3⟩
      rw [List.all_append, h1]
      simp only [List.all_cons, List.all_nil, Bool.and_true, Bool.true_and]
      exact (key (u % 10) (by omega)).1
theorem dec_inj {u v : Nat} (h : Lib.decDigits u = Lib.decDigits v) : u = v := by rw [← decVal_dec u, h, decVal_dec v]
theorem itoa_num (m : Int) : (Lib.itoa m).all isNum = true := by
  unfold Lib.itoa
  split
  · rw [List.all_cons, (dec_num _).1]; rfl
  · exact (dec_num _).1
theorem itoa_inj {m n : Int} (h : Lib.itoa m = Lib.itoa n) : m = n := by
  unfold Lib.itoa at h
  split at h <;> split at h
  · rename_i h1 h2
    simp only [List.cons.injEq, true_and] at h
    have := dec_inj h; omega
  · obtain ⟨_, c, r, e, hc⟩ := dec_num n.toNat
    rw [e] at h; simp at h; exact absurd h.1.symm hc
  · obtain ⟨_, c, r, e, hc⟩ := dec_num m.toNat
    rw [e] at h; simp at h; exact absurd h.1 hc
  · have := dec_inj h; omega
theorem itoa_split {m n : Int} {r s : List UInt8} (hr : nonNum r = true) (hs : nonNum s = true) (h : Lib.itoa m ++ r = Lib.itoa n ++ s) : m = n ∧ r = s := by
  obtain ⟨h1, h2⟩ := num_split (itoa_num m) (itoa_num n) hr hs h
  exact ⟨itoa_inj h1, h2⟩
theorem dec_split {m n : Nat} {r s : List UInt8} (hr : nonNum r = true) (hs : nonNum s = true) (h : Lib.decDigits m ++ r = Lib.decDigits n ++ s) : m = n ∧ r = s := by
  obtain ⟨h1, h2⟩ := num_split (dec_num m).1 (dec_num n).1 hr hs h
  exact ⟨dec_inj h1, h2⟩
theorem flatP_non (ps : List Pm) : nonNum (ps.flatMap fmtP) = true := by
  cases ps
  · rfl
  · simp only [List.flatMap_cons, fmtP, List.cons_append, List.nil_append, List.append_assoc]; rfl
theorem flatA_non (xs : List Asg) (r : List UInt8) (hr : nonNum r = true) : nonNum (xs.flatMap fmtA ++ r) = true := by
  cases xs
  · exact hr
  · simp only [List.flatMap_cons, fmtA, List.cons_append, List.nil_append, List.append_assoc]; rfl
theorem flP (b c : Bool) (r s : List Pm) (h : (if b then [33] else []) ++ r.flatMap fmtP = (if c then [33] else []) ++ s.flatMap fmtP) : b = c ∧ r.flatMap fmtP = s.flatMap fmtP := by
  cases b <;> cases c
  · exact ⟨rfl, by simpa using h⟩
  · cases r <;> simp [fmtP] at h
  · cases s <;> simp [fmtP] at h
  · exact ⟨rfl, by simpa using h⟩
theorem pms_inj : ∀ (ps qs : List Pm), (∀ y ∈ ps, 0 ≤ y.am) → (∀ y ∈ qs, 0 ≤ y.am) → ps.flatMap fmtP = qs.flatMap fmtP → ps = qs
  | [], [], _, _, _ => rfl
  | [], y :: q, _, _, h => by simp [fmtP] at h
  | x :: p, [], _, _, h => by simp [fmtP] at h
  | x :: p, y :: q, hp, hq, h => by
    obtain ⟨xi, xa, xf⟩ := x
    obtain ⟨yi, ya, yf⟩ := y
    have h1 : 0 ≤ xa := hp ⟨xi, xa, xf⟩ (by simp)
    have h2 : 0 ≤ ya := hq ⟨yi, ya, yf⟩ (by simp)
    simp only [List.flatMap_cons, fmtP, List.append_assoc, List.cons_append, List.nil_append, List.cons.injEq, true_and] at h
    obtain ⟨e1, h⟩ := itoa_split (by rfl) (by rfl) h
    simp only [List.cons.injEq, true_and] at h
    have nn : ∀ (b : Bool) (r : List Pm), nonNum ((if b then [33] else []) ++ r.flatMap fmtP) = true := fun b r => by
      cases b
      · simpa using flatP_non r
      · rfl
    obtain ⟨e, h⟩ := dec_split (nn _ _) (nn _ _) h
    obtain ⟨e2, h⟩ := flP _ _ _ _ h
    rw [e1, e2, pms_inj p q (fun y hy => hp y (by simp [hy])) (fun y hy => hq y (by simp [hy])) h, show xa = ya by omega]
theorem clsOf {a b : Int} (ha : a = 0 ∨ a = 1) (hb : b = 0 ∨ b = 1) (r s : List UInt8) (h : (if a = 0 then [102] else [118]) ++ 64 :: r = (if b = 0 then [102] else [118]) ++ 64 :: s) : a = b ∧ r = s := by
  rcases ha with rfl | rfl <;> rcases hb with rfl | rfl <;> simp_all
theorem cls_non (a : Int) (r : List UInt8) : nonNum ((if a = 0 then [102] else [118]) ++ r) = true ∧ ∃ c t, (if a = 0 then [102] else [118]) ++ r = c :: t ∧ c ≠ 43 := by
  split
  · exact ⟨rfl, 102, r, rfl, by decide⟩
  · exact ⟨rfl, 118, r, rfl, by decide⟩
theorem asg_inj : ∀ (xs ys : List Asg) (ps qs : List Pm), (∀ y ∈ xs, y.cl = 0 ∨ y.cl = 1) → (∀ y ∈ ys, y.cl = 0 ∨ y.cl = 1) → (∀ y ∈ ps, 0 ≤ y.am) → (∀ y ∈ qs, 0 ≤ y.am) →
    xs.flatMap fmtA ++ ps.flatMap fmtP = ys.flatMap fmtA ++ qs.flatMap fmtP → xs = ys ∧ ps = qs
  | [], [], ps, qs, _, _, hp, hq, h => ⟨rfl, pms_inj ps qs hp hq (by simpa using h)⟩
  | [], y :: ys, ps, qs, _, _, hp, hq, h => by
    exfalso
    cases ps with
    | nil => simp [fmtA] at h
    | cons p ps =>
      simp only [List.flatMap_cons, List.flatMap_nil, fmtP, fmtA, List.append_assoc, List.cons_append, List.nil_append, List.cons.injEq, true_and] at h
      obtain ⟨_, h⟩ := itoa_split rfl (cls_non _ _).1 h
      obtain ⟨c, t, e, hc⟩ := (cls_non y.cl (64 :: (Lib.itoa y.ep ++ (ys.flatMap fmtA ++ qs.flatMap fmtP)))).2
      rw [e] at h
      simp only [List.cons.injEq] at h
      exact hc h.1.symm
  | x :: xs, [], ps, qs, _, _, hp, hq, h => by
    exfalso
    cases qs with
    | nil => simp [fmtA] at h
    | cons p qs =>
      simp only [List.flatMap_cons, List.flatMap_nil, fmtP, fmtA, List.append_assoc, List.cons_append, List.nil_append, List.cons.injEq, true_and] at h
      obtain ⟨_, h⟩ := itoa_split (cls_non _ _).1 rfl h
      obtain ⟨c, t, e, hc⟩ := (cls_non x.cl (64 :: (Lib.itoa x.ep ++ (xs.flatMap fmtA ++ ps.flatMap fmtP)))).2
      rw [e] at h
      simp only [List.cons.injEq] at h
      exact hc h.1
  | x :: xs, y :: ys, ps, qs, hx, hy, hp, hq, h => by
    obtain ⟨xi, xc, xe⟩ := x
    obtain ⟨yi, yc, ye⟩ := y
    have h1 : xc = 0 ∨ xc = 1 := hx ⟨xi, xc, xe⟩ (by simp)
    have h2 : yc = 0 ∨ yc = 1 := hy ⟨yi, yc, ye⟩ (by simp)
    simp only [List.flatMap_cons, fmtA, List.append_assoc, List.cons_append, List.nil_append, List.cons.injEq, true_and] at h
    obtain ⟨e1, h⟩ := itoa_split (cls_non _ _).1 (cls_non _ _).1 h
    obtain ⟨e2, h⟩ := clsOf h1 h2 _ _ h
    obtain ⟨e3, h⟩ := itoa_split (flatA_non _ _ (flatP_non _)) (flatA_non _ _ (flatP_non _)) h
    obtain ⟨e4, e5⟩ := asg_inj xs ys ps qs (fun y hy' => hx y (by simp [hy'])) (fun y hy' => hy y (by simp [hy'])) hp hq h
    rw [e1, e2, e3, e4]
    exact ⟨rfl, e5⟩
theorem fmtR_inj {x y : Rc} (hxk : x.k = 7) (hyk : y.k = 7) (hxc : x.c = 0) (hyc : y.c = 0) (hx : ∀ z ∈ x.asg, z.cl = 0 ∨ z.cl = 1) (hy : ∀ z ∈ y.asg, z.cl = 0 ∨ z.cl = 1) (hp : ∀ z ∈ x.pms, 0 ≤ z.am) (hq : ∀ z ∈ y.pms, 0 ≤ z.am)
    (h : fmtR x = fmtR y) : x.bk = y.bk ∧ x.ep = y.ep ∧ x.vi = y.vi ∧ x.asg = y.asg ∧ x.pms = y.pms := by
  unfold fmtR at h
  rw [if_neg (by simp [hxc]), if_neg (by simp [hxk]), if_neg (by simp [hyc]), if_neg (by simp [hyk]), hxk, hyk] at h
  simp only [List.append_assoc, List.cons_append, List.nil_append] at h
  have h := List.append_cancel_left h
  simp only [List.cons.injEq, true_and] at h
  obtain ⟨e1, h⟩ := itoa_split rfl rfl h
  simp only [List.cons.injEq, true_and] at h
  obtain ⟨e2, h⟩ := itoa_split rfl rfl h
  simp only [List.cons.injEq, true_and] at h
  obtain ⟨e3, h⟩ := itoa_split (flatA_non _ _ (flatP_non _)) (flatA_non _ _ (flatP_non _)) h
  obtain ⟨e4, e5⟩ := asg_inj _ _ _ _ hx hy hp hq h
  exact ⟨e1, e2, e3, e4, e5⟩
end Go.Proofs.YtffmcnaaaojgpaaDoor
