/- Operations and receipts: their cells. -/
import Derived.Test.YtdlihlfknedpfaaUt
namespace Go.Proofs.Ytdlihlfknedpfaa
open Go.RowKit
set_option linter.unusedVariables false
set_option maxRecDepth 100000
set_option linter.unusedSimpArgs false
set_option maxHeartbeats 2000000
structure Asg where
  ix : Int
  cl : Int
  ep : Int
deriving DecidableEq
def asgL (x : Asg) : List Value := [.int .i64 x.ix, .int .i64 x.cl, .int .i64 x.ep]
structure Pm where
  ix : Int
  am : Int
  fl : Bool
deriving DecidableEq
def pmL (x : Pm) : List Value := [.int .i64 x.ix, .int .u64 x.am, .bool x.fl]
instance : EL asgL 3 := ⟨fun _ => rfl, fun x u h => by simp [asgL] at h; rcases h with rfl | rfl | rfl <;> rfl⟩
instance : EL pmL 3 := ⟨fun _ => rfl, fun x u h => by simp [pmL] at h; rcases h with rfl | rfl | rfl <;> rfl⟩
instance : EQF asgL [.int, .int, .int] := ⟨fun x y => by
  obtain ⟨a, b, c⟩ := x; obtain ⟨d, e, f⟩ := y
  simp only [asgL, cellsEq, scEq, if_true, Bool.and_true, Asg.mk.injEq, Option.some.injEq]
  rw [Bool.eq_iff_iff]; simp⟩
instance : EQF pmL [.int, .int, .bool] := ⟨fun x y => by
  obtain ⟨a, b, c⟩ := x; obtain ⟨d, e, f⟩ := y
  simp only [pmL, cellsEq, scEq, if_true, Bool.and_true, Pm.mk.injEq, Option.some.injEq]
  rw [Bool.eq_iff_iff]; simp⟩
/-- A receipt. -/
structure Rc where
  k : Int
  c : Int
  ix : Int
  bk : Int
  ep : Int
  dl : Int
  vi : Int
  asg : List Asg
  pms : List Pm
deriving DecidableEq
def rcL (r : Rc) (s p : SlH) : List Value := [.int .i64 r.k, .int .i64 r.c, .int .i64 r.ix, .int .i64 r.bk, .int .i64 r.ep, .int .i64 r.dl, sl s, sl p, .int .i64 r.vi]
abbrev rcV (r : Rc) (s p : SlH) : Value := .agg (rcL r s p).toArray
theorem rc_eq (a b : Rc) : decide (a = b) = (decide (a.asg = b.asg) && decide (a.pms = b.pms) && (decide (a.k = b.k) && (decide (a.c = b.c) && (decide (a.ix = b.ix) && (decide (a.bk = b.bk) && (decide (a.ep = b.ep) && (decide (a.dl = b.dl) && decide (a.vi = b.vi)))))))) := by
  rw [Bool.eq_iff_iff]
  cases a; cases b
  simp
  constructor
  · rintro ⟨rfl, rfl, rfl, rfl, rfl, rfl, rfl, rfl, rfl⟩; simp
  · rintro ⟨⟨rfl, rfl⟩, rfl, rfl, rfl, rfl, rfl, rfl, rfl⟩; simp
/-- What the slices of a receipt read as. -/
structure RcG (L : List Asn) (x : Rc) (s p : SlH) : Prop where
  a : GS L 3 (sl s) x.asg.length (x.asg.flatMap asgL)
  p : GS L 3 (sl p) x.pms.length (x.pms.flatMap pmL)
theorem RcG.imp {L K : List Asn} {x : Rc} {s p : SlH} (h : RcG L x s p) (hk : ∀ w, Mem w K → Mem w L) : RcG K x s p := ⟨h.a.imp hk, h.p.imp hk⟩
/-- An operation. -/
structure Opn where
  k : Int
  ix : Int
  tg : Int
  am : Int
deriving DecidableEq
def opL (o : Opn) : List Value := [.int .i64 o.k, .int .i64 o.ix, .int .i64 o.tg, .int .u64 o.am]
instance : EL opL 4 := ⟨fun _ => rfl, fun x u h => by simp [opL] at h; rcases h with rfl | rfl | rfl | rfl <;> rfl⟩
abbrev nilH : SlH := ⟨none, 0, 0⟩
theorem RcG.nil {L : List Asn} {k c ix bk ep dl vi : Int} : RcG L ⟨k, c, ix, bk, ep, dl, vi, [], []⟩ nilH nilH := ⟨GS.nil _ _, GS.nil _ _⟩
structure Rc.wf (x : Rc) : Prop where
  k : I64 x.k
  c : I64 x.c
  ix : I64 x.ix
  bk : I64 x.bk
  ep : I64 x.ep
  dl : I64 x.dl
  vi : I64 x.vi
  asg : ∀ y ∈ x.asg, I64 y.ix ∧ I64 y.cl ∧ I64 y.ep
  pms : ∀ y ∈ x.pms, I64 y.ix ∧ U64 y.am
/-- A receipt in a slice: with its slices' words. -/
structure RcS where
  r : Rc
  s : SlH
  p : SlH
def rsL (x : RcS) : List Value := rcL x.r x.s x.p
instance : EL rsL 9 := ⟨fun _ => rfl, fun x u h => by simp [rsL, rcL] at h; rcases h with rfl | rfl | rfl | rfl | rfl | rfl | rfl | rfl | rfl <;> rfl⟩
abbrev asgSh : Sh := .agg [.int .i64, .int .i64, .int .i64]
abbrev pmSh : Sh := .agg [.int .i64, .int .u64, .bool]
abbrev rcSh : Sh := .agg [.int .i64, .int .i64, .int .i64, .int .i64, .int .i64, .int .i64, .slice 3 asgSh, .slice 3 pmSh, .int .i64]
theorem asg_of_sh {w : World} {l : List Value} (h : HasSh w asgSh l) : ∃ x : Asg, l = asgL x ∧ (I64 x.ix ∧ I64 x.cl ∧ I64 x.ep) := by
  obtain ⟨c1, r1, rfl, h1, h⟩ := shb_cons h
  obtain ⟨c2, r2, rfl, h2, h⟩ := shb_cons h
  obtain ⟨c3, r3, rfl, h3, h⟩ := shb_cons h
  have := shb_nil h; subst this
  obtain ⟨a, rfl, ha⟩ := shb_int h1
  obtain ⟨b, rfl, hb⟩ := shb_int h2
  obtain ⟨c, rfl, hc⟩ := shb_int h3
  exact ⟨⟨a, b, c⟩, rfl, i64_wf ha, i64_wf hb, i64_wf hc⟩
theorem pm_of_sh {w : World} {l : List Value} (h : HasSh w pmSh l) : ∃ x : Pm, l = pmL x ∧ (I64 x.ix ∧ U64 x.am) := by
  obtain ⟨c1, r1, rfl, h1, h⟩ := shb_cons h
  obtain ⟨c2, r2, rfl, h2, h⟩ := shb_cons h
  obtain ⟨c3, r3, rfl, h3, h⟩ := shb_cons h
  have := shb_nil h; subst this
  obtain ⟨a, rfl, ha⟩ := shb_int h1
  obtain ⟨b, rfl, hb⟩ := shb_int h2
  obtain ⟨c, rfl⟩ := shb_bool h3
  exact ⟨⟨a, b, c⟩, rfl, i64_wf ha, u64_wf hb⟩
theorem shb_one {w : World} {k : Nat} {e : Sh} {l : List Value} (h : HasSh w (.slice k e) l) : ∃ v, l = [v] := by cases h; exact ⟨_, rfl⟩
theorem rs_of_sh {w : World} {l : List Value} (h : HasSh w rcSh l) : ∃ x : RcS, l = rsL x ∧ (x.r.wf ∧ SlT w asgL 3 (sl x.s) x.r.asg ∧ SlT w pmL 3 (sl x.p) x.r.pms) := by
  obtain ⟨c1, r1, rfl, h1, h⟩ := shb_cons h
  obtain ⟨c2, r2, rfl, h2, h⟩ := shb_cons h
  obtain ⟨c3, r3, rfl, h3, h⟩ := shb_cons h
  obtain ⟨c4, r4, rfl, h4, h⟩ := shb_cons h
  obtain ⟨c5, r5, rfl, h5, h⟩ := shb_cons h
  obtain ⟨c6, r6, rfl, h6, h⟩ := shb_cons h
  obtain ⟨c7, r7, rfl, h7, h⟩ := shb_cons h
  obtain ⟨c8, r8, rfl, h8, h⟩ := shb_cons h
  obtain ⟨c9, r9, rfl, h9, h⟩ := shb_cons h
  have := shb_nil h; subst this
  obtain ⟨x1, rfl, w1⟩ := shb_int h1
  obtain ⟨x2, rfl, w2⟩ := shb_int h2
  obtain ⟨x3, rfl, w3⟩ := shb_int h3
  obtain ⟨x4, rfl, w4⟩ := shb_int h4
  obtain ⟨x5, rfl, w5⟩ := shb_int h5
  obtain ⟨x6, rfl, w6⟩ := shb_int h6
  obtain ⟨x9, rfl, w9⟩ := shb_int h9
  obtain ⟨v7, rfl⟩ := shb_one h7
  obtain ⟨v8, rfl⟩ := shb_one h8
  obtain ⟨xs, g7, p7⟩ := slice_of_sh (f := asgL) (fun cs h => asg_of_sh h) h7
  obtain ⟨ys, g8, p8⟩ := slice_of_sh (f := pmL) (fun cs h => pm_of_sh h) h8
  obtain ⟨s, rfl⟩ := SlR.sl_eq (show SlR w 3 v7 xs.length (xs.flatMap asgL) from g7)
  obtain ⟨p, rfl⟩ := SlR.sl_eq (show SlR w 3 v8 ys.length (ys.flatMap pmL) from g8)
  exact ⟨⟨⟨x1, x2, x3, x4, x5, x6, x9, xs, ys⟩, s, p⟩, rfl, ⟨i64_wf w1, i64_wf w2, i64_wf w3, i64_wf w4, i64_wf w5, i64_wf w6, i64_wf w9, p7, p8⟩, g7, g8⟩
theorem op_of_sh {w : World} {l : List Value} (h : HasSh w (.agg [.int .i64, .int .i64, .int .i64, .int .u64]) l) : ∃ x : Opn, l = opL x ∧ (I64 x.k ∧ I64 x.ix ∧ I64 x.tg ∧ U64 x.am) := by
  obtain ⟨c1, r1, rfl, h1, h⟩ := shb_cons h
  obtain ⟨c2, r2, rfl, h2, h⟩ := shb_cons h
  obtain ⟨c3, r3, rfl, h3, h⟩ := shb_cons h
  obtain ⟨c4, r4, rfl, h4, h⟩ := shb_cons h
  have := shb_nil h; subst this
  obtain ⟨a, rfl, ha⟩ := shb_int h1
  obtain ⟨b, rfl, hb⟩ := shb_int h2
  obtain ⟨c, rfl, hc⟩ := shb_int h3
  obtain ⟨d, rfl, hd⟩ := shb_int h4
  exact ⟨⟨a, b, c, d⟩, rfl, i64_wf ha, i64_wf hb, i64_wf hc, u64_wf hd⟩
theorem rcg_old {w0 : World} {x : RcS} (h : SlT w0 asgL 3 (sl x.s) x.r.asg ∧ SlT w0 pmL 3 (sl x.p) x.r.pms) {L L' : List Asn} (hp : Pull L (Old w0) L') : RcG L x.r x.s x.p := ⟨gs_oldT h.1 hp, gs_oldT h.2 hp⟩
theorem rcg_old' {w0 : World} {x : Rc} {s p : SlH} (h : SlT w0 asgL 3 (sl s) x.asg ∧ SlT w0 pmL 3 (sl p) x.pms) {L L' : List Asn} (hp : Pull L (Old w0) L') : RcG L x s p := ⟨gs_oldT h.1 hp, gs_oldT h.2 hp⟩
end Go.Proofs.Ytdlihlfknedpfaa
