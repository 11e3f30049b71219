/- The statements of receipts: the example; ReceiptSame, ReceiptLines, ReceiptMakes, ReceiptPays. -/
import Derived.Test.YtffmcnaaaojgpaaDoorRcpG
import Derived.Test.YtffmcnaaaojgpaaDoorRcpH
import Derived.Test.YtffmcnaaaojgpaaDoorShapeB
namespace Go.Proofs.YtffmcnaaaojgpaaDoor
open Go.RowKit
set_option linter.unusedVariables false
set_option maxRecDepth 100000
set_option linter.unusedSimpArgs false
set_option maxHeartbeats 2000000
abbrev asgSh : Sh := .agg [.int .i64, .int .i64, .int .i64]
abbrev pmSh : Sh := .agg [.int .i64, .int .u64, .bool]
abbrev rcSh : Sh := .agg [.int .i64, .int .i64, .int .i64, .int .i64, .int .i64, .int .i64, .slice 3 asgSh, .slice 3 pmSh, .int .i64]
theorem asg_of_sh {w : World} {l : List Value} (h : HasSh w asgSh l) : ∃ x : Asg, l = asgL x ∧ (I64 x.ix ∧ I64 x.cl ∧ I64 x.ep) := by
  obtain ⟨c1, r1, rfl, h1, h⟩ := shb_cons h
  obtain ⟨c2, r2, rfl, h2, h⟩ := shb_cons h
  obtain ⟨c3, r3, rfl, h3, h⟩ := shb_cons h
  have := shb_nil h; subst this
  obtain ⟨a, rfl, ha⟩ := shb_int h1
  obtain ⟨b, rfl, hb⟩ := shb_int h2
  obtain ⟨c, rfl, hc⟩ := shb_int h3
  exact ⟨⟨a, b, c⟩, rfl, i64_wf ha, i64_wf hb, i64_wf hc⟩
theorem pm_of_sh {w : World} {l : List Value} (h : HasSh w pmSh l) : ∃ x : Pm, l = pmL x ∧ (I64 x.ix ∧ U64 x.am) := by
  obtain ⟨c1, r1, rfl, h1, h⟩ := shb_cons h
  obtain ⟨c2, r2, rfl, h2, h⟩ := shb_cons h
  obtain ⟨c3, r3, rfl, h3, h⟩ := shb_cons h
  have := shb_nil h; subst this
  obtain ⟨a, rfl, ha⟩ := shb_int h1
  obtain ⟨b, rfl, hb⟩ := shb_int h2
  obtain ⟨c, rfl⟩ := shb_bool h3
  exact ⟨⟨a, b, c⟩, rfl, i64_wf ha, u64_wf hb⟩
theorem shb_one {w : World} {k : Nat} {e : Sh} {l : List Value} (h : HasSh w (.slice k e) l) : ∃ v, l = [v] := by cases h; exact ⟨_, rfl⟩
theorem rs_of_sh {w : World} {l : List Value} (h : HasSh w rcSh l) : ∃ x : RcS, l = rsL x ∧ (x.r.wf ∧ SlT w asgL 3 (sl x.s) x.r.asg ∧ SlT w pmL 3 (sl x.p) x.r.pms) := by
  obtain ⟨c1, r1, rfl, h1, h⟩ := shb_cons h
  obtain ⟨c2, r2, rfl, h2, h⟩ := shb_cons h
  obtain ⟨c3, r3, rfl, h3, h⟩ := shb_cons h
  obtain ⟨c4, r4, rfl, h4, h⟩ := shb_cons h
  obtain ⟨c5, r5, rfl, h5, h⟩ := shb_cons h
  obtain ⟨c6, r6, rfl, h6, h⟩ := shb_cons h
  obtain ⟨c7, r7, rfl, h7, h⟩ := shb_cons h
  obtain ⟨c8, r8, rfl, h8, h⟩ := shb_cons h
  obtain ⟨c9, r9, rfl, h9, h⟩ := shb_cons h
  have := shb_nil h; subst this
  obtain ⟨x1, rfl, w1⟩ := shb_int h1
  obtain ⟨x2, rfl, w2⟩ := shb_int h2
  obtain ⟨x3, rfl, w3⟩ := shb_int h3
  obtain ⟨x4, rfl, w4⟩ := shb_int h4
  obtain ⟨x5, rfl, w5⟩ := shb_int h5
  obtain ⟨x6, rfl, w6⟩ := shb_int h6
  obtain ⟨x9, rfl, w9⟩ := shb_int h9
  obtain ⟨v7, rfl⟩ := shb_one h7
  obtain ⟨v8, rfl⟩ := shb_one h8
  obtain ⟨xs, g7, p7⟩ := slice_of_sh (f := asgL) (fun cs h => asg_of_sh h) h7
  obtain ⟨ys, g8, p8⟩ := slice_of_sh (f := pmL) (fun cs h => pm_of_sh h) h8
  obtain ⟨s, rfl⟩ := SlR.sl_eq (show SlR w 3 v7 xs.length (xs.flatMap asgL) from g7)
  obtain ⟨p, rfl⟩ := SlR.sl_eq (show SlR w 3 v8 ys.length (ys.flatMap pmL) from g8)
  exact ⟨⟨⟨x1, x2, x3, x4, x5, x6, x9, xs, ys⟩, s, p⟩, rfl, ⟨i64_wf w1, i64_wf w2, i64_wf w3, i64_wf w4, i64_wf w5, i64_wf w6, i64_wf w9, p7, p8⟩, g7, g8⟩
theorem op_of_sh {w : World} {l : List Value} (h : HasSh w (.agg [.int .i64, .int .i64, .int .i64, .int .u64]) l) : ∃ x : Opn, l = opL x ∧ (I64 x.k ∧ I64 x.ix ∧ I64 x.tg ∧ U64 x.am) := by
  obtain ⟨c1, r1, rfl, h1, h⟩ := shb_cons h
  obtain ⟨c2, r2, rfl, h2, h⟩ := shb_cons h
  obtain ⟨c3, r3, rfl, h3, h⟩ := shb_cons h
  obtain ⟨c4, r4, rfl, h4, h⟩ := shb_cons h
  have := shb_nil h; subst this
  obtain ⟨a, rfl, ha⟩ := shb_int h1
  obtain ⟨b, rfl, hb⟩ := shb_int h2
  obtain ⟨c, rfl, hc⟩ := shb_int h3
  obtain ⟨d, rfl, hd⟩ := shb_int h4
  exact ⟨⟨a, b, c, d⟩, rfl, i64_wf ha, i64_wf hb, i64_wf hc, u64_wf hd⟩
theorem arr_eq {cs : Array Value} {l : List Value} (h : cs.toList = l) : cs = l.toArray := by apply Array.toList_inj.1; simpa using h
theorem i64_lit (m : Int) (h : -9223372036854775808 ≤ m ∧ m ≤ 9223372036854775807 := by decide) : I64 m := h
/-- The example of the chapter. -/
theorem alive21 (w0 : World) (ht : Tens w0) : Calls Tryd.prog 15 [].toArray w0 fun e w' => e = .returned (.bool true) ∧ Below w0.heap.size w0 w' := by
  have e1 : fmtR ⟨2, 0, 3, 2, 1, 14, 0, [], []⟩ = [101, 120, 105, 116, 32, 111, 107, 32, 51, 32, 98, 121, 32, 49, 52] := by decide +kernel
  have e2 : fmtR ⟨0, 11, -1, 0, 0, -1, 0, [], []⟩ = [109, 97, 108, 102, 111, 114, 109, 101, 100, 32, 101, 114, 114, 111, 114, 32, 49, 49] := by decide +kernel
  have HT : ∀ {L L' : List Asn}, Pull L (Old w0) L' → Gives L Tens := fun hp => Old.tens ht hp
  have H1 : Hid (∀ L : List Asn, Gives L Tens → Reads 20 [rcV ⟨2, 0, 3, 2, 1, 14, 0, [], []⟩ nilH nilH] (str [101, 120, 105, 116, 32, 111, 107, 32, 51, 32, 98, 121, 32, 49, 52]) L) := Lib.hid fun L hT => by
    have := rcfmt_reads ⟨2, 0, 3, 2, 1, 14, 0, [], []⟩ ⟨i64_lit _, i64_lit _, i64_lit _, i64_lit _, i64_lit _, i64_lit _, i64_lit _, by simp, by simp⟩ nilH nilH ⟨by simp, by simp⟩ RcG.nil hT
    rwa [e1] at this
  have H2 : Hid (∀ L : List Asn, Gives L Tens → Reads 20 [rcV ⟨0, 11, -1, 0, 0, -1, 0, [], []⟩ nilH nilH] (str [109, 97, 108, 102, 111, 114, 109, 101, 100, 32, 101, 114, 114, 111, 114, 32, 49, 49]) L) := Lib.hid fun L hT => by
    have := rcfmt_reads ⟨0, 11, -1, 0, 0, -1, 0, [], []⟩ ⟨i64_lit _, i64_lit _, i64_lit _, i64_lit _, i64_lit _, i64_lit _, i64_lit _, by simp, by simp⟩ nilH nilH ⟨by simp, by simp⟩ RcG.nil hT
    rwa [e2] at this
  clear e1 e2
  refine sx_enter Tryd.func15 (n := 28) rfl rfl rfl rfl ?_
  (intro a F; refine sv_start ?_; intro w M)
  (repeat' (first | (first | (refine sx_nil ?_; (try (replace F := F.filt [0, 1] rfl))) | (refine sv1 F M (h := ?_) (hr := by fail); clear F a; intro a F) | (refine sv1 F M (h := ?_); clear F a; intro a F) | (refine sv3 F M (h := ?_); clear M; intro w M) | (refine sv2 F M (h := ?_); clear F M a; intro b a w F M) | (refine svC F M (h := ?_); (first | ((refine acCall (k := 19) ?_); (refine Spec.of_reads (accept_reads ⟨2, 3, 0, 0⟩ 3 14 2 1) rfl ?_)) | ((refine acCall (k := 18) ?_); (refine Spec.of_reads (reject_reads ⟨0, 0, 0, 0⟩ 11 0 0) rfl ?_)) | ((refine acCall (k := 20) ?_); (refine Spec.of_reads (H1.out _ (HT pullA)) rfl ?_)) | ((refine acCall (k := 20) ?_); (refine Spec.of_reads (H2.out _ (HT pullA)) rfl ?_)) | ((refine acCall (k := 16) ?_); (refine Spec.of_reads (same_reads (x := ⟨2, 0, 3, 2, 1, 14, 0, [], []⟩) (y := ⟨2, 0, 3, 2, 1, 14, 0, [], []⟩) (GS.nil _ _) (GS.nil _ _) (GS.nil _ _) (GS.nil _ _)) rfl ?_))); (clear F M a; intro a w F M)) | (refine svC0 F M (h := ?_); (first | ((refine acCall (k := 19) ?_); (refine Spec.of_reads (accept_reads ⟨2, 3, 0, 0⟩ 3 14 2 1) rfl ?_)) | ((refine acCall (k := 18) ?_); (refine Spec.of_reads (reject_reads ⟨0, 0, 0, 0⟩ 11 0 0) rfl ?_)) | ((refine acCall (k := 20) ?_); (refine Spec.of_reads (H1.out _ (HT pullA)) rfl ?_)) | ((refine acCall (k := 20) ?_); (refine Spec.of_reads (H2.out _ (HT pullA)) rfl ?_)) | ((refine acCall (k := 16) ?_); (refine Spec.of_reads (same_reads (x := ⟨2, 0, 3, 2, 1, 14, 0, [], []⟩) (y := ⟨2, 0, 3, 2, 1, 14, 0, [], []⟩) (GS.nil _ _) (GS.nil _ _) (GS.nil _ _) (GS.nil _ _)) rfl ?_))); (clear M; intro w M)) | (refine sv1 F M (h := ?_) (hr := by fail); clear F a; intro a F) | (refine svK F (h := ?_); clear F a; intro a F) | (refine svK0 F (h := ?_)) | ((refine sx_guardb F rfl (fun hg => ?_) (fun hg => ?_)) <;> (rw [hg] at F; (try (exact no hg))))) | (first | (refine pv1 (h := ?_) (hr := by fail)) | (refine pv1 (h := ?_)) | (refine pv3 (h := ?_)) | (refine pv2 (h := ?_); intro b) | (refine pvC (h := ?_); (first | ((refine acCall (k := 19) ?_); (refine Spec.of_reads (accept_reads ⟨2, 3, 0, 0⟩ 3 14 2 1) rfl ?_)) | ((refine acCall (k := 18) ?_); (refine Spec.of_reads (reject_reads ⟨0, 0, 0, 0⟩ 11 0 0) rfl ?_)) | ((refine acCall (k := 20) ?_); (refine Spec.of_reads (H1.out _ (HT pullA)) rfl ?_)) | ((refine acCall (k := 20) ?_); (refine Spec.of_reads (H2.out _ (HT pullA)) rfl ?_)) | ((refine acCall (k := 16) ?_); (refine Spec.of_reads (same_reads (x := ⟨2, 0, 3, 2, 1, 14, 0, [], []⟩) (y := ⟨2, 0, 3, 2, 1, 14, 0, [], []⟩) (GS.nil _ _) (GS.nil _ _) (GS.nil _ _) (GS.nil _ _)) rfl ?_))); (refine ⟨?_, ?_⟩; (exact rvsA))) | (refine pvC0 (h := ?_); (first | ((refine acCall (k := 19) ?_); (refine Spec.of_reads (accept_reads ⟨2, 3, 0, 0⟩ 3 14 2 1) rfl ?_)) | ((refine acCall (k := 18) ?_); (refine Spec.of_reads (reject_reads ⟨0, 0, 0, 0⟩ 11 0 0) rfl ?_)) | ((refine acCall (k := 20) ?_); (refine Spec.of_reads (H1.out _ (HT pullA)) rfl ?_)) | ((refine acCall (k := 20) ?_); (refine Spec.of_reads (H2.out _ (HT pullA)) rfl ?_)) | ((refine acCall (k := 16) ?_); (refine Spec.of_reads (same_reads (x := ⟨2, 0, 3, 2, 1, 14, 0, [], []⟩) (y := ⟨2, 0, 3, 2, 1, 14, 0, [], []⟩) (GS.nil _ _) (GS.nil _ _) (GS.nil _ _) (GS.nil _ _)) rfl ?_))); (refine ⟨?_, ?_⟩; (exact rvsA))) | (refine pv1 (h := ?_) (hr := by fail)) | (refine pvF (h := ?_); intro b) | (refine pvK (h := ?_)) | (refine pvK0 (h := ?_)) | (refine pv_nil ?_; intro a w F M; refine ql_open ?_) | (refine pv_nil ?_; intro a w F M; (try (replace F := F.filt [0, 1] rfl)))) | ((fail_if_success (with_reducible show wpList _ _ _ _ _ _)); (fail_if_success (with_reducible show PW _ _ _ _ _ _ _ _ _ _)); (fail_if_success (with_reducible show Code.wp _ (Code.loop _) _ _ _)); (first | ((with_reducible show Code.wp _ (Code.region _ _ false) _ _ _); (refine sx_region ?_)) | ((with_reducible show Code.wp _ (Code.cond _ _ _) _ _ _); (first | (refine svT F (h := ?_)) | (refine svF F (h := ?_)) | ((refine svB F (fun hc => ?_) (fun hc => ?_)) <;> (try (exact no hc))))) | ((with_reducible show Code.wp _ (Code.region _ _ true) _ _ _); fail) | go_step))))
  (all_goals ((first | (refine svEnd F M ?_) | (refine svRet F M ?_)); refine ⟨?_, M.below (by (focus ((repeat (first | exact Pull.here | apply Pull.there)); done)))⟩))
  all_goals rfl
end Go.Proofs.YtffmcnaaaojgpaaDoor
