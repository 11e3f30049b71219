/- The statements LawRcpM. -/
import Derived.Test.YtffmcnaaaojgpaaDoorLawRcpA
namespace Go.Proofs.YtffmcnaaaojgpaaDoor
open Go.RowKit
set_option linter.unusedVariables false
set_option maxRecDepth 100000
set_option linter.unusedSimpArgs false
set_option maxHeartbeats 2000000
theorem rsame_self {x : Rc} {s p : SlH} {L : List Asn} (h : RcG L x s p) : Reads 17 [rcV x s p, rcV x s p] (.bool true) L := by
  have := rsame_reads h h
  simpa using this
theorem start_ReceiptMakes (w0 : World) (co : Array Value) (ho : HasSh w0 (.agg [.int .i64, .int .i64, .int .i64, .int .u64]) co.toList) (c : Int) (hc : -9223372036854775808 ≤ c ∧ c ≤ 9223372036854775807) (cx : Array Value) (hx : HasSh w0 (.agg (List.replicate 4 (.int .i64))) cx.toList) (ht : Tens w0) :
    Calls Tryd.prog 4 #[.agg co, .int .i64 c, .agg cx] w0 fun e w' => e = .returned (.bool true) ∧ Below w0.heap.size w0 w' := by
  obtain ⟨q, eq, wq⟩ := op_of_sh ho
  obtain rfl := arr_eq eq
  obtain ⟨x1, x2, x3, x4, ex, h1, h2, h3, h4⟩ : ∃ x1 x2 x3 x4 : Int, cx.toList = [.int .i64 x1, .int .i64 x2, .int .i64 x3, .int .i64 x4] ∧ I64 x1 ∧ I64 x2 ∧ I64 x3 ∧ I64 x4 := by
    obtain ⟨c1, r1, e1, h1, h⟩ := shb_cons (show HasSh w0 (.agg [.int .i64, .int .i64, .int .i64, .int .i64]) cx.toList from hx)
    obtain ⟨c2, r2, rfl, h2, h⟩ := shb_cons h
    obtain ⟨c3, r3, rfl, h3, h⟩ := shb_cons h
    obtain ⟨c4, r4, rfl, h4, h⟩ := shb_cons h
    have := shb_nil h; subst this
    obtain ⟨a, rfl, ha⟩ := shb_int h1
    obtain ⟨b, rfl, hb⟩ := shb_int h2
    obtain ⟨c, rfl, hc⟩ := shb_int h3
    obtain ⟨d, rfl, hd⟩ := shb_int h4
    exact ⟨a, b, c, d, e1, i64_wf ha, i64_wf hb, i64_wf hc, i64_wf hd⟩
  obtain rfl := arr_eq ex
  clear ho hx eq ex
  have hc1 := hc.1; have hc2 := hc.2
  obtain ⟨k, ix, tg, am⟩ := q
  have HA : Hid (∀ L : List Asn, Reads 17 [rcV ⟨k, c, -1, x1, x2, -1, 0, [], []⟩ nilH nilH, rcV ⟨k, c, -1, x1, x2, -1, 0, [], []⟩ nilH nilH] (.bool true) L) := Lib.hid fun L => rsame_self RcG.nil
  have HB : Hid (∀ L : List Asn, Reads 17 [rcV ⟨k, 0, x3, x1, x2, x4, 0, [], []⟩ nilH nilH, rcV ⟨k, 0, x3, x1, x2, x4, 0, [], []⟩ nilH nilH] (.bool true) L) := Lib.hid fun L => rsame_self RcG.nil
  have HC : Hid (∀ L : List Asn, Reads 18 [.agg (opL ⟨k, ix, tg, am⟩).toArray, .int .i64 c, .int .i64 x1, .int .i64 x2] (rcV ⟨k, c, -1, x1, x2, -1, 0, [], []⟩ nilH nilH) L) := Lib.hid fun L => reject_reads ⟨k, ix, tg, am⟩ c x1 x2
  have HD : Hid (∀ L : List Asn, Reads 19 [.agg (opL ⟨k, ix, tg, am⟩).toArray, .int .i64 x3, .int .i64 x4, .int .i64 x1, .int .i64 x2] (rcV ⟨k, 0, x3, x1, x2, x4, 0, [], []⟩ nilH nilH) L) := Lib.hid fun L => accept_reads ⟨k, ix, tg, am⟩ x3 x4 x1 x2
  refine sx_enter (vs := ([.agg (opL ⟨k, ix, tg, am⟩).toArray, .int .i64 c, .agg ([.int .i64 x1, .int .i64 x2, .int .i64 x3, .int .i64 x4] : List Value).toArray] : List Value)) Tryd.func4 (n := 54) rfl rfl rfl rfl ?_
  (intro a F; refine sv_start ?_; intro w M)
  (repeat' (first | (first | (refine sx_nil ?_; (try (replace F := F.filt [0, 1, 2, 3, 5, 6, 7, 8] rfl))) | (refine sv1 F M (h := ?_) (hr := by fail); clear F a; intro a F) | (refine sv1 F M (h := ?_); clear F a; intro a F) | (refine sv3 F M (h := ?_); clear M; intro w M) | (refine sv2 F M (h := ?_); clear F M a; intro b a w F M) | (refine svC F M (h := ?_); (first | ((refine acCall (k := 15) ?_); (refine Spec.of_below_g alive21 (Old.tens ht pullA) rfl ?_)) | ((refine acCall (k := 18) ?_); (refine Spec.of_reads (HC.out _) rfl ?_)) | ((refine acCall (k := 19) ?_); (refine Spec.of_reads (HD.out _) rfl ?_)) | ((refine acCall (k := 17) ?_); (refine Spec.of_reads (HA.out _) rfl ?_)) | ((refine acCall (k := 17) ?_); (refine Spec.of_reads (HB.out _) rfl ?_))); (clear F M a; intro a w F M)) | (refine svC0 F M (h := ?_); (first | ((refine acCall (k := 15) ?_); (refine Spec.of_below_g alive21 (Old.tens ht pullA) rfl ?_)) | ((refine acCall (k := 18) ?_); (refine Spec.of_reads (HC.out _) rfl ?_)) | ((refine acCall (k := 19) ?_); (refine Spec.of_reads (HD.out _) rfl ?_)) | ((refine acCall (k := 17) ?_); (refine Spec.of_reads (HA.out _) rfl ?_)) | ((refine acCall (k := 17) ?_); (refine Spec.of_reads (HB.out _) rfl ?_))); (clear M; intro w M)) | (refine sv1 F M (h := ?_) (hr := by fail); clear F a; intro a F) | (refine svK F (h := ?_); clear F a; intro a F) | (refine svK0 F (h := ?_)) | ((refine sx_guardb F rfl (fun hg => ?_) (fun hg => ?_)) <;> (rw [hg] at F; (try (exact no hg))))) | (first | (refine pv1 (h := ?_) (hr := by fail)) | (refine pv1 (h := ?_)) | (refine pv3 (h := ?_)) | (refine pv2 (h := ?_); intro b) | (refine pvC (h := ?_); (first | ((refine acCall (k := 15) ?_); (refine Spec.of_below_g alive21 (Old.tens ht pullA) rfl ?_)) | ((refine acCall (k := 18) ?_); (refine Spec.of_reads (HC.out _) rfl ?_)) | ((refine acCall (k := 19) ?_); (refine Spec.of_reads (HD.out _) rfl ?_)) | ((refine acCall (k := 17) ?_); (refine Spec.of_reads (HA.out _) rfl ?_)) | ((refine acCall (k := 17) ?_); (refine Spec.of_reads (HB.out _) rfl ?_))); (refine ⟨?_, ?_⟩; (exact rvsA))) | (refine pvC0 (h := ?_); (first | ((refine acCall (k := 15) ?_); (refine Spec.of_below_g alive21 (Old.tens ht pullA) rfl ?_)) | ((refine acCall (k := 18) ?_); (refine Spec.of_reads (HC.out _) rfl ?_)) | ((refine acCall (k := 19) ?_); (refine Spec.of_reads (HD.out _) rfl ?_)) | ((refine acCall (k := 17) ?_); (refine Spec.of_reads (HA.out _) rfl ?_)) | ((refine acCall (k := 17) ?_); (refine Spec.of_reads (HB.out _) rfl ?_))); (refine ⟨?_, ?_⟩; (exact rvsA))) | (refine pv1 (h := ?_) (hr := by fail)) | (refine pvF (h := ?_); intro b) | (refine pvK (h := ?_)) | (refine pvK0 (h := ?_)) | (refine pv_nil ?_; intro a w F M; refine ql_open ?_) | (refine pv_nil ?_; intro a w F M; (try (replace F := F.filt [0, 1, 2, 3, 5, 6, 7, 8] rfl)))) | ((fail_if_success (with_reducible show wpList _ _ _ _ _ _)); (fail_if_success (with_reducible show PW _ _ _ _ _ _ _ _ _ _)); (fail_if_success (with_reducible show Code.wp _ (Code.loop _) _ _ _)); (first | ((with_reducible show Code.wp _ (Code.region _ _ false) _ _ _); (refine sx_region ?_)) | ((with_reducible show Code.wp _ (Code.cond _ _ _) _ _ _); (first | (refine svT F (h := ?_)) | (refine svF F (h := ?_)) | ((refine svB F (fun hc => ?_) (fun hc => ?_)) <;> (try (exact no hc))))) | ((with_reducible show Code.wp _ (Code.region _ _ true) _ _ _); fail) | go_step))))
  (all_goals ((first | (refine svEnd F M ?_) | (refine svRet F M ?_)); refine ⟨?_, M.below (by (focus ((repeat (first | exact Pull.here | apply Pull.there)); done)))⟩))
  all_goals first | (simp [tupOf]; done) | rfl
end Go.Proofs.YtffmcnaaaojgpaaDoor
