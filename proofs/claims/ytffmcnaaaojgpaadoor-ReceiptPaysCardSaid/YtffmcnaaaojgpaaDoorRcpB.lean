/- Receipts: Same and its reference, Few, Reject, Accept, Clone. -/
import Derived.Test.YtffmcnaaaojgpaaDoorRcp
namespace Go.Proofs.YtffmcnaaaojgpaaDoor
open Go.RowKit
set_option linter.unusedVariables false
set_option maxRecDepth 100000
set_option linter.unusedSimpArgs false
set_option maxHeartbeats 2000000
/-- A receipt. -/
structure Rc where
  k : Int
  c : Int
  ix : Int
  bk : Int
  ep : Int
  dl : Int
  vi : Int
  asg : List Asg
  pms : List Pm
deriving DecidableEq
def rcL (r : Rc) (s p : SlH) : List Value := [.int .i64 r.k, .int .i64 r.c, .int .i64 r.ix, .int .i64 r.bk, .int .i64 r.ep, .int .i64 r.dl, sl s, sl p, .int .i64 r.vi]
abbrev rcV (r : Rc) (s p : SlH) : Value := .agg (rcL r s p).toArray
theorem equal_asg (u v : SlH) (xs ys : List Asg) {L : List Asn} (hu : GS L 3 (sl u) xs.length (xs.flatMap asgL)) (hv : GS L 3 (sl v) ys.length (ys.flatMap asgL)) :
    Reads 39 [sl u, sl v] (.bool (decide (xs = ys))) L := by
  (intro K hK w M; refine sx_enter (vs := [sl u, sl v]) Tryd.func39 (n := 8) rfl rfl rfl rfl ?_; intro a F)
  replace hu := hu.imp hK
  replace hv := hv.imp hK
  (repeat' (first | (first | (refine sx_nil ?_; (try (replace F := F.filt [0, 1, 4] rfl))) | (refine sv1 F M (h := ?_) (hr := by fail); clear F a; intro a F) | (refine sv1 F M (h := ?_); clear F a; intro a F) | (refine sv3 F M (h := ?_); clear M; intro w M) | (refine sv2 F M (h := ?_); clear F M a; intro b a w F M) | (refine svC F M (h := ?_); ((refine acCall (k := 72) ?_); (refine Spec.of_reads (eqs_asg (sl u) (sl v) xs ys hu hv) rfl ?_)); (clear F M a; intro a w F M)) | (refine svC0 F M (h := ?_); ((refine acCall (k := 72) ?_); (refine Spec.of_reads (eqs_asg (sl u) (sl v) xs ys hu hv) rfl ?_)); (clear M; intro w M)) | (refine sv1 F M (h := ?_) (hr := by fail); clear F a; intro a F) | (refine svK F (h := ?_); clear F a; intro a F) | (refine svK0 F (h := ?_)) | ((refine sx_guardb F rfl (fun hg => ?_) (fun hg => ?_)) <;> (rw [hg] at F; (try (exact no hg))))) | (first | (refine pv1 (h := ?_) (hr := by fail)) | (refine pv1 (h := ?_)) | (refine pv3 (h := ?_)) | (refine pv2 (h := ?_); intro b) | (refine pvC (h := ?_); ((refine acCall (k := 72) ?_); (refine Spec.of_reads (eqs_asg (sl u) (sl v) xs ys hu hv) rfl ?_)); (refine ⟨?_, ?_⟩; (exact rvsA))) | (refine pvC0 (h := ?_); ((refine acCall (k := 72) ?_); (refine Spec.of_reads (eqs_asg (sl u) (sl v) xs ys hu hv) rfl ?_)); (refine ⟨?_, ?_⟩; (exact rvsA))) | (refine pv1 (h := ?_) (hr := by fail)) | (refine pvF (h := ?_); intro b) | (refine pvK (h := ?_)) | (refine pvK0 (h := ?_)) | (refine pv_nil ?_; intro a w F M; refine ql_open ?_) | (refine pv_nil ?_; intro a w F M; (try (replace F := F.filt [0, 1, 4] rfl)))) | ((fail_if_success (with_reducible show wpList _ _ _ _ _ _)); (fail_if_success (with_reducible show PW _ _ _ _ _ _ _ _ _ _)); (fail_if_success (with_reducible show Code.wp _ (Code.loop _) _ _ _)); (first | ((with_reducible show Code.wp _ (Code.region _ _ false) _ _ _); (refine sx_region ?_)) | ((with_reducible show Code.wp _ (Code.cond _ _ _) _ _ _); (first | (refine svT F (h := ?_)) | (refine svF F (h := ?_)) | ((refine svB F (fun hc => ?_) (fun hc => ?_)) <;> (try (exact no hc))))) | ((with_reducible show Code.wp _ (Code.region _ _ true) _ _ _); fail) | go_step))))
  (all_goals ((first | (refine svEnd F M ?_) | (refine svRet F M ?_)); refine ⟨?_, M.perms permsA⟩))
  rfl
theorem equal_pm (u v : SlH) (xs ys : List Pm) {L : List Asn} (hu : GS L 3 (sl u) xs.length (xs.flatMap pmL)) (hv : GS L 3 (sl v) ys.length (ys.flatMap pmL)) :
    Reads 40 [sl u, sl v] (.bool (decide (xs = ys))) L := by
  (intro K hK w M; refine sx_enter (vs := [sl u, sl v]) Tryd.func40 (n := 8) rfl rfl rfl rfl ?_; intro a F)
  replace hu := hu.imp hK
  replace hv := hv.imp hK
  (repeat' (first | (first | (refine sx_nil ?_; (try (replace F := F.filt [0, 1, 4] rfl))) | (refine sv1 F M (h := ?_) (hr := by fail); clear F a; intro a F) | (refine sv1 F M (h := ?_); clear F a; intro a F) | (refine sv3 F M (h := ?_); clear M; intro w M) | (refine sv2 F M (h := ?_); clear F M a; intro b a w F M) | (refine svC F M (h := ?_); ((refine acCall (k := 73) ?_); (refine Spec.of_reads (eqs_pm (sl u) (sl v) xs ys hu hv) rfl ?_)); (clear F M a; intro a w F M)) | (refine svC0 F M (h := ?_); ((refine acCall (k := 73) ?_); (refine Spec.of_reads (eqs_pm (sl u) (sl v) xs ys hu hv) rfl ?_)); (clear M; intro w M)) | (refine sv1 F M (h := ?_) (hr := by fail); clear F a; intro a F) | (refine svK F (h := ?_); clear F a; intro a F) | (refine svK0 F (h := ?_)) | ((refine sx_guardb F rfl (fun hg => ?_) (fun hg => ?_)) <;> (rw [hg] at F; (try (exact no hg))))) | (first | (refine pv1 (h := ?_) (hr := by fail)) | (refine pv1 (h := ?_)) | (refine pv3 (h := ?_)) | (refine pv2 (h := ?_); intro b) | (refine pvC (h := ?_); ((refine acCall (k := 73) ?_); (refine Spec.of_reads (eqs_pm (sl u) (sl v) xs ys hu hv) rfl ?_)); (refine ⟨?_, ?_⟩; (exact rvsA))) | (refine pvC0 (h := ?_); ((refine acCall (k := 73) ?_); (refine Spec.of_reads (eqs_pm (sl u) (sl v) xs ys hu hv) rfl ?_)); (refine ⟨?_, ?_⟩; (exact rvsA))) | (refine pv1 (h := ?_) (hr := by fail)) | (refine pvF (h := ?_); intro b) | (refine pvK (h := ?_)) | (refine pvK0 (h := ?_)) | (refine pv_nil ?_; intro a w F M; refine ql_open ?_) | (refine pv_nil ?_; intro a w F M; (try (replace F := F.filt [0, 1, 4] rfl)))) | ((fail_if_success (with_reducible show wpList _ _ _ _ _ _)); (fail_if_success (with_reducible show PW _ _ _ _ _ _ _ _ _ _)); (fail_if_success (with_reducible show Code.wp _ (Code.loop _) _ _ _)); (first | ((with_reducible show Code.wp _ (Code.region _ _ false) _ _ _); (refine sx_region ?_)) | ((with_reducible show Code.wp _ (Code.cond _ _ _) _ _ _); (first | (refine svT F (h := ?_)) | (refine svF F (h := ?_)) | ((refine svB F (fun hc => ?_) (fun hc => ?_)) <;> (try (exact no hc))))) | ((with_reducible show Code.wp _ (Code.region _ _ true) _ _ _); fail) | go_step))))
  (all_goals ((first | (refine svEnd F M ?_) | (refine svRet F M ?_)); refine ⟨?_, M.perms permsA⟩))
  rfl
theorem rc_eq (a b : Rc) : decide (a = b) = (decide (a.asg = b.asg) && decide (a.pms = b.pms) && (decide (a.k = b.k) && (decide (a.c = b.c) && (decide (a.ix = b.ix) && (decide (a.bk = b.bk) && (decide (a.ep = b.ep) && (decide (a.dl = b.dl) && decide (a.vi = b.vi)))))))) := by
  rw [Bool.eq_iff_iff]
  cases a; cases b
  simp
  constructor
  · rintro ⟨rfl, rfl, rfl, rfl, rfl, rfl, rfl, rfl, rfl⟩; simp
  · rintro ⟨⟨rfl, rfl⟩, rfl, rfl, rfl, rfl, rfl, rfl, rfl⟩; simp
section
variable {x y : Rc} {sx px sy py : SlH} {L : List Asn}
theorem same_reads (h1 : GS L 3 (sl sx) x.asg.length (x.asg.flatMap asgL)) (h2 : GS L 3 (sl px) x.pms.length (x.pms.flatMap pmL)) (h3 : GS L 3 (sl sy) y.asg.length (y.asg.flatMap asgL)) (h4 : GS L 3 (sl py) y.pms.length (y.pms.flatMap pmL)) :
    Reads 16 [rcV x sx px, rcV y sy py] (.bool (decide (x = y))) L := by
  (intro K hK w M; refine sx_enter (vs := [rcV x sx px, rcV y sy py]) Tryd.func16 (n := 52) rfl rfl rfl rfl ?_; intro a F)
  replace h1 := h1.imp hK
  replace h2 := h2.imp hK
  replace h3 := h3.imp hK
  replace h4 := h4.imp hK
  rw [rc_eq]
  (repeat' (first | (first | (refine sx_nil ?_; (try (replace F := F.filt [0, 1, 2, 3, 4, 5, 19] rfl))) | (refine sv1 F M (h := ?_) (hr := by fail); clear F a; intro a F) | (refine sv1 F M (h := ?_); clear F a; intro a F) | (refine sv3 F M (h := ?_); clear M; intro w M) | (refine sv2 F M (h := ?_); clear F M a; intro b a w F M) | (refine svC F M (h := ?_); (first | ((refine acCall (k := 39) ?_); (refine Spec.of_reads (equal_asg sx sy x.asg y.asg h1.tail.tail h3.tail.tail) rfl ?_)) | ((refine acCall (k := 40) ?_); (refine Spec.of_reads (equal_pm px py x.pms y.pms h2.tail.tail h4.tail.tail) rfl ?_))); (clear F M a; intro a w F M)) | (refine svC0 F M (h := ?_); (first | ((refine acCall (k := 39) ?_); (refine Spec.of_reads (equal_asg sx sy x.asg y.asg h1.tail.tail h3.tail.tail) rfl ?_)) | ((refine acCall (k := 40) ?_); (refine Spec.of_reads (equal_pm px py x.pms y.pms h2.tail.tail h4.tail.tail) rfl ?_))); (clear M; intro w M)) | (refine sv1 F M (h := ?_) (hr := by fail); clear F a; intro a F) | (refine svK F (h := ?_); clear F a; intro a F) | (refine svK0 F (h := ?_)) | ((refine sx_guardb F rfl (fun hg => ?_) (fun hg => ?_)) <;> (rw [hg] at F; (try (exact no hg))))) | (first | (refine pv1 (h := ?_) (hr := by fail)) | (refine pv1 (h := ?_)) | (refine pv3 (h := ?_)) | (refine pv2 (h := ?_); intro b) | (refine pvC (h := ?_); (first | ((refine acCall (k := 39) ?_); (refine Spec.of_reads (equal_asg sx sy x.asg y.asg h1.tail.tail h3.tail.tail) rfl ?_)) | ((refine acCall (k := 40) ?_); (refine Spec.of_reads (equal_pm px py x.pms y.pms h2.tail.tail h4.tail.tail) rfl ?_))); (refine ⟨?_, ?_⟩; (exact rvsA))) | (refine pvC0 (h := ?_); (first | ((refine acCall (k := 39) ?_); (refine Spec.of_reads (equal_asg sx sy x.asg y.asg h1.tail.tail h3.tail.tail) rfl ?_)) | ((refine acCall (k := 40) ?_); (refine Spec.of_reads (equal_pm px py x.pms y.pms h2.tail.tail h4.tail.tail) rfl ?_))); (refine ⟨?_, ?_⟩; (exact rvsA))) | (refine pv1 (h := ?_) (hr := by fail)) | (refine pvF (h := ?_); intro b) | (refine pvK (h := ?_)) | (refine pvK0 (h := ?_)) | (refine pv_nil ?_; intro a w F M; refine ql_open ?_) | (refine pv_nil ?_; intro a w F M; (try (replace F := F.filt [0, 1, 2, 3, 4, 5, 19] rfl)))) | ((fail_if_success (with_reducible show wpList _ _ _ _ _ _)); (fail_if_success (with_reducible show PW _ _ _ _ _ _ _ _ _ _)); (fail_if_success (with_reducible show Code.wp _ (Code.loop _) _ _ _)); (first | ((with_reducible show Code.wp _ (Code.region _ _ false) _ _ _); (refine sx_region ?_)) | ((with_reducible show Code.wp _ (Code.cond _ _ _) _ _ _); (first | (refine svT F (h := ?_)) | (refine svF F (h := ?_)) | ((refine svB F (fun hc => ?_) (fun hc => ?_)) <;> (try (exact no hc))))) | ((with_reducible show Code.wp _ (Code.region _ _ true) _ _ _); fail) | go_step))))
  (all_goals ((first | (refine svEnd F M ?_) | (refine svRet F M ?_)); refine ⟨?_, M.perms permsA⟩))
  all_goals simp_all [tupOf]
end
end Go.Proofs.YtffmcnaaaojgpaaDoor
