/- History: New, Len, Exit, Payments, Assigned, Order, Late. -/
import Derived.Test.YtdlihlfknedpfaaHistB
import Derived.Test.YtdlihlfknedpfaaHistD
namespace Go.Proofs.Ytdlihlfknedpfaa
open Go.RowKit Go.Maps
set_option linter.unusedVariables false
set_option maxRecDepth 100000
set_option linter.unusedSimpArgs false
set_option maxHeartbeats 4000000
theorem log_open {w : World} {L : List Asn} {lb : Nat} {q : HS} (M : Mem w (logA lb q :: L)) : ∃ m o' a' al, abs al = q.recs ∧ Mem w (pt lb [.map (some m), sl o', .int .i64 q.n, .int .i64 q.ep, sl a'] 78 :: mp m 3 (ptrs al) :: ownT 3 intL 1 (sl o') q.ord :: ownT 52 asgL 3 (sl a') q.asg :: restA al :: L) := by
  obtain ⟨⟨m, o', a', al⟩, M⟩ := M.exo
  simp only [List.cons_append, List.nil_append] at M
  obtain ⟨h, M⟩ := M.factO
  exact ⟨m, o', a', al, h, M⟩
theorem rec_open {w : World} {L : List Asn} {l1 l2 : AL} {i : Int} {br : Nat} {r : Rd} (M : Mem w (restA (l1 ++ (i, br, r) :: l2) :: L)) : ∃ h, Mem w (pt br (recL r h) 80 :: ownT 46 pmL 3 (sl h) r.pays :: restA (l1 ++ l2) :: L) := by
  obtain ⟨h, M⟩ := (rest_open M).exo
  exact ⟨h, M⟩
theorem no_ptrs {al : AL} {i : Int} (h : ∀ x ∈ al, x.1 ≠ i) : ∀ p ∈ ptrs al, p.1 ≠ .int .i64 i := fun p hp => by
  obtain ⟨x, hx, rfl⟩ := List.mem_map.1 hp
  have := h x hx
  simpa using this
theorem in_ptrs (l1 l2 : AL) (i : Int) (b : Nat) (r : Rd) : (Value.int .i64 i, ptr b) ∈ ptrs (l1 ++ (i, b, r) :: l2) := by simp [ptrs]
theorem new_spec : Spec 23 [] [] fun u L' => ∃ lb, u = ptr lb ∧ L' = [logA lb ⟨[], [], 0, 0, []⟩] := by
  (intro G w M; refine sx_enter (vs := []) Try.func23 (n := 5) rfl rfl rfl rfl ?_; intro a F; (try simp only [List.cons_append, List.nil_append] at M))
  (repeat' (first | (first | (refine sx_nil ?_; (try (replace F := F.filt [0] rfl))) | (refine sv1 F M (h := ?_) (hr := by fail); clear F a; intro a F) | (refine sv1 F M (h := ?_); clear F a; intro a F) | (refine sv3 F M (h := ?_); clear M; intro w M) | (refine sv2 F M (h := ?_); clear F M a; intro b a w F M) | (refine svC F M (h := ?_); (refine ac_makeMap rfl inferInstance ?_; intro b0); (clear F M a; intro a w F M)) | (refine svC0 F M (h := ?_); (refine ac_makeMap rfl inferInstance ?_; intro b0); (clear M; intro w M)) | (refine sv1 F M (h := ?_) (hr := by fail); clear F a; intro a F) | (refine svK F (h := ?_); clear F a; intro a F) | (refine svK0 F (h := ?_)) | ((refine sx_guardb F rfl (fun hg => ?_) (fun hg => ?_)) <;> (rw [hg] at F; (try (exact no hg))))) | (first | (refine pv1 (h := ?_) (hr := by fail)) | (refine pv1 (h := ?_)) | (refine pv3 (h := ?_)) | (refine pv2 (h := ?_); intro b) | (refine pvC (h := ?_); (refine ac_makeMap rfl inferInstance ?_; intro b0); (refine ⟨?_, ?_⟩; (exact rvsA))) | (refine pvC0 (h := ?_); (refine ac_makeMap rfl inferInstance ?_; intro b0); (refine ⟨?_, ?_⟩; (exact rvsA))) | (refine pv1 (h := ?_) (hr := by fail)) | (refine pvF (h := ?_); intro b) | (refine pvK (h := ?_)) | (refine pvK0 (h := ?_)) | (refine pv_nil ?_; intro a w F M; refine ql_open ?_) | (refine pv_nil ?_; intro a w F M; (try (replace F := F.filt [0] rfl)))) | ((fail_if_success (with_reducible show wpList _ _ _ _ _ _)); (fail_if_success (with_reducible show PW _ _ _ _ _ _ _ _ _ _)); (fail_if_success (with_reducible show Code.wp _ (Code.loop _) _ _ _)); (first | ((with_reducible show Code.wp _ (Code.region _ _ false) _ _ _); (refine sx_region ?_)) | ((with_reducible show Code.wp _ (Code.cond _ _ _) _ _ _); (first | (refine svT F (h := ?_)) | (refine svF F (h := ?_)) | ((refine svB F (fun hc => ?_) (fun hc => ?_)) <;> (try (exact no hc))))) | ((with_reducible show Code.wp _ (Code.region _ _ true) _ _ _); fail) | go_step))))
  all_goals (first | (refine svEnd F M ?_) | (refine svRet F M ?_))
  refine ⟨_, _, rfl, ⟨b, rfl, rfl⟩, ?_⟩
  replace M := rest_nil ((M.own_nil 3 1).own_nil 52 3)
  refine log_close (m := b0) (o' := ⟨none, 0, 0⟩) (a' := ⟨none, 0, 0⟩) (n := 0) (ep := 0) (ord := []) (asg := []) (al := []) ?_ rfl
  exact M.perms permsA
theorem len_spec (lb : Nat) (q : HS) : Keeps 15 [ptr lb] (.int .i64 q.n) [logA lb q] := by
  intro G w M
  obtain ⟨m, o', a', al, hal, M⟩ := log_open M
  refine sx_enter (vs := ([ptr lb] : List Value)) Try.func15 (n := 9) rfl rfl rfl rfl ?_
  intro a F
  (repeat' (first | (first | (refine sx_nil ?_; (try (replace F := F.filt [0, 2, 4] rfl))) | (refine sv1 F M (h := ?_) (hr := by fail); clear F a; intro a F) | (refine sv1 F M (h := ?_); clear F a; intro a F) | (refine sv3 F M (h := ?_); clear M; intro w M) | (refine sv2 F M (h := ?_); clear F M a; intro b a w F M) | (refine svC F M (h := ?_); fail; (clear F M a; intro a w F M)) | (refine svC0 F M (h := ?_); fail; (clear M; intro w M)) | (refine sv1 F M (h := ?_) (hr := by fail); clear F a; intro a F) | (refine svK F (h := ?_); clear F a; intro a F) | (refine svK0 F (h := ?_)) | ((refine sx_guardb F rfl (fun hg => ?_) (fun hg => ?_)) <;> (rw [hg] at F; (try (exact no hg))))) | (first | (refine pv1 (h := ?_) (hr := by fail)) | (refine pv1 (h := ?_)) | (refine pv3 (h := ?_)) | (refine pv2 (h := ?_); intro b) | (refine pvC (h := ?_); fail; (refine ⟨?_, ?_⟩; (exact rvsA))) | (refine pvC0 (h := ?_); fail; (refine ⟨?_, ?_⟩; (exact rvsA))) | (refine pv1 (h := ?_) (hr := by fail)) | (refine pvF (h := ?_); intro b) | (refine pvK (h := ?_)) | (refine pvK0 (h := ?_)) | (refine pv_nil ?_; intro a w F M; refine ql_open ?_) | (refine pv_nil ?_; intro a w F M; (try (replace F := F.filt [0, 2, 4] rfl)))) | ((fail_if_success (with_reducible show wpList _ _ _ _ _ _)); (fail_if_success (with_reducible show PW _ _ _ _ _ _ _ _ _ _)); (fail_if_success (with_reducible show Code.wp _ (Code.loop _) _ _ _)); (first | ((with_reducible show Code.wp _ (Code.region _ _ false) _ _ _); (refine sx_region ?_)) | ((with_reducible show Code.wp _ (Code.cond _ _ _) _ _ _); (first | (refine svT F (h := ?_)) | (refine svF F (h := ?_)) | ((refine svB F (fun hc => ?_) (fun hc => ?_)) <;> (try (exact no hc))))) | ((with_reducible show Code.wp _ (Code.region _ _ true) _ _ _); fail) | go_step))))
  all_goals (first | (refine svEnd F M ?_) | (refine svRet F M ?_))
  exact ⟨_, _, rfl, ⟨rfl, rfl⟩, log_close (M.perms permsA) (by rw [hal])⟩
def exOf (q : HS) (i : Int) : Ex := if (getR i q.recs).rd = true then (getR i q.recs).ex else ⟨0, 0, 0, 0, 0, 0, 0⟩
theorem exit_spec (lb : Nat) (q : HS) (i : Int) (hi : I64 i) : Keeps 13 [ptr lb, .int .i64 i] (.tuple [.agg (exL (exOf q i)).toArray, .bool (getR i q.recs).rd].toArray) [logA lb q] := by
  intro G w M
  obtain ⟨m, o', a', al, hal, M⟩ := log_open M
  refine sx_enter (vs := ([ptr lb, .int .i64 i] : List Value)) Try.func13 (n := 42) rfl rfl rfl rfl ?_
  intro a F
  have hE : logA lb q = logA lb ⟨abs al, q.ord, q.n, q.ep, q.asg⟩ := by rw [hal]
  rcases abs_split i al with ⟨l1, br, l2, h1, h2⟩ | ⟨h1, h2, h3⟩
  · obtain ⟨r, hr⟩ : ∃ r, getR i (abs al) = r := ⟨_, rfl⟩
    rw [hr] at h1
    have hin : (Value.int .i64 i, ptr br) ∈ ptrs al := by rw [h1]; exact in_ptrs _ _ _ _ _
    have M := M.perms (permsA : Perms _ (restA al :: pt lb [.map (some m), sl o', .int .i64 q.n, .int .i64 q.ep, sl a'] 78 :: mp m 3 (ptrs al) :: ownT 3 intL 1 (sl o') q.ord :: ownT 52 asgL 3 (sl a') q.asg :: G))
    rw [show restA al = restA (l1 ++ (i, br, r) :: l2) by rw [← h1]] at M
    obtain ⟨h, M⟩ := rec_open M
    (repeat' (first | (first | (refine sx_nil ?_; (try (replace F := F.filt [0, 1, 4, 5, 30] rfl))) | (refine sv1 F M (h := ?_) (hr := by fail); clear F a; intro a F) | (refine sv1 F M (h := ?_); clear F a; intro a F) | (refine sv3 F M (h := ?_); clear M; intro w M) | (refine sv2 F M (h := ?_); clear F M a; intro b a w F M) | (refine svC F M (h := ?_); fail; (clear F M a; intro a w F M)) | (refine svC0 F M (h := ?_); fail; (clear M; intro w M)) | (refine sv1 F M (h := ?_) (hr := by (first | (apply rt_hit1; (exact rfl); (exact rfl); (exact rfl); (exact inferInstance); (exact gives_mp pullA); (exact intKey hi); (assumption)) | (apply rt_miss1; (exact rfl); (exact rfl); (exact rfl); (exact inferInstance); (exact gives_mp pullA); (exact intKey hi); (assumption); (exact inferInstance)))); clear F a; intro a F) | (refine svK F (h := ?_); clear F a; intro a F) | (refine svK0 F (h := ?_)) | ((refine sx_guardb F rfl (fun hg => ?_) (fun hg => ?_)) <;> (rw [hg] at F; (try (exact no hg))))) | (first | (refine pv1 (h := ?_) (hr := by fail)) | (refine pv1 (h := ?_)) | (refine pv3 (h := ?_)) | (refine pv2 (h := ?_); intro b) | (refine pvC (h := ?_); fail; (refine ⟨?_, ?_⟩; (exact rvsA))) | (refine pvC0 (h := ?_); fail; (refine ⟨?_, ?_⟩; (exact rvsA))) | (refine pv1 (h := ?_) (hr := by (first | (apply rt_hit1; (exact rfl); (exact rfl); (exact rfl); (exact inferInstance); (exact gives_mp pullA); (exact intKey hi); (assumption)) | (apply rt_miss1; (exact rfl); (exact rfl); (exact rfl); (exact inferInstance); (exact gives_mp pullA); (exact intKey hi); (assumption); (exact inferInstance))))) | (refine pvF (h := ?_); intro b) | (refine pvK (h := ?_)) | (refine pvK0 (h := ?_)) | (refine pv_nil ?_; intro a w F M; refine ql_open ?_) | (refine pv_nil ?_; intro a w F M; (try (replace F := F.filt [0, 1, 4, 5, 30] rfl)))) | ((fail_if_success (with_reducible show wpList _ _ _ _ _ _)); (fail_if_success (with_reducible show PW _ _ _ _ _ _ _ _ _ _)); (fail_if_success (with_reducible show Code.wp _ (Code.loop _) _ _ _)); (first | ((with_reducible show Code.wp _ (Code.region _ _ false) _ _ _); (refine sx_region ?_)) | ((with_reducible show Code.wp _ (Code.cond _ _ _) _ _ _); (first | (refine svT F (h := ?_)) | (refine svF F (h := ?_)) | ((refine svB F (fun hc => ?_) (fun hc => ?_)) <;> (try (exact no hc))))) | ((with_reducible show Code.wp _ (Code.region _ _ true) _ _ _); fail) | go_step))))
    all_goals (first | (refine svEnd F M ?_) | (refine svRet F M ?_))
    all_goals (refine ⟨_, _, rfl, ⟨?_, rfl⟩, ?_⟩)
    all_goals first
      | (have M := rec_close (l1 := l1) (l2 := l2) (i := i) (br := br) (r := r) (h := h) (M.perms permsA)
         rw [← h1] at M
         exact log_close (M.perms permsA) (by rw [hal]))
      | (rw [exOf, ← hal, hr, if_pos (by assumption), show r.rd = true by assumption]; rfl)
      | (rw [exOf, ← hal, hr, if_neg (by simp only [Bool.not_eq_true]; assumption), show r.rd = false by assumption]; rfl)
  · have hno := no_ptrs h1
    (repeat' (first | (first | (refine sx_nil ?_; (try (replace F := F.filt [0, 1, 4, 5, 30] rfl))) | (refine sv1 F M (h := ?_) (hr := by fail); clear F a; intro a F) | (refine sv1 F M (h := ?_); clear F a; intro a F) | (refine sv3 F M (h := ?_); clear M; intro w M) | (refine sv2 F M (h := ?_); clear F M a; intro b a w F M) | (refine svC F M (h := ?_); fail; (clear F M a; intro a w F M)) | (refine svC0 F M (h := ?_); fail; (clear M; intro w M)) | (refine sv1 F M (h := ?_) (hr := by (first | (apply rt_hit1; (exact rfl); (exact rfl); (exact rfl); (exact inferInstance); (exact gives_mp pullA); (exact intKey hi); (assumption)) | (apply rt_miss1; (exact rfl); (exact rfl); (exact rfl); (exact inferInstance); (exact gives_mp pullA); (exact intKey hi); (assumption); (exact inferInstance)))); clear F a; intro a F) | (refine svK F (h := ?_); clear F a; intro a F) | (refine svK0 F (h := ?_)) | ((refine sx_guardb F rfl (fun hg => ?_) (fun hg => ?_)) <;> (rw [hg] at F; (try (exact no hg))))) | (first | (refine pv1 (h := ?_) (hr := by fail)) | (refine pv1 (h := ?_)) | (refine pv3 (h := ?_)) | (refine pv2 (h := ?_); intro b) | (refine pvC (h := ?_); fail; (refine ⟨?_, ?_⟩; (exact rvsA))) | (refine pvC0 (h := ?_); fail; (refine ⟨?_, ?_⟩; (exact rvsA))) | (refine pv1 (h := ?_) (hr := by (first | (apply rt_hit1; (exact rfl); (exact rfl); (exact rfl); (exact inferInstance); (exact gives_mp pullA); (exact intKey hi); (assumption)) | (apply rt_miss1; (exact rfl); (exact rfl); (exact rfl); (exact inferInstance); (exact gives_mp pullA); (exact intKey hi); (assumption); (exact inferInstance))))) | (refine pvF (h := ?_); intro b) | (refine pvK (h := ?_)) | (refine pvK0 (h := ?_)) | (refine pv_nil ?_; intro a w F M; refine ql_open ?_) | (refine pv_nil ?_; intro a w F M; (try (replace F := F.filt [0, 1, 4, 5, 30] rfl)))) | ((fail_if_success (with_reducible show wpList _ _ _ _ _ _)); (fail_if_success (with_reducible show PW _ _ _ _ _ _ _ _ _ _)); (fail_if_success (with_reducible show Code.wp _ (Code.loop _) _ _ _)); (first | ((with_reducible show Code.wp _ (Code.region _ _ false) _ _ _); (refine sx_region ?_)) | ((with_reducible show Code.wp _ (Code.cond _ _ _) _ _ _); (first | (refine svT F (h := ?_)) | (refine svF F (h := ?_)) | ((refine svB F (fun hc => ?_) (fun hc => ?_)) <;> (try (exact no hc))))) | ((with_reducible show Code.wp _ (Code.region _ _ true) _ _ _); fail) | go_step))))
    all_goals (first | (refine svEnd F M ?_) | (refine svRet F M ?_))
    refine ⟨_, _, rfl, ⟨?_, rfl⟩, log_close (M.perms permsA) (by rw [hal])⟩
    rw [exOf, ← hal, h2]; rfl
end Go.Proofs.Ytdlihlfknedpfaa
