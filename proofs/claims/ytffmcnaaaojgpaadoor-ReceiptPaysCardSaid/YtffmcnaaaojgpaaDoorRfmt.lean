/- Decimal numbers: the reference's Format. -/
import Derived.Test.YtffmcnaaaojgpaaDoorFormat
namespace Go.Proofs.YtffmcnaaaojgpaaDoor
open Go.RowKit
set_option linter.unusedVariables false
set_option maxRecDepth 100000
set_option linter.unusedSimpArgs false
set_option maxHeartbeats 2000000
theorem rfmt_reads : ∀ (u : Nat) (hu : u < 18446744073709551616) {L : List Asn}, Reads 50 [.int .u64 u] (str (Lib.decDigits u)) L := by
  intro u
  induction u using Nat.strongRecOn with
  | _ u ih =>
    intro hu L
    by_cases h : u < 10
    · (intro K hK w M; refine sx_enter (vs := [.int .u64 u]) Tryd.func50 (n := 16) rfl rfl rfl rfl ?_; intro a F)
      have hd : ([48, 49, 50, 51, 52, 53, 54, 55, 56, 57].drop (u : Int).toNat).take (((u : Int) + 1).toNat - (u : Int).toNat) = Lib.decDigits u := by
        have : ((u : Int) + 1).toNat - (u : Int).toNat = 1 := by omega
        rw [this, Lib.decDigits_one h]
        rcases u with _ | _ | _ | _ | _ | _ | _ | _ | _ | _ | u
        all_goals first | rfl | omega
      (repeat' (first | (first | (refine sx_nil ?_; (try (replace F := F.filt [0, 2, 4] rfl))) | (refine sv1 F M (h := ?_) (hr := by fail); clear F a; intro a F) | (refine sv1 F M (h := ?_); clear F a; intro a F) | (refine sv3 F M (h := ?_); clear M; intro w M) | (refine sv2 F M (h := ?_); clear F M a; intro b a w F M) | (refine svC F M (h := ?_); fail; (clear F M a; intro a w F M)) | (refine svC0 F M (h := ?_); fail; (clear M; intro w M)) | (refine sv1 F M (h := ?_) (hr := by (apply rt_mid; (exact rfl); (exact rfl); (exact rfl); (exact rfl); (exact inferInstance); (focus omega); (focus omega); (simp; omega))); clear F a; intro a F) | (refine svK F (h := ?_); clear F a; intro a F) | (refine svK0 F (h := ?_)) | ((refine sx_guardb F rfl (fun hg => ?_) (fun hg => ?_)) <;> (rw [hg] at F; (try (exact no hg))))) | (first | (refine pv1 (h := ?_) (hr := by fail)) | (refine pv1 (h := ?_)) | (refine pv3 (h := ?_)) | (refine pv2 (h := ?_); intro b) | (refine pvC (h := ?_); fail; (refine ⟨?_, ?_⟩; (exact rvsA))) | (refine pvC0 (h := ?_); fail; (refine ⟨?_, ?_⟩; (exact rvsA))) | (refine pv1 (h := ?_) (hr := by (apply rt_mid; (exact rfl); (exact rfl); (exact rfl); (exact rfl); (exact inferInstance); (focus omega); (focus omega); (simp; omega)))) | (refine pvF (h := ?_); intro b) | (refine pvK (h := ?_)) | (refine pvK0 (h := ?_)) | (refine pv_nil ?_; intro a w F M; refine ql_open ?_) | (refine pv_nil ?_; intro a w F M; (try (replace F := F.filt [0, 2, 4] rfl)))) | ((fail_if_success (with_reducible show wpList _ _ _ _ _ _)); (fail_if_success (with_reducible show PW _ _ _ _ _ _ _ _ _ _)); (fail_if_success (with_reducible show Code.wp _ (Code.loop _) _ _ _)); (first | ((with_reducible show Code.wp _ (Code.region _ _ false) _ _ _); (refine sx_region ?_)) | ((with_reducible show Code.wp _ (Code.cond _ _ _) _ _ _); (first | (refine svT F (h := ?_)) | (refine svF F (h := ?_)) | ((refine svB F (fun hc => ?_) (fun hc => ?_)) <;> (try (exact no hc))))) | ((with_reducible show Code.wp _ (Code.region _ _ true) _ _ _); fail) | go_step))))
      (all_goals ((first | (refine svEnd F M ?_) | (refine svRet F M ?_)); refine ⟨?_, M.perms permsA⟩))
      rw [← hd]; rfl
    · (intro K hK w M; refine sx_enter (vs := [.int .u64 u]) Tryd.func50 (n := 16) rfl rfl rfl rfl ?_; intro a F)
      have hne : ¬ ((u : Int) < 10) := by omega
      have h1 : Lib.decDigits u = Lib.decDigits (u / 10) ++ Lib.decDigits (u % 10) := by
        rw [Lib.decDigits, dif_neg h, Lib.decDigits_one (i := u % 10) (by omega)]
      have hl1 : (Lib.decDigits (u / 10)).length ≤ 20 := dec_len _ (by omega)
      have hl2 : (Lib.decDigits (u % 10)).length ≤ 20 := dec_len _ (by omega)
      have H1 : ∀ L, Reads 50 [.int .u64 ((u : Int) / 10)] (str (Lib.decDigits (u / 10))) L := fun L => by
        have := ih (u / 10) (by omega) (by omega) (L := L)
        simpa using this
      have H2 : ∀ L, Reads 50 [.int .u64 ((u : Int) % 10)] (str (Lib.decDigits (u % 10))) L := fun L => by
        have := ih (u % 10) (by omega) (by omega) (L := L)
        simpa using this
      (repeat' (first | (first | (refine sx_nil ?_; (try (replace F := F.filt [0, 2, 4] rfl))) | (refine sv1 F M (h := ?_) (hr := by fail); clear F a; intro a F) | (refine sv1 F M (h := ?_); clear F a; intro a F) | (refine sv3 F M (h := ?_); clear M; intro w M) | (refine sv2 F M (h := ?_); clear F M a; intro b a w F M) | (refine svC F M (h := ?_); (first | ((refine acCall (k := 50) ?_); (refine Spec.of_reads (H1 _) rfl ?_)) | ((refine acCall (k := 50) ?_); (refine Spec.of_reads (H2 _) rfl ?_))); (clear F M a; intro a w F M)) | (refine svC0 F M (h := ?_); (first | ((refine acCall (k := 50) ?_); (refine Spec.of_reads (H1 _) rfl ?_)) | ((refine acCall (k := 50) ?_); (refine Spec.of_reads (H2 _) rfl ?_))); (clear M; intro w M)) | (refine sv1 F M (h := ?_) (hr := by fail); clear F a; intro a F) | (refine svK F (h := ?_); clear F a; intro a F) | (refine svK0 F (h := ?_)) | ((refine sx_guardb F rfl (fun hg => ?_) (fun hg => ?_)) <;> (rw [hg] at F; (try (exact no hg))))) | (first | (refine pv1 (h := ?_) (hr := by fail)) | (refine pv1 (h := ?_)) | (refine pv3 (h := ?_)) | (refine pv2 (h := ?_); intro b) | (refine pvC (h := ?_); (first | ((refine acCall (k := 50) ?_); (refine Spec.of_reads (H1 _) rfl ?_)) | ((refine acCall (k := 50) ?_); (refine Spec.of_reads (H2 _) rfl ?_))); (refine ⟨?_, ?_⟩; (exact rvsA))) | (refine pvC0 (h := ?_); (first | ((refine acCall (k := 50) ?_); (refine Spec.of_reads (H1 _) rfl ?_)) | ((refine acCall (k := 50) ?_); (refine Spec.of_reads (H2 _) rfl ?_))); (refine ⟨?_, ?_⟩; (exact rvsA))) | (refine pv1 (h := ?_) (hr := by fail)) | (refine pvF (h := ?_); intro b) | (refine pvK (h := ?_)) | (refine pvK0 (h := ?_)) | (refine pv_nil ?_; intro a w F M; refine ql_open ?_) | (refine pv_nil ?_; intro a w F M; (try (replace F := F.filt [0, 2, 4] rfl)))) | ((fail_if_success (with_reducible show wpList _ _ _ _ _ _)); (fail_if_success (with_reducible show PW _ _ _ _ _ _ _ _ _ _)); (fail_if_success (with_reducible show Code.wp _ (Code.loop _) _ _ _)); (first | ((with_reducible show Code.wp _ (Code.region _ _ false) _ _ _); (refine sx_region ?_)) | ((with_reducible show Code.wp _ (Code.cond _ _ _) _ _ _); (first | (refine svT F (h := ?_)) | (refine svF F (h := ?_)) | ((refine svB F (fun hc => ?_) (fun hc => ?_)) <;> (try (exact no hc))))) | ((with_reducible show Code.wp _ (Code.region _ _ true) _ _ _); fail) | go_step))))
      (all_goals ((first | (refine svEnd F M ?_) | (refine svRet F M ?_)); refine ⟨?_, M.perms permsA⟩))
      rw [h1]; rfl
theorem rfmt_int (m : Int) (h0 : 0 ≤ m) (h1 : m ≤ 18446744073709551615) {L : List Asn} : Reads 50 [.int .u64 m] (str (Lib.decDigits m.toNat)) L := by
  have := rfmt_reads m.toNat (by omega) (L := L)
  rwa [Int.toNat_of_nonneg h0] at this
end Go.Proofs.YtffmcnaaaojgpaaDoor
