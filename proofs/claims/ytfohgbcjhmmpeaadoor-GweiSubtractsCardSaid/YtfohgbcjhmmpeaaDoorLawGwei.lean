/- The statements of gwei: Sub, Ceil and the reference; the example. -/
import Derived.Test.YtfohgbcjhmmpeaaDoorGweiAdd
import Derived.Test.YtfohgbcjhmmpeaaDoorGweiMul
import Derived.Test.YtfohgbcjhmmpeaaDoorRefGwei
namespace Go.Proofs.YtfohgbcjhmmpeaaDoor
open Go.RowKit
set_option linter.unusedVariables false
set_option maxRecDepth 100000
set_option linter.unusedSimpArgs false
set_option maxHeartbeats 2000000
theorem sub_reads (a b : Int) (ha : U64 a) (hb : U64 b) {L : List Asn} : Reads 17 [.int .u64 a, .int .u64 b] (.tuple [.int .u64 (if b > a then 0 else a - b), .bool (decide (b ≤ a))].toArray) L := by
  (intro K hK w M; refine sx_enter Tryd.func17 (n := 12) rfl rfl rfl rfl ?_; intro a F)
  have := ha.1; have := ha.2; have := hb.1; have := hb.2
  (repeat' (first | (first | (refine sx_nil ?_; (try (replace F := F.filt [0, 1, 4, 5, 8] rfl))) | (refine sv1 F M (h := ?_) (hr := by fail); clear F a; intro a F) | (refine sv1 F M (h := ?_); clear F a; intro a F) | (refine sv3 F M (h := ?_); clear M; intro w M) | (refine sv2 F M (h := ?_); clear F M a; intro b a w F M) | (refine svC F M (h := ?_); fail; (clear F M a; intro a w F M)) | (refine svC0 F M (h := ?_); fail; (clear M; intro w M)) | (refine sv1 F M (h := ?_) (hr := by fail); clear F a; intro a F) | (refine svK F (h := ?_); clear F a; intro a F) | (refine svK0 F (h := ?_)) | ((refine sx_guardb F rfl (fun hg => ?_) (fun hg => ?_)) <;> (rw [hg] at F; (try (exact no hg))))) | (first | (refine pv1 (h := ?_) (hr := by fail)) | (refine pv1 (h := ?_)) | (refine pv3 (h := ?_)) | (refine pv2 (h := ?_); intro b) | (refine pvC (h := ?_); fail; (refine ⟨?_, ?_⟩; (exact rvsA))) | (refine pvC0 (h := ?_); fail; (refine ⟨?_, ?_⟩; (exact rvsA))) | (refine pv1 (h := ?_) (hr := by fail)) | (refine pvF (h := ?_); intro b) | (refine pvK (h := ?_)) | (refine pvK0 (h := ?_)) | (refine pv_nil ?_; intro a w F M; (try (replace F := F.filt [0, 1, 4, 5, 8] rfl)))) | ((fail_if_success (with_reducible show wpList _ _ _ _ _ _)); (fail_if_success (with_reducible show PW _ _ _ _ _ _ _ _ _ _)); (first | (refine sx_region ?_) | (first | (refine svT F (h := ?_)) | (refine svF F (h := ?_)) | ((refine svB F (fun hc => ?_) (fun hc => ?_)) <;> (try (exact no hc)))) | fail | go_step))))
  (all_goals ((first | (refine svEnd F M ?_) | (refine svRet F M ?_)); refine ⟨?_, M.perms permsA⟩))
  all_goals simp_all [tupOf]
  all_goals omega
def ceilR (x d : Int) : Int × Bool := if d = 0 then (0, false) else (if x % d > 0 then x / d + 1 else x / d, true)
theorem ceil_reads (x d : Int) (ha : U64 x) (hd : U64 d) {L : List Asn} : Reads 11 [.int .u64 x, .int .u64 d] (.tuple [.int .u64 (ceilR x d).1, .bool (ceilR x d).2].toArray) L := by
  (intro K hK w M; refine sx_enter Tryd.func11 (n := 17) rfl rfl rfl rfl ?_; intro a F)
  have h1 := ha.1; have h2 := ha.2; have h3 := hd.1; have h4 := hd.2
  by_cases h0 : d = 0
  · subst h0
    (repeat' (first | (first | (refine sx_nil ?_; (try (replace F := F.filt [0, 1, 4, 5, 6, 9] rfl))) | (refine sv1 F M (h := ?_) (hr := by fail); clear F a; intro a F) | (refine sv1 F M (h := ?_); clear F a; intro a F) | (refine sv3 F M (h := ?_); clear M; intro w M) | (refine sv2 F M (h := ?_); clear F M a; intro b a w F M) | (refine svC F M (h := ?_); fail; (clear F M a; intro a w F M)) | (refine svC0 F M (h := ?_); fail; (clear M; intro w M)) | (refine sv1 F M (h := ?_) (hr := by fail); clear F a; intro a F) | (refine svK F (h := ?_); clear F a; intro a F) | (refine svK0 F (h := ?_)) | ((refine sx_guardb F rfl (fun hg => ?_) (fun hg => ?_)) <;> (rw [hg] at F; (try (exact no hg))))) | (first | (refine pv1 (h := ?_) (hr := by fail)) | (refine pv1 (h := ?_)) | (refine pv3 (h := ?_)) | (refine pv2 (h := ?_); intro b) | (refine pvC (h := ?_); fail; (refine ⟨?_, ?_⟩; (exact rvsA))) | (refine pvC0 (h := ?_); fail; (refine ⟨?_, ?_⟩; (exact rvsA))) | (refine pv1 (h := ?_) (hr := by fail)) | (refine pvF (h := ?_); intro b) | (refine pvK (h := ?_)) | (refine pvK0 (h := ?_)) | (refine pv_nil ?_; intro a w F M; (try (replace F := F.filt [0, 1, 4, 5, 6, 9] rfl)))) | ((fail_if_success (with_reducible show wpList _ _ _ _ _ _)); (fail_if_success (with_reducible show PW _ _ _ _ _ _ _ _ _ _)); (first | (refine sx_region ?_) | (first | (refine svT F (h := ?_)) | (refine svF F (h := ?_)) | ((refine svB F (fun hc => ?_) (fun hc => ?_)) <;> (try (exact no hc)))) | fail | go_step))))
    (all_goals ((first | (refine svEnd F M ?_) | (refine svRet F M ?_)); refine ⟨?_, M.perms permsA⟩))
    all_goals rfl
  · by_cases ha0 : x = 0
    · subst ha0
      (repeat' (first | (first | (refine sx_nil ?_; (try (replace F := F.filt [0, 1, 4, 5, 6, 9] rfl))) | (refine sv1 F M (h := ?_) (hr := by fail); clear F a; intro a F) | (refine sv1 F M (h := ?_); clear F a; intro a F) | (refine sv3 F M (h := ?_); clear M; intro w M) | (refine sv2 F M (h := ?_); clear F M a; intro b a w F M) | (refine svC F M (h := ?_); fail; (clear F M a; intro a w F M)) | (refine svC0 F M (h := ?_); fail; (clear M; intro w M)) | (refine sv1 F M (h := ?_) (hr := by fail); clear F a; intro a F) | (refine svK F (h := ?_); clear F a; intro a F) | (refine svK0 F (h := ?_)) | ((refine sx_guardb F rfl (fun hg => ?_) (fun hg => ?_)) <;> (rw [hg] at F; (try (exact no hg))))) | (first | (refine pv1 (h := ?_) (hr := by fail)) | (refine pv1 (h := ?_)) | (refine pv3 (h := ?_)) | (refine pv2 (h := ?_); intro b) | (refine pvC (h := ?_); fail; (refine ⟨?_, ?_⟩; (exact rvsA))) | (refine pvC0 (h := ?_); fail; (refine ⟨?_, ?_⟩; (exact rvsA))) | (refine pv1 (h := ?_) (hr := by fail)) | (refine pvF (h := ?_); intro b) | (refine pvK (h := ?_)) | (refine pvK0 (h := ?_)) | (refine pv_nil ?_; intro a w F M; (try (replace F := F.filt [0, 1, 4, 5, 6, 9] rfl)))) | ((fail_if_success (with_reducible show wpList _ _ _ _ _ _)); (fail_if_success (with_reducible show PW _ _ _ _ _ _ _ _ _ _)); (first | (refine sx_region ?_) | (first | (refine svT F (h := ?_)) | (refine svF F (h := ?_)) | ((refine svB F (fun hc => ?_) (fun hc => ?_)) <;> (try (exact no hc)))) | fail | go_step))))
      (all_goals ((first | (refine svEnd F M ?_) | (refine svRet F M ?_)); refine ⟨?_, M.perms permsA⟩))
      simp [tupOf, ceilR, h0]
    · have hq : (x - 1) / d + 1 = if x % d > 0 then x / d + 1 else x / d := by
        have e1 := Int.mul_ediv_add_emod x d
        have e2 : 0 ≤ x % d := Int.emod_nonneg x h0
        have e3 : x % d < d := Int.emod_lt_of_pos x (by omega)
        split
        · congr 1
          rename_i hp
          have := Int.ediv_emod_unique (a := x - 1) (b := d) (r := x % d - 1) (q := x / d) (by omega)
          exact (this.2 ⟨by omega, by omega, by omega⟩).1
        · rename_i hp
          have hm : x % d = 0 := by omega
          have := Int.ediv_emod_unique (a := x - 1) (b := d) (r := d - 1) (q := x / d - 1) (by omega)
          have := (this.2 ⟨by rw [Int.mul_sub, Int.mul_one]; omega, by omega, by omega⟩).1
          omega
      have hle : (x - 1) / d + 1 ≤ x := by
        have := Int.ediv_le_self (a := x - 1) d (by omega)
        omega
      have hge : 0 ≤ (x - 1) / d := Int.ediv_nonneg (by omega) (by omega)
      have hqw : IntKind.u64.wrap ((x - 1) / d) = (x - 1) / d := u64_in hge (by omega)
      (repeat' (first | (first | (refine sx_nil ?_; (try (replace F := F.filt [0, 1, 4, 5, 6, 9] rfl))) | (refine sv1 F M (h := ?_) (hr := by fail); clear F a; intro a F) | (refine sv1 F M (h := ?_); clear F a; intro a F) | (refine sv3 F M (h := ?_); clear M; intro w M) | (refine sv2 F M (h := ?_); clear F M a; intro b a w F M) | (refine svC F M (h := ?_); fail; (clear F M a; intro a w F M)) | (refine svC0 F M (h := ?_); fail; (clear M; intro w M)) | (refine sv1 F M (h := ?_) (hr := by fail); clear F a; intro a F) | (refine svK F (h := ?_); clear F a; intro a F) | (refine svK0 F (h := ?_)) | ((refine sx_guardb F rfl (fun hg => ?_) (fun hg => ?_)) <;> (rw [hg] at F; (try (exact no hg))))) | (first | (refine pv1 (h := ?_) (hr := by fail)) | (refine pv1 (h := ?_)) | (refine pv3 (h := ?_)) | (refine pv2 (h := ?_); intro b) | (refine pvC (h := ?_); fail; (refine ⟨?_, ?_⟩; (exact rvsA))) | (refine pvC0 (h := ?_); fail; (refine ⟨?_, ?_⟩; (exact rvsA))) | (refine pv1 (h := ?_) (hr := by fail)) | (refine pvF (h := ?_); intro b) | (refine pvK (h := ?_)) | (refine pvK0 (h := ?_)) | (refine pv_nil ?_; intro a w F M; (try (replace F := F.filt [0, 1, 4, 5, 6, 9] rfl)))) | ((fail_if_success (with_reducible show wpList _ _ _ _ _ _)); (fail_if_success (with_reducible show PW _ _ _ _ _ _ _ _ _ _)); (first | (refine sx_region ?_) | (first | (refine svT F (h := ?_)) | (refine svF F (h := ?_)) | ((refine svB F (fun hc => ?_) (fun hc => ?_)) <;> (try (exact no hc)))) | fail | go_step))))
      (all_goals ((first | (refine svEnd F M ?_) | (refine svRet F M ?_)); refine ⟨?_, M.perms permsA⟩))
      simp [tupOf, ceilR, h0, hq]
theorem rceil_reads (x d : Int) (ha : U64 x) (hd : U64 d) {L : List Asn} : Reads 12 [.int .u64 x, .int .u64 d] (.tuple [.int .u64 (ceilR x d).1, .bool (ceilR x d).2].toArray) L := by
  (intro K hK w M; refine sx_enter Tryd.func12 (n := 19) rfl rfl rfl rfl ?_; intro a F)
  have h1 := ha.1; have h2 := ha.2; have h3 := hd.1; have h4 := hd.2
  by_cases h0 : d = 0
  · subst h0
    (repeat' (first | (first | (refine sx_nil ?_; (try (replace F := F.filt [0, 1, 4, 5, 6, 8, 15] rfl))) | (refine sv1 F M (h := ?_) (hr := by fail); clear F a; intro a F) | (refine sv1 F M (h := ?_); clear F a; intro a F) | (refine sv3 F M (h := ?_); clear M; intro w M) | (refine sv2 F M (h := ?_); clear F M a; intro b a w F M) | (refine svC F M (h := ?_); fail; (clear F M a; intro a w F M)) | (refine svC0 F M (h := ?_); fail; (clear M; intro w M)) | (refine sv1 F M (h := ?_) (hr := by fail); clear F a; intro a F) | (refine svK F (h := ?_); clear F a; intro a F) | (refine svK0 F (h := ?_)) | ((refine sx_guardb F rfl (fun hg => ?_) (fun hg => ?_)) <;> (rw [hg] at F; (try (exact no hg))))) | (first | (refine pv1 (h := ?_) (hr := by fail)) | (refine pv1 (h := ?_)) | (refine pv3 (h := ?_)) | (refine pv2 (h := ?_); intro b) | (refine pvC (h := ?_); fail; (refine ⟨?_, ?_⟩; (exact rvsA))) | (refine pvC0 (h := ?_); fail; (refine ⟨?_, ?_⟩; (exact rvsA))) | (refine pv1 (h := ?_) (hr := by fail)) | (refine pvF (h := ?_); intro b) | (refine pvK (h := ?_)) | (refine pvK0 (h := ?_)) | (refine pv_nil ?_; intro a w F M; (try (replace F := F.filt [0, 1, 4, 5, 6, 8, 15] rfl)))) | ((fail_if_success (with_reducible show wpList _ _ _ _ _ _)); (fail_if_success (with_reducible show PW _ _ _ _ _ _ _ _ _ _)); (first | (refine sx_region ?_) | (first | (refine svT F (h := ?_)) | (refine svF F (h := ?_)) | ((refine svB F (fun hc => ?_) (fun hc => ?_)) <;> (try (exact no hc)))) | fail | go_step))))
    (all_goals ((first | (refine svEnd F M ?_) | (refine svRet F M ?_)); refine ⟨?_, M.perms permsA⟩))
    all_goals rfl
  · have hle : x / d ≤ x := Int.ediv_le_self d h1
    have hge : 0 ≤ x / d := Int.ediv_nonneg h1 h3
    have hqw : IntKind.u64.wrap (x / d) = x / d := u64_in hge (by omega)
    have hmax : x % d > 0 → x / d + 1 ≤ 18446744073709551615 := fun hp => by
      have e1 := Int.mul_ediv_add_emod x d
      have : x / d ≤ d * (x / d) := by
        have := Int.mul_le_mul_of_nonneg_right (show (1 : Int) ≤ d by omega) hge
        omega
      omega
    (repeat' (first | (first | (refine sx_nil ?_; (try (replace F := F.filt [0, 1, 4, 5, 6, 8, 15] rfl))) | (refine sv1 F M (h := ?_) (hr := by fail); clear F a; intro a F) | (refine sv1 F M (h := ?_); clear F a; intro a F) | (refine sv3 F M (h := ?_); clear M; intro w M) | (refine sv2 F M (h := ?_); clear F M a; intro b a w F M) | (refine svC F M (h := ?_); fail; (clear F M a; intro a w F M)) | (refine svC0 F M (h := ?_); fail; (clear M; intro w M)) | (refine sv1 F M (h := ?_) (hr := by fail); clear F a; intro a F) | (refine svK F (h := ?_); clear F a; intro a F) | (refine svK0 F (h := ?_)) | ((refine sx_guardb F rfl (fun hg => ?_) (fun hg => ?_)) <;> (rw [hg] at F; (try (exact no hg))))) | (first | (refine pv1 (h := ?_) (hr := by fail)) | (refine pv1 (h := ?_)) | (refine pv3 (h := ?_)) | (refine pv2 (h := ?_); intro b) | (refine pvC (h := ?_); fail; (refine ⟨?_, ?_⟩; (exact rvsA))) | (refine pvC0 (h := ?_); fail; (refine ⟨?_, ?_⟩; (exact rvsA))) | (refine pv1 (h := ?_) (hr := by fail)) | (refine pvF (h := ?_); intro b) | (refine pvK (h := ?_)) | (refine pvK0 (h := ?_)) | (refine pv_nil ?_; intro a w F M; (try (replace F := F.filt [0, 1, 4, 5, 6, 8, 15] rfl)))) | ((fail_if_success (with_reducible show wpList _ _ _ _ _ _)); (fail_if_success (with_reducible show PW _ _ _ _ _ _ _ _ _ _)); (first | (refine sx_region ?_) | (first | (refine svT F (h := ?_)) | (refine svF F (h := ?_)) | ((refine svB F (fun hc => ?_) (fun hc => ?_)) <;> (try (exact no hc)))) | fail | go_step))))
    (all_goals ((first | (refine svEnd F M ?_) | (refine svRet F M ?_)); refine ⟨?_, M.perms permsA⟩))
    all_goals simp_all [tupOf, ceilR]
    all_goals (intro h; omega)
/-- The example of the chapter. -/
theorem galive_any (w0 : World) (ht : Tens w0) : Calls Tryd.prog 10 [].toArray w0 fun e w' => e = .returned (.bool true) ∧ Below w0.heap.size w0 w' := by
  have HM := fun w => mulDiv_any 9223372036854775808 6 4 w (by decide) (by decide) (by decide) (by decide) (by decide) (by decide)
  rw [show mulF 9223372036854775808 6 4 = 13835058055282163712 by decide +kernel, show mulB 9223372036854775808 6 4 = true by decide +kernel] at HM
  have HF : ∀ w, Tens w → Calls Tryd.prog 21 [.int .u64 120].toArray w fun e w' => e = .returned (str [49, 50, 48]) ∧ Below w.heap.size w w' := fun w ht => by
    have := gfmt_any 120 (by decide) w ht
    rwa [show Lib.decDigits 120 = [49, 50, 48] by decide +kernel] at this
  have HC : ∀ L, Reads 11 [.int .u64 7, .int .u64 2] (.tuple [.int .u64 4, .bool true].toArray) L := fun L => by
    have := ceil_reads 7 2 ⟨by decide, by decide⟩ ⟨by decide, by decide⟩ (L := L)
    rwa [show ceilR 7 2 = (4, true) by decide +kernel] at this
  have HM := Lib.hid HM
  refine sx_enter Tryd.func10 (n := 29) rfl rfl rfl rfl ?_
  (intro a F; refine sv_start ?_; intro w M)
  (repeat' (first | (first | (refine sx_nil ?_; (try (replace F := F.filt [0, 1, 2, 3, 4] rfl))) | (refine sv1 F M (h := ?_) (hr := by fail); clear F a; intro a F) | (refine sv1 F M (h := ?_); clear F a; intro a F) | (refine sv3 F M (h := ?_); clear M; intro w M) | (refine sv2 F M (h := ?_); clear F M a; intro b a w F M) | (refine svC F M (h := ?_); ((first | ((refine acCall (k := 8) ?_); (refine Spec.of_below_eq HM.out rfl ?_)) | ((refine acCall (k := 11) ?_); (refine Spec.of_reads (HC _) rfl ?_)) | ((refine acCall (k := 21) ?_); (refine Spec.of_below_g HF (Old.tens ht (by (focus ((repeat (first | exact Pull.here | apply Pull.there)); done)))) rfl ?_)))); (clear F M a; intro a w F M)) | (refine svC0 F M (h := ?_); ((first | ((refine acCall (k := 8) ?_); (refine Spec.of_below_eq HM.out rfl ?_)) | ((refine acCall (k := 11) ?_); (refine Spec.of_reads (HC _) rfl ?_)) | ((refine acCall (k := 21) ?_); (refine Spec.of_below_g HF (Old.tens ht (by (focus ((repeat (first | exact Pull.here | apply Pull.there)); done)))) rfl ?_)))); (clear M; intro w M)) | (refine sv1 F M (h := ?_) (hr := by fail); clear F a; intro a F) | (refine svK F (h := ?_); clear F a; intro a F) | (refine svK0 F (h := ?_)) | ((refine sx_guardb F rfl (fun hg => ?_) (fun hg => ?_)) <;> (rw [hg] at F; (try (exact no hg))))) | (first | (refine pv1 (h := ?_) (hr := by fail)) | (refine pv1 (h := ?_)) | (refine pv3 (h := ?_)) | (refine pv2 (h := ?_); intro b) | (refine pvC (h := ?_); ((first | ((refine acCall (k := 8) ?_); (refine Spec.of_below_eq HM.out rfl ?_)) | ((refine acCall (k := 11) ?_); (refine Spec.of_reads (HC _) rfl ?_)) | ((refine acCall (k := 21) ?_); (refine Spec.of_below_g HF (Old.tens ht (by (focus ((repeat (first | exact Pull.here | apply Pull.there)); done)))) rfl ?_)))); (refine ⟨?_, ?_⟩; (exact rvsA))) | (refine pvC0 (h := ?_); ((first | ((refine acCall (k := 8) ?_); (refine Spec.of_below_eq HM.out rfl ?_)) | ((refine acCall (k := 11) ?_); (refine Spec.of_reads (HC _) rfl ?_)) | ((refine acCall (k := 21) ?_); (refine Spec.of_below_g HF (Old.tens ht (by (focus ((repeat (first | exact Pull.here | apply Pull.there)); done)))) rfl ?_)))); (refine ⟨?_, ?_⟩; (exact rvsA))) | (refine pv1 (h := ?_) (hr := by fail)) | (refine pvF (h := ?_); intro b) | (refine pvK (h := ?_)) | (refine pvK0 (h := ?_)) | (refine pv_nil ?_; intro a w F M; (try (replace F := F.filt [0, 1, 2, 3, 4] rfl)))) | ((fail_if_success (with_reducible show wpList _ _ _ _ _ _)); (fail_if_success (with_reducible show PW _ _ _ _ _ _ _ _ _ _)); (first | (refine sx_region ?_) | (first | (refine svT F (h := ?_)) | (refine svF F (h := ?_)) | ((refine svB F (fun hc => ?_) (fun hc => ?_)) <;> (try (exact no hc)))) | fail | go_step))))
  (all_goals ((first | (refine svEnd F M ?_) | (refine svRet F M ?_)); refine ⟨?_, M.below (by (focus ((repeat (first | exact Pull.here | apply Pull.there)); done)))⟩))
  all_goals rfl
end Go.Proofs.YtfohgbcjhmmpeaaDoor
