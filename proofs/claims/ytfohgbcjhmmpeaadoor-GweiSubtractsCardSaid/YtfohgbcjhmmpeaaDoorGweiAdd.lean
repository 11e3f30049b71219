/- Sums of gwei: Add, Saturate and the reference's. -/
import Derived.Test.YtfohgbcjhmmpeaaDoorFormat
namespace Go.Proofs.YtfohgbcjhmmpeaaDoor
open Go.RowKit
set_option linter.unusedVariables false
set_option maxRecDepth 100000
set_option linter.unusedSimpArgs false
set_option maxHeartbeats 2000000
/-- A number of 64 bits, as a cell. -/
def u64L (z : Int) : List Value := [.int .u64 z]
instance : EL u64L 1 := ⟨fun _ => rfl, fun x u h => by simp [u64L] at h; subst h; rfl⟩
def U64 (z : Int) : Prop := 0 ≤ z ∧ z ≤ 18446744073709551615
/-- The sum, or that there is none. -/
def satGo : Int → List Int → Int × Bool
  | n, [] => (n, false)
  | n, x :: r => if 18446744073709551615 < n + x then (18446744073709551615, true) else satGo (n + x) r
theorem satGo_range : ∀ (l : List Int) (n : Int), U64 n → (∀ z ∈ l, U64 z) → U64 (satGo n l).1
  | [], n, h, _ => h
  | x :: r, n, h, hl => by
    have hx := hl x (by simp)
    rw [satGo]
    split
    · exact ⟨by omega, by omega⟩
    · exact satGo_range r _ ⟨by have := h.1; have := hx.1; omega, by omega⟩ fun z hz => hl z (by simp [hz])
theorem wrap_lt {n x : Int} (h : U64 n) (hx : U64 x) : (IntKind.u64.wrap (n + x) < n) ↔ 18446744073709551615 < n + x := by
  rw [IntKind.wrap_u64]
  have := h.1; have := h.2; have := hx.1; have := hx.2
  omega
theorem wrap_id {n : Int} (h : ¬ 18446744073709551615 < n) (h0 : 0 ≤ n) : IntKind.u64.wrap n = n := by
  rw [IntKind.wrap_u64]; omega
theorem drop_cons {α : Type} {l : List α} {k : Nat} {x : α} (h : l[k]? = some x) : l.drop k = x :: l.drop (k + 1) := by
  obtain ⟨h1, h2⟩ := List.getElem?_eq_some_iff.1 h
  rw [List.drop_eq_getElem_cons h1, h2]
theorem saturate_reads (v : Value) (zs : List Int) (hz : ∀ z ∈ zs, U64 z) {L : List Asn} (hg : GS L 1 v zs.length (zs.flatMap u64L)) :
    Reads 14 [v] (.tuple [.int .u64 (satGo 0 zs).1, .bool (satGo 0 zs).2].toArray) L := by
  (intro K hK w M; refine sx_enter Tryd.func14 (n := 23) rfl rfl rfl rfl ?_; intro a F)
  replace hg := hg.imp hK
  have hlen := hg.len_le M
  generalize hR : satGo 0 zs = R
  (repeat' (first | (first | (refine sx_nil ?_; (try (replace F := F.filt [0, 2, 3, 4, 6, 7, 8, 9, 10, 17] rfl))) | (refine sv1 F M (h := ?_) (hr := by fail); clear F a; intro a F) | (refine sv1 F M (h := ?_); clear F a; intro a F) | (refine sv3 F M (h := ?_); clear M; intro w M) | (refine sv2 F M (h := ?_); clear F M a; intro b a w F M) | (refine svC F M (h := ?_); fail; (clear F M a; intro a w F M)) | (refine svC0 F M (h := ?_); fail; (clear M; intro w M)) | (refine sv1 F M (h := ?_) (hr := by fail); clear F a; intro a F) | (refine svK F (h := ?_); clear F a; intro a F) | (refine svK0 F (h := ?_)) | ((refine sx_guardb F rfl (fun hg => ?_) (fun hg => ?_)) <;> (rw [hg] at F; (try (exact no hg))))) | (first | (refine pv1 (h := ?_) (hr := by fail)) | (refine pv1 (h := ?_)) | (refine pv3 (h := ?_)) | (refine pv2 (h := ?_); intro b) | (refine pvC (h := ?_); fail; (refine ⟨?_, ?_⟩; (exact rvsA))) | (refine pvC0 (h := ?_); fail; (refine ⟨?_, ?_⟩; (exact rvsA))) | (refine pv1 (h := ?_) (hr := by fail)) | (refine pvF (h := ?_); intro b) | (refine pvK (h := ?_)) | (refine pvK0 (h := ?_)) | (refine pv_nil ?_; intro a w F M; (try (replace F := F.filt [0, 2, 3, 4, 6, 7, 8, 9, 10, 17] rfl)))) | ((fail_if_success (with_reducible show wpList _ _ _ _ _ _)); (fail_if_success (with_reducible show PW _ _ _ _ _ _ _ _ _ _)); (first | (refine sx_region ?_) | (first | (refine svT F (h := ?_)) | (refine svF F (h := ?_)) | ((refine svB F (fun hc => ?_) (fun hc => ?_)) <;> (try (exact no hc)))) | fail | go_step))))
  refine sv_loop (σ := Nat × Int) (fun s => [(4, .int .u64 s.2), (7, v), (8, .int .i64 zs.length), (9, .int .i64 s.1)]) (fun _ => K) (fun s => s.1 ≤ zs.length ∧ U64 s.2 ∧ R = satGo s.2 (zs.drop s.1)) (fun s => zs.length - s.1) F M (0, 0) kpA permsA ⟨by omega, ⟨by omega, by omega⟩, by simp [hR]⟩ ?_
  rintro ⟨k, x⟩ ⟨h1, h2, h3⟩ a w F M
  simp only at h1 h2 h3 F ⊢
  by_cases hlt : k < zs.length
  · obtain ⟨y, hy⟩ : ∃ y, zs[k]? = some y := ⟨zs[k], by simp [hlt]⟩
    have hyr := hz y (List.mem_of_getElem? hy)
    have hd := drop_cons hy
    by_cases hov : 18446744073709551615 < x + y
    · have hw := (wrap_lt h2 hyr).2 hov
      (repeat' (first | (first | (refine sx_nil ?_; (try (replace F := F.filt [0, 2, 3, 4, 6, 7, 8, 9, 10, 17] rfl))) | (refine sv1 F M (h := ?_) (hr := by fail); clear F a; intro a F) | (refine sv1 F M (h := ?_); clear F a; intro a F) | (refine sv3 F M (h := ?_); clear M; intro w M) | (refine sv2 F M (h := ?_); clear F M a; intro b a w F M) | (refine svC F M (h := ?_); fail; (clear F M a; intro a w F M)) | (refine svC0 F M (h := ?_); fail; (clear M; intro w M)) | (refine sv1 F M (h := ?_) (hr := by fail); clear F a; intro a F) | (refine svK F (h := ?_); clear F a; intro a F) | (refine svK0 F (h := ?_)) | ((refine sx_guardb F rfl (fun hg => ?_) (fun hg => ?_)) <;> (rw [hg] at F; (try (exact no hg))))) | (first | (refine pv1 (h := ?_) (hr := by fail)) | (refine pv1 (h := ?_)) | (refine pv3 (h := ?_)) | (refine pv2 (h := ?_); intro b) | (refine pvC (h := ?_); fail; (refine ⟨?_, ?_⟩; (exact rvsA))) | (refine pvC0 (h := ?_); fail; (refine ⟨?_, ?_⟩; (exact rvsA))) | (refine pv1 (h := ?_) (hr := by fail)) | (refine pvF (h := ?_); intro b) | (refine pvK (h := ?_)) | (refine pvK0 (h := ?_)) | (refine pv_nil ?_; intro a w F M; (try (replace F := F.filt [0, 2, 3, 4, 6, 7, 8, 9, 10, 17] rfl)))) | ((fail_if_success (with_reducible show wpList _ _ _ _ _ _)); (fail_if_success (with_reducible show PW _ _ _ _ _ _ _ _ _ _)); (first | (refine sx_region ?_) | (first | (refine svT F (h := ?_)) | (refine svF F (h := ?_)) | ((refine svB F (fun hc => ?_) (fun hc => ?_)) <;> (try (exact no hc)))) | fail | go_step))))
      (all_goals ((first | (refine svEnd F M ?_) | (refine svRet F M ?_)); refine ⟨?_, M.perms permsA⟩))
      rw [h3, hd, satGo, if_pos hov]; rfl
    · have hw : ¬ (IntKind.u64.wrap (x + y) < x) := fun h => hov ((wrap_lt h2 hyr).1 h)
      have := h2.1; have := hyr.1
      (repeat' (first | (first | (refine sx_nil ?_; (try (replace F := F.filt [0, 2, 3, 4, 6, 7, 8, 9, 10, 17] rfl))) | (refine sv1 F M (h := ?_) (hr := by fail); clear F a; intro a F) | (refine sv1 F M (h := ?_); clear F a; intro a F) | (refine sv3 F M (h := ?_); clear M; intro w M) | (refine sv2 F M (h := ?_); clear F M a; intro b a w F M) | (refine svC F M (h := ?_); fail; (clear F M a; intro a w F M)) | (refine svC0 F M (h := ?_); fail; (clear M; intro w M)) | (refine sv1 F M (h := ?_) (hr := by fail); clear F a; intro a F) | (refine svK F (h := ?_); clear F a; intro a F) | (refine svK0 F (h := ?_)) | ((refine sx_guardb F rfl (fun hg => ?_) (fun hg => ?_)) <;> (rw [hg] at F; (try (exact no hg))))) | (first | (refine pv1 (h := ?_) (hr := by fail)) | (refine pv1 (h := ?_)) | (refine pv3 (h := ?_)) | (refine pv2 (h := ?_); intro b) | (refine pvC (h := ?_); fail; (refine ⟨?_, ?_⟩; (exact rvsA))) | (refine pvC0 (h := ?_); fail; (refine ⟨?_, ?_⟩; (exact rvsA))) | (refine pv1 (h := ?_) (hr := by fail)) | (refine pvF (h := ?_); intro b) | (refine pvK (h := ?_)) | (refine pvK0 (h := ?_)) | (refine pv_nil ?_; intro a w F M; (try (replace F := F.filt [0, 2, 3, 4, 6, 7, 8, 9, 10, 17] rfl)))) | ((fail_if_success (with_reducible show wpList _ _ _ _ _ _)); (fail_if_success (with_reducible show PW _ _ _ _ _ _ _ _ _ _)); (first | (refine sx_region ?_) | (first | (refine svT F (h := ?_)) | (refine svF F (h := ?_)) | ((refine svB F (fun hc => ?_) (fun hc => ?_)) <;> (try (exact no hc)))) | fail | go_step))))
      (refine sv_again F M (k + 1, x + y) kpA permsA ?_ ?_)
      · exact ⟨by omega, ⟨by omega, by omega⟩, by rw [h3, hd, satGo, if_neg hov]⟩
      · simp only []; omega
  · (repeat' (first | (first | (refine sx_nil ?_; (try (replace F := F.filt [0, 2, 3, 4, 6, 7, 8, 9, 10, 17] rfl))) | (refine sv1 F M (h := ?_) (hr := by fail); clear F a; intro a F) | (refine sv1 F M (h := ?_); clear F a; intro a F) | (refine sv3 F M (h := ?_); clear M; intro w M) | (refine sv2 F M (h := ?_); clear F M a; intro b a w F M) | (refine svC F M (h := ?_); fail; (clear F M a; intro a w F M)) | (refine svC0 F M (h := ?_); fail; (clear M; intro w M)) | (refine sv1 F M (h := ?_) (hr := by fail); clear F a; intro a F) | (refine svK F (h := ?_); clear F a; intro a F) | (refine svK0 F (h := ?_)) | ((refine sx_guardb F rfl (fun hg => ?_) (fun hg => ?_)) <;> (rw [hg] at F; (try (exact no hg))))) | (first | (refine pv1 (h := ?_) (hr := by fail)) | (refine pv1 (h := ?_)) | (refine pv3 (h := ?_)) | (refine pv2 (h := ?_); intro b) | (refine pvC (h := ?_); fail; (refine ⟨?_, ?_⟩; (exact rvsA))) | (refine pvC0 (h := ?_); fail; (refine ⟨?_, ?_⟩; (exact rvsA))) | (refine pv1 (h := ?_) (hr := by fail)) | (refine pvF (h := ?_); intro b) | (refine pvK (h := ?_)) | (refine pvK0 (h := ?_)) | (refine pv_nil ?_; intro a w F M; (try (replace F := F.filt [0, 2, 3, 4, 6, 7, 8, 9, 10, 17] rfl)))) | ((fail_if_success (with_reducible show wpList _ _ _ _ _ _)); (fail_if_success (with_reducible show PW _ _ _ _ _ _ _ _ _ _)); (first | (refine sx_region ?_) | (first | (refine svT F (h := ?_)) | (refine svF F (h := ?_)) | ((refine svB F (fun hc => ?_) (fun hc => ?_)) <;> (try (exact no hc)))) | fail | go_step))))
    (all_goals ((first | (refine svEnd F M ?_) | (refine svRet F M ?_)); refine ⟨?_, M.perms permsA⟩))
    have hk : k = zs.length := by omega
    rw [h3, hk, List.drop_length, satGo]; rfl
/-- The sum, or 0 and false. -/
def addR (zs : List Int) : Int × Bool := if (satGo 0 zs).2 then (0, false) else ((satGo 0 zs).1, true)
theorem gadd_reads (v : Value) (zs : List Int) (hz : ∀ z ∈ zs, U64 z) {L : List Asn} (hg : GS L 1 v zs.length (zs.flatMap u64L)) :
    Reads 13 [v] (.tuple [.int .u64 (addR zs).1, .bool (addR zs).2].toArray) L := by
  (intro K hK w M; refine sx_enter Tryd.func13 (n := 13) rfl rfl rfl rfl ?_; intro a F)
  replace hg := hg.imp hK
  have HS := Lib.hid (saturate_reads v zs hz hg)
  unfold addR
  generalize satGo 0 zs = R at *
  (repeat' (first | (first | (refine sx_nil ?_; (try (replace F := F.filt [0, 2, 3, 4, 5, 11] rfl))) | (refine sv1 F M (h := ?_) (hr := by fail); clear F a; intro a F) | (refine sv1 F M (h := ?_); clear F a; intro a F) | (refine sv3 F M (h := ?_); clear M; intro w M) | (refine sv2 F M (h := ?_); clear F M a; intro b a w F M) | (refine svC F M (h := ?_); (((refine acCall (k := 14) ?_); (refine Spec.of_reads HS.out rfl ?_))); (clear F M a; intro a w F M)) | (refine svC0 F M (h := ?_); (((refine acCall (k := 14) ?_); (refine Spec.of_reads HS.out rfl ?_))); (clear M; intro w M)) | (refine sv1 F M (h := ?_) (hr := by fail); clear F a; intro a F) | (refine svK F (h := ?_); clear F a; intro a F) | (refine svK0 F (h := ?_)) | ((refine sx_guardb F rfl (fun hg => ?_) (fun hg => ?_)) <;> (rw [hg] at F; (try (exact no hg))))) | (first | (refine pv1 (h := ?_) (hr := by fail)) | (refine pv1 (h := ?_)) | (refine pv3 (h := ?_)) | (refine pv2 (h := ?_); intro b) | (refine pvC (h := ?_); (((refine acCall (k := 14) ?_); (refine Spec.of_reads HS.out rfl ?_))); (refine ⟨?_, ?_⟩; (exact rvsA))) | (refine pvC0 (h := ?_); (((refine acCall (k := 14) ?_); (refine Spec.of_reads HS.out rfl ?_))); (refine ⟨?_, ?_⟩; (exact rvsA))) | (refine pv1 (h := ?_) (hr := by fail)) | (refine pvF (h := ?_); intro b) | (refine pvK (h := ?_)) | (refine pvK0 (h := ?_)) | (refine pv_nil ?_; intro a w F M; (try (replace F := F.filt [0, 2, 3, 4, 5, 11] rfl)))) | ((fail_if_success (with_reducible show wpList _ _ _ _ _ _)); (fail_if_success (with_reducible show PW _ _ _ _ _ _ _ _ _ _)); (first | (refine sx_region ?_) | (first | (refine svT F (h := ?_)) | (refine svF F (h := ?_)) | ((refine svB F (fun hc => ?_) (fun hc => ?_)) <;> (try (exact no hc)))) | fail | go_step))))
  (all_goals ((first | (refine svEnd F M ?_) | (refine svRet F M ?_)); refine ⟨?_, M.perms permsA⟩))
  all_goals simp_all [tupOf]
theorem rmax_reads {L : List Asn} : Reads 16 [] (.int .u64 18446744073709551615) L := by
  (intro K hK w M; refine sx_enter Tryd.func16 (n := 1) rfl rfl rfl rfl ?_; intro a F)
  (repeat' (first | (first | (refine sx_nil ?_; (try (replace F := F.filt [0] rfl))) | (refine sv1 F M (h := ?_) (hr := by fail); clear F a; intro a F) | (refine sv1 F M (h := ?_); clear F a; intro a F) | (refine sv3 F M (h := ?_); clear M; intro w M) | (refine sv2 F M (h := ?_); clear F M a; intro b a w F M) | (refine svC F M (h := ?_); (((refine acCall (k := 14) ?_); (refine Spec.of_reads HS.out rfl ?_))); (clear F M a; intro a w F M)) | (refine svC0 F M (h := ?_); (((refine acCall (k := 14) ?_); (refine Spec.of_reads HS.out rfl ?_))); (clear M; intro w M)) | (refine sv1 F M (h := ?_) (hr := by fail); clear F a; intro a F) | (refine svK F (h := ?_); clear F a; intro a F) | (refine svK0 F (h := ?_)) | ((refine sx_guardb F rfl (fun hg => ?_) (fun hg => ?_)) <;> (rw [hg] at F; (try (exact no hg))))) | (first | (refine pv1 (h := ?_) (hr := by fail)) | (refine pv1 (h := ?_)) | (refine pv3 (h := ?_)) | (refine pv2 (h := ?_); intro b) | (refine pvC (h := ?_); (((refine acCall (k := 14) ?_); (refine Spec.of_reads HS.out rfl ?_))); (refine ⟨?_, ?_⟩; (exact rvsA))) | (refine pvC0 (h := ?_); (((refine acCall (k := 14) ?_); (refine Spec.of_reads HS.out rfl ?_))); (refine ⟨?_, ?_⟩; (exact rvsA))) | (refine pv1 (h := ?_) (hr := by fail)) | (refine pvF (h := ?_); intro b) | (refine pvK (h := ?_)) | (refine pvK0 (h := ?_)) | (refine pv_nil ?_; intro a w F M; (try (replace F := F.filt [0] rfl)))) | ((fail_if_success (with_reducible show wpList _ _ _ _ _ _)); (fail_if_success (with_reducible show PW _ _ _ _ _ _ _ _ _ _)); (first | (refine sx_region ?_) | (first | (refine svT F (h := ?_)) | (refine svF F (h := ?_)) | ((refine svB F (fun hc => ?_) (fun hc => ?_)) <;> (try (exact no hc)))) | fail | go_step))))
  (all_goals ((first | (refine svEnd F M ?_) | (refine svRet F M ?_)); refine ⟨?_, M.perms permsA⟩))
  all_goals rfl
def raddGo : Int → List Int → Int × Bool
  | n, [] => (n, true)
  | n, x :: r => if 18446744073709551615 - n < x then (0, false) else raddGo (n + x) r
theorem raddGo_eq : ∀ (l : List Int) (n : Int), raddGo n l = if (satGo n l).2 then (0, false) else ((satGo n l).1, true)
  | [], n => by simp [raddGo, satGo]
  | x :: r, n => by
    rw [raddGo, satGo]
    by_cases h : 18446744073709551615 < n + x
    · rw [if_pos h, if_pos (by omega)]; rfl
    · rw [if_neg h, if_neg (by omega), raddGo_eq r]
theorem radd_reads (v : Value) (zs : List Int) (hz : ∀ z ∈ zs, U64 z) {L : List Asn} (hg : GS L 1 v zs.length (zs.flatMap u64L)) :
    Reads 15 [v] (.tuple [.int .u64 (addR zs).1, .bool (addR zs).2].toArray) L := by
  (intro K hK w M; refine sx_enter Tryd.func15 (n := 27) rfl rfl rfl rfl ?_; intro a F)
  replace hg := hg.imp hK
  have hlen := hg.len_le M
  have hR : addR zs = raddGo 0 zs := (raddGo_eq zs 0).symm
  generalize addR zs = R at *
  (repeat' (first | (first | (refine sx_nil ?_; (try (replace F := F.filt [0, 2, 3, 4, 5, 9, 19] rfl))) | (refine sv1 F M (h := ?_) (hr := by fail); clear F a; intro a F) | (refine sv1 F M (h := ?_); clear F a; intro a F) | (refine sv3 F M (h := ?_); clear M; intro w M) | (refine sv2 F M (h := ?_); clear F M a; intro b a w F M) | (refine svC F M (h := ?_); (((refine acCall (k := 16) ?_); (refine Spec.of_reads rmax_reads rfl ?_))); (clear F M a; intro a w F M)) | (refine svC0 F M (h := ?_); (((refine acCall (k := 16) ?_); (refine Spec.of_reads rmax_reads rfl ?_))); (clear M; intro w M)) | (refine sv1 F M (h := ?_) (hr := by fail); clear F a; intro a F) | (refine svK F (h := ?_); clear F a; intro a F) | (refine svK0 F (h := ?_)) | ((refine sx_guardb F rfl (fun hg => ?_) (fun hg => ?_)) <;> (rw [hg] at F; (try (exact no hg))))) | (first | (refine pv1 (h := ?_) (hr := by fail)) | (refine pv1 (h := ?_)) | (refine pv3 (h := ?_)) | (refine pv2 (h := ?_); intro b) | (refine pvC (h := ?_); (((refine acCall (k := 16) ?_); (refine Spec.of_reads rmax_reads rfl ?_))); (refine ⟨?_, ?_⟩; (exact rvsA))) | (refine pvC0 (h := ?_); (((refine acCall (k := 16) ?_); (refine Spec.of_reads rmax_reads rfl ?_))); (refine ⟨?_, ?_⟩; (exact rvsA))) | (refine pv1 (h := ?_) (hr := by fail)) | (refine pvF (h := ?_); intro b) | (refine pvK (h := ?_)) | (refine pvK0 (h := ?_)) | (refine pv_nil ?_; intro a w F M; (try (replace F := F.filt [0, 2, 3, 4, 5, 9, 19] rfl)))) | ((fail_if_success (with_reducible show wpList _ _ _ _ _ _)); (fail_if_success (with_reducible show PW _ _ _ _ _ _ _ _ _ _)); (first | (refine sx_region ?_) | (first | (refine svT F (h := ?_)) | (refine svF F (h := ?_)) | ((refine svB F (fun hc => ?_) (fun hc => ?_)) <;> (try (exact no hc)))) | (first | (refine svDraw (id := 5) [4] [] [(4, [0, 1, 2, 3, 5])] [0, 1, 2, 3, 5, 4, 6, 7] F M (h := ?_); clear F M a w)) | go_step))))
  refine sv_loop (σ := Nat × Int) (fun s => [(4, .int .u64 s.2), (0, v), (5, .int .i64 s.1)]) (fun _ => K) (fun s => s.1 ≤ zs.length ∧ U64 s.2 ∧ R = raddGo s.2 (zs.drop s.1)) (fun s => zs.length - s.1) F M (0, 0) kpA permsA ⟨by omega, ⟨by omega, by omega⟩, by simp [hR]⟩ ?_
  rintro ⟨k, x⟩ ⟨h1, h2, h3⟩ a w F M
  simp only at h1 h2 h3 F ⊢
  have h21 := h2.1; have h22 := h2.2
  by_cases hlt : k < zs.length
  · obtain ⟨y, hy⟩ : ∃ y, zs[k]? = some y := ⟨zs[k], by simp [hlt]⟩
    have hyr := hz y (List.mem_of_getElem? hy)
    have hy1 := hyr.1; have hy2 := hyr.2
    have hd := drop_cons hy
    by_cases hov : 18446744073709551615 - x < y
    · (repeat' (first | (first | (refine sx_nil ?_; (try (replace F := F.filt [0, 2, 3, 4, 5, 9, 19] rfl))) | (refine sv1 F M (h := ?_) (hr := by fail); clear F a; intro a F) | (refine sv1 F M (h := ?_); clear F a; intro a F) | (refine sv3 F M (h := ?_); clear M; intro w M) | (refine sv2 F M (h := ?_); clear F M a; intro b a w F M) | (refine svC F M (h := ?_); (((refine acCall (k := 16) ?_); (refine Spec.of_reads rmax_reads rfl ?_))); (clear F M a; intro a w F M)) | (refine svC0 F M (h := ?_); (((refine acCall (k := 16) ?_); (refine Spec.of_reads rmax_reads rfl ?_))); (clear M; intro w M)) | (refine sv1 F M (h := ?_) (hr := by fail); clear F a; intro a F) | (refine svK F (h := ?_); clear F a; intro a F) | (refine svK0 F (h := ?_)) | ((refine sx_guardb F rfl (fun hg => ?_) (fun hg => ?_)) <;> (rw [hg] at F; (try (exact no hg))))) | (first | (refine pv1 (h := ?_) (hr := by fail)) | (refine pv1 (h := ?_)) | (refine pv3 (h := ?_)) | (refine pv2 (h := ?_); intro b) | (refine pvC (h := ?_); (((refine acCall (k := 16) ?_); (refine Spec.of_reads rmax_reads rfl ?_))); (refine ⟨?_, ?_⟩; (exact rvsA))) | (refine pvC0 (h := ?_); (((refine acCall (k := 16) ?_); (refine Spec.of_reads rmax_reads rfl ?_))); (refine ⟨?_, ?_⟩; (exact rvsA))) | (refine pv1 (h := ?_) (hr := by fail)) | (refine pvF (h := ?_); intro b) | (refine pvK (h := ?_)) | (refine pvK0 (h := ?_)) | (refine pv_nil ?_; intro a w F M; (try (replace F := F.filt [0, 2, 3, 4, 5, 9, 19] rfl)))) | ((fail_if_success (with_reducible show wpList _ _ _ _ _ _)); (fail_if_success (with_reducible show PW _ _ _ _ _ _ _ _ _ _)); (first | (refine sx_region ?_) | (first | (refine svT F (h := ?_)) | (refine svF F (h := ?_)) | ((refine svB F (fun hc => ?_) (fun hc => ?_)) <;> (try (exact no hc)))) | (first | (refine svDraw (id := 5) [4] [] [(4, [0, 1, 2, 3, 5])] [0, 1, 2, 3, 5, 4, 6, 7] F M (h := ?_); clear F M a w)) | go_step))))
      (all_goals ((first | (refine svEnd F M ?_) | (refine svRet F M ?_)); refine ⟨?_, M.perms permsA⟩))
      rw [h3, hd, raddGo, if_pos hov]; rfl
    · (repeat' (first | (first | (refine sx_nil ?_; (try (replace F := F.filt [0, 2, 3, 4, 5, 9, 19] rfl))) | (refine sv1 F M (h := ?_) (hr := by fail); clear F a; intro a F) | (refine sv1 F M (h := ?_); clear F a; intro a F) | (refine sv3 F M (h := ?_); clear M; intro w M) | (refine sv2 F M (h := ?_); clear F M a; intro b a w F M) | (refine svC F M (h := ?_); (((refine acCall (k := 16) ?_); (refine Spec.of_reads rmax_reads rfl ?_))); (clear F M a; intro a w F M)) | (refine svC0 F M (h := ?_); (((refine acCall (k := 16) ?_); (refine Spec.of_reads rmax_reads rfl ?_))); (clear M; intro w M)) | (refine sv1 F M (h := ?_) (hr := by fail); clear F a; intro a F) | (refine svK F (h := ?_); clear F a; intro a F) | (refine svK0 F (h := ?_)) | ((refine sx_guardb F rfl (fun hg => ?_) (fun hg => ?_)) <;> (rw [hg] at F; (try (exact no hg))))) | (first | (refine pv1 (h := ?_) (hr := by fail)) | (refine pv1 (h := ?_)) | (refine pv3 (h := ?_)) | (refine pv2 (h := ?_); intro b) | (refine pvC (h := ?_); (((refine acCall (k := 16) ?_); (refine Spec.of_reads rmax_reads rfl ?_))); (refine ⟨?_, ?_⟩; (exact rvsA))) | (refine pvC0 (h := ?_); (((refine acCall (k := 16) ?_); (refine Spec.of_reads rmax_reads rfl ?_))); (refine ⟨?_, ?_⟩; (exact rvsA))) | (refine pv1 (h := ?_) (hr := by fail)) | (refine pvF (h := ?_); intro b) | (refine pvK (h := ?_)) | (refine pvK0 (h := ?_)) | (refine pv_nil ?_; intro a w F M; (try (replace F := F.filt [0, 2, 3, 4, 5, 9, 19] rfl)))) | ((fail_if_success (with_reducible show wpList _ _ _ _ _ _)); (fail_if_success (with_reducible show PW _ _ _ _ _ _ _ _ _ _)); (first | (refine sx_region ?_) | (first | (refine svT F (h := ?_)) | (refine svF F (h := ?_)) | ((refine svB F (fun hc => ?_) (fun hc => ?_)) <;> (try (exact no hc)))) | (first | (refine svDraw (id := 5) [4] [] [(4, [0, 1, 2, 3, 5])] [0, 1, 2, 3, 5, 4, 6, 7] F M (h := ?_); clear F M a w)) | go_step))))
      (refine sv_again F M (k + 1, x + y) kpA permsA ?_ ?_)
      · exact ⟨by omega, ⟨by omega, by omega⟩, by rw [h3, hd, raddGo, if_neg hov]⟩
      · simp only []; omega
  · (repeat' (first | (first | (refine sx_nil ?_; (try (replace F := F.filt [0, 2, 3, 4, 5, 9, 19] rfl))) | (refine sv1 F M (h := ?_) (hr := by fail); clear F a; intro a F) | (refine sv1 F M (h := ?_); clear F a; intro a F) | (refine sv3 F M (h := ?_); clear M; intro w M) | (refine sv2 F M (h := ?_); clear F M a; intro b a w F M) | (refine svC F M (h := ?_); (((refine acCall (k := 16) ?_); (refine Spec.of_reads rmax_reads rfl ?_))); (clear F M a; intro a w F M)) | (refine svC0 F M (h := ?_); (((refine acCall (k := 16) ?_); (refine Spec.of_reads rmax_reads rfl ?_))); (clear M; intro w M)) | (refine sv1 F M (h := ?_) (hr := by fail); clear F a; intro a F) | (refine svK F (h := ?_); clear F a; intro a F) | (refine svK0 F (h := ?_)) | ((refine sx_guardb F rfl (fun hg => ?_) (fun hg => ?_)) <;> (rw [hg] at F; (try (exact no hg))))) | (first | (refine pv1 (h := ?_) (hr := by fail)) | (refine pv1 (h := ?_)) | (refine pv3 (h := ?_)) | (refine pv2 (h := ?_); intro b) | (refine pvC (h := ?_); (((refine acCall (k := 16) ?_); (refine Spec.of_reads rmax_reads rfl ?_))); (refine ⟨?_, ?_⟩; (exact rvsA))) | (refine pvC0 (h := ?_); (((refine acCall (k := 16) ?_); (refine Spec.of_reads rmax_reads rfl ?_))); (refine ⟨?_, ?_⟩; (exact rvsA))) | (refine pv1 (h := ?_) (hr := by fail)) | (refine pvF (h := ?_); intro b) | (refine pvK (h := ?_)) | (refine pvK0 (h := ?_)) | (refine pv_nil ?_; intro a w F M; (try (replace F := F.filt [0, 2, 3, 4, 5, 9, 19] rfl)))) | ((fail_if_success (with_reducible show wpList _ _ _ _ _ _)); (fail_if_success (with_reducible show PW _ _ _ _ _ _ _ _ _ _)); (first | (refine sx_region ?_) | (first | (refine svT F (h := ?_)) | (refine svF F (h := ?_)) | ((refine svB F (fun hc => ?_) (fun hc => ?_)) <;> (try (exact no hc)))) | (first | (refine svDraw (id := 5) [4] [] [(4, [0, 1, 2, 3, 5])] [0, 1, 2, 3, 5, 4, 6, 7] F M (h := ?_); clear F M a w)) | go_step))))
    (all_goals ((first | (refine svEnd F M ?_) | (refine svRet F M ?_)); refine ⟨?_, M.perms permsA⟩))
    have hk : k = zs.length := by omega
    rw [h3, hk, List.drop_length, raddGo]; rfl
end Go.Proofs.YtfohgbcjhmmpeaaDoor
