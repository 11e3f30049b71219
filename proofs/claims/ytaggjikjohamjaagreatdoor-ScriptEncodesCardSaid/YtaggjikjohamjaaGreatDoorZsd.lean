import Derived.Test.YtaggjikjohamjaaGreatDoorZsc
set_option linter.unusedVariables false
set_option linter.unusedSimpArgs false
section
namespace Go.Proofs.YtaggjikjohamjaaGreatDoor
open Go.RowKit Go.Maps
set_option linter.unusedVariables false
set_option maxRecDepth 100000
set_option linter.unusedSimpArgs false
set_option maxHeartbeats 8000000
theorem same_spec (v1 v2 : Value) (xs ys : List Opn) (R : List Asn) (g1 : GS R 4 v1 xs.length (xs.flatMap opL)) (g2 : GS R 4 v2 ys.length (ys.flatMap opL)) : Spec 8 [v1, v2] R fun u L' => u = .bool (decide (xs = ys)) ∧ L' = R := by
  obtain ⟨X, hX⟩ : ∃ X, decide (xs = ys) = X := ⟨_, rfl⟩
  rw [hX]
  (intro G w M; refine sx_enter (vs := ([v1, v2] : List Value)) Tryz.func8 (n := 26) rfl rfl rfl rfl ?_; intro a F; (try simp only [List.cons_append, List.nil_append] at M))
  have h1 : GS (R ++ G) 4 v1 xs.length (xs.flatMap opL) := Gives.app g1
  have h2 : GS (R ++ G) 4 v2 ys.length (ys.flatMap opL) := Gives.app g2
  have hlv := h1.len_le M
  have hlv2 := h2.len_le M
  by_cases hl : xs.length = ys.length
  · (repeat' (first | (refine sx_nil ?_; (try (replace F := F.filt [0, 1, 4, 5, 10, 14, 25] rfl))) | (refine sv1 F M (h := ?_); clear F a; intro a F) | refine pv1 (h := ?_) | (refine sv3 F M (h := ?_); clear M; intro w M) | (refine sv2 F M (h := ?_); clear F M a; intro nb a w F M) | refine pv3 (h := ?_) | (refine pv2 (h := ?_); intro nb) | ((first | refine svC F M (h := ?_) | refine svC0 F M (h := ?_) | refine pvC (h := ?_) | refine pvC0 (h := ?_)); (fail); (first | refine ⟨rvsA, ?_⟩ | (clear F M a; intro a w F M) | (clear M; intro w M))) | (refine svK F (h := ?_); clear F a; intro a F) | refine svK0 F (h := ?_) | ((refine sx_guardb F rfl (fun hg => ?_) (fun hg => ?_)) <;> (rw [hg] at F; (try (exact no hg)))) | (refine pvF (h := ?_); intro nb) | refine pvK (h := ?_) | refine pvK0 (h := ?_) | (refine pv_nil ?_; intro a w F M; (try (replace F := F.filt [0, 1, 4, 5, 10, 14, 25] rfl))) | ((fail_if_success (with_reducible first | refine isW ?_ | refine isP ?_ | refine isL ?_)); (first | with_reducible refine sx_region ?_ | ((with_reducible refine isK ?_); (first | refine svT F (h := ?_) | refine svF F (h := ?_) | ((refine svB F (fun hc => ?_) (fun hc => ?_)) <;> (try (exact no hc))))) | ((with_reducible refine isD ?_); (first | (refine svDraw (id := 6) [] [] [] [0, 1, 2, 3, 4, 5, 6, 7, 8] F M (h := ?_); clear F M a w))) | with_reducible refine wp_scope_straight ?_ | with_reducible refine wp_label ?_ | go_step))))
    refine svLoop F M (0 : Nat) (fun k => [(5, .int .i64 k)]) (fun _ => []) (fun k => k ≤ xs.length ∧ decide (xs.drop k = ys.drop k) = X) (fun k => xs.length - k) [] ⟨Nat.zero_le _, by simpa using hX⟩ ?_
    (rintro k ⟨q1, q2⟩ a w F M; (try simp only [List.cons_append, List.nil_append] at F M q1 q2 ⊢))
    by_cases hlt : k < xs.length
    · obtain ⟨x, hx⟩ : ∃ x, xs[k]? = some x := ⟨xs[k], by simp [hlt]⟩
      obtain ⟨y, hy⟩ : ∃ y, ys[k]? = some y := ⟨ys[k]'(by omega), by rw [List.getElem?_eq_getElem]⟩
      rw [drop_cons hx, drop_cons hy] at q2
      by_cases hxy : x = y
      · subst hxy
        have q2 : decide (xs.drop (k + 1) = ys.drop (k + 1)) = X := by simpa using q2
        have dx : decide (x ≠ x) = false := by simp
        (repeat' (first | (refine pv1 (h := ?_) (hr := by ((refine rt_neqT (f := opL) (p := x) (q := y) rfl rfl rfl inferInstance inferInstance)))) | (refine sx_nil ?_; (try (replace F := F.filt [0, 1, 4, 5, 10, 14, 25] rfl))) | (refine sv1 F M (h := ?_); clear F a; intro a F) | refine pv1 (h := ?_) | (refine sv3 F M (h := ?_); clear M; intro w M) | (refine sv2 F M (h := ?_); clear F M a; intro nb a w F M) | refine pv3 (h := ?_) | (refine pv2 (h := ?_); intro nb) | ((first | refine svC F M (h := ?_) | refine svC0 F M (h := ?_) | refine pvC (h := ?_) | refine pvC0 (h := ?_)); (fail); (first | refine ⟨rvsA, ?_⟩ | (clear F M a; intro a w F M) | (clear M; intro w M))) | (refine svK F (h := ?_); clear F a; intro a F) | refine svK0 F (h := ?_) | ((refine sx_guardb F rfl (fun hg => ?_) (fun hg => ?_)) <;> (rw [hg] at F; (try (exact no hg)))) | (refine pvF (h := ?_); intro nb) | refine pvK (h := ?_) | refine pvK0 (h := ?_) | (refine pv_nil ?_; intro a w F M; (try (replace F := F.filt [0, 1, 4, 5, 10, 14, 25] rfl))) | ((fail_if_success (with_reducible first | refine isW ?_ | refine isP ?_ | refine isL ?_)); (first | with_reducible refine sx_region ?_ | ((with_reducible refine isK ?_); (first | refine svT F (h := ?_) | refine svF F (h := ?_) | ((refine svB F (fun hc => ?_) (fun hc => ?_)) <;> (try (exact no hc))))) | ((with_reducible refine isD ?_); (first | (refine svDraw (id := 6) [] [] [] [0, 1, 2, 3, 4, 5, 6, 7, 8] F M (h := ?_); clear F M a w))) | with_reducible refine wp_scope_straight ?_ | with_reducible refine wp_label ?_ | go_step))))
        exact sv_again F M (k + 1) kpA permsA ⟨by omega, q2⟩ (by omega)
      · have q2 : false = X := by simpa [hxy] using q2
        subst q2
        have dx : decide (x ≠ y) = true := by simpa using hxy
        (repeat' (first | (refine pv1 (h := ?_) (hr := by ((refine rt_neqT (f := opL) (p := x) (q := y) rfl rfl rfl inferInstance inferInstance)))) | (refine sx_nil ?_; (try (replace F := F.filt [0, 1, 4, 5, 10, 14, 25] rfl))) | (refine sv1 F M (h := ?_); clear F a; intro a F) | refine pv1 (h := ?_) | (refine sv3 F M (h := ?_); clear M; intro w M) | (refine sv2 F M (h := ?_); clear F M a; intro nb a w F M) | refine pv3 (h := ?_) | (refine pv2 (h := ?_); intro nb) | ((first | refine svC F M (h := ?_) | refine svC0 F M (h := ?_) | refine pvC (h := ?_) | refine pvC0 (h := ?_)); (fail); (first | refine ⟨rvsA, ?_⟩ | (clear F M a; intro a w F M) | (clear M; intro w M))) | (refine svK F (h := ?_); clear F a; intro a F) | refine svK0 F (h := ?_) | ((refine sx_guardb F rfl (fun hg => ?_) (fun hg => ?_)) <;> (rw [hg] at F; (try (exact no hg)))) | (refine pvF (h := ?_); intro nb) | refine pvK (h := ?_) | refine pvK0 (h := ?_) | (refine pv_nil ?_; intro a w F M; (try (replace F := F.filt [0, 1, 4, 5, 10, 14, 25] rfl))) | ((fail_if_success (with_reducible first | refine isW ?_ | refine isP ?_ | refine isL ?_)); (first | with_reducible refine sx_region ?_ | ((with_reducible refine isK ?_); (first | refine svT F (h := ?_) | refine svF F (h := ?_) | ((refine svB F (fun hc => ?_) (fun hc => ?_)) <;> (try (exact no hc))))) | ((with_reducible refine isD ?_); (first | (refine svDraw (id := 6) [] [] [] [0, 1, 2, 3, 4, 5, 6, 7, 8] F M (h := ?_); clear F M a w))) | with_reducible refine wp_scope_straight ?_ | with_reducible refine wp_label ?_ | go_step))))
        all_goals (first | refine svEnd F M ?_ | refine svRet F M ?_)
        all_goals exact ⟨_, _, rfl, ⟨rfl, rfl⟩, M.perms permsA⟩
    · obtain rfl : k = xs.length := by omega
      rw [List.drop_length, List.drop_of_length_le (by omega)] at q2
      have q2 : true = X := q2
      subst q2
      (repeat' (first | (refine pv1 (h := ?_) (hr := by ((refine rt_neqT (f := opL) (p := x) (q := y) rfl rfl rfl inferInstance inferInstance)))) | (refine sx_nil ?_; (try (replace F := F.filt [0, 1, 4, 5, 10, 14, 25] rfl))) | (refine sv1 F M (h := ?_); clear F a; intro a F) | refine pv1 (h := ?_) | (refine sv3 F M (h := ?_); clear M; intro w M) | (refine sv2 F M (h := ?_); clear F M a; intro nb a w F M) | refine pv3 (h := ?_) | (refine pv2 (h := ?_); intro nb) | ((first | refine svC F M (h := ?_) | refine svC0 F M (h := ?_) | refine pvC (h := ?_) | refine pvC0 (h := ?_)); (fail); (first | refine ⟨rvsA, ?_⟩ | (clear F M a; intro a w F M) | (clear M; intro w M))) | (refine svK F (h := ?_); clear F a; intro a F) | refine svK0 F (h := ?_) | ((refine sx_guardb F rfl (fun hg => ?_) (fun hg => ?_)) <;> (rw [hg] at F; (try (exact no hg)))) | (refine pvF (h := ?_); intro nb) | refine pvK (h := ?_) | refine pvK0 (h := ?_) | (refine pv_nil ?_; intro a w F M; (try (replace F := F.filt [0, 1, 4, 5, 10, 14, 25] rfl))) | ((fail_if_success (with_reducible first | refine isW ?_ | refine isP ?_ | refine isL ?_)); (first | with_reducible refine sx_region ?_ | ((with_reducible refine isK ?_); (first | refine svT F (h := ?_) | refine svF F (h := ?_) | ((refine svB F (fun hc => ?_) (fun hc => ?_)) <;> (try (exact no hc))))) | ((with_reducible refine isD ?_); (first | (refine svDraw (id := 6) [] [] [] [0, 1, 2, 3, 4, 5, 6, 7, 8] F M (h := ?_); clear F M a w))) | with_reducible refine wp_scope_straight ?_ | with_reducible refine wp_label ?_ | go_step))))
      all_goals (first | refine svEnd F M ?_ | refine svRet F M ?_)
      all_goals exact ⟨_, _, rfl, ⟨rfl, rfl⟩, M.perms permsA⟩
  · have e : X = false := by rw [← hX, decide_eq_false_iff_not]; exact fun h => hl (by rw [h])
    subst e
    (repeat' (first | (refine sx_nil ?_; (try (replace F := F.filt [0, 1, 4, 5, 10, 14, 25] rfl))) | (refine sv1 F M (h := ?_); clear F a; intro a F) | refine pv1 (h := ?_) | (refine sv3 F M (h := ?_); clear M; intro w M) | (refine sv2 F M (h := ?_); clear F M a; intro nb a w F M) | refine pv3 (h := ?_) | (refine pv2 (h := ?_); intro nb) | ((first | refine svC F M (h := ?_) | refine svC0 F M (h := ?_) | refine pvC (h := ?_) | refine pvC0 (h := ?_)); (fail); (first | refine ⟨rvsA, ?_⟩ | (clear F M a; intro a w F M) | (clear M; intro w M))) | (refine svK F (h := ?_); clear F a; intro a F) | refine svK0 F (h := ?_) | ((refine sx_guardb F rfl (fun hg => ?_) (fun hg => ?_)) <;> (rw [hg] at F; (try (exact no hg)))) | (refine pvF (h := ?_); intro nb) | refine pvK (h := ?_) | refine pvK0 (h := ?_) | (refine pv_nil ?_; intro a w F M; (try (replace F := F.filt [0, 1, 4, 5, 10, 14, 25] rfl))) | ((fail_if_success (with_reducible first | refine isW ?_ | refine isP ?_ | refine isL ?_)); (first | with_reducible refine sx_region ?_ | ((with_reducible refine isK ?_); (first | refine svT F (h := ?_) | refine svF F (h := ?_) | ((refine svB F (fun hc => ?_) (fun hc => ?_)) <;> (try (exact no hc))))) | ((with_reducible refine isD ?_); (first | (refine svDraw (id := 6) [] [] [] [0, 1, 2, 3, 4, 5, 6, 7, 8] F M (h := ?_); clear F M a w))) | with_reducible refine wp_scope_straight ?_ | with_reducible refine wp_label ?_ | go_step))))
    all_goals (first | refine svEnd F M ?_ | refine svRet F M ?_)
    all_goals exact ⟨_, _, rfl, ⟨rfl, rfl⟩, M.perms permsA⟩
theorem cntK_le (l : List Opn) (k : Int) : cntK l k ≤ l.length := List.length_filter_le _ _
theorem cntK_take {l : List Opn} {j : Nat} {o : Opn} (h : l[j]? = some o) (k : Int) : cntK (l.take (j + 1)) k = cntK (l.take j) k + (if o.k = k then 1 else 0) := by
  unfold cntK
  rw [List.take_add_one, h, List.filter_append, List.length_append]
  congr 1
  by_cases hk : o.k = k <;> simp [hk]
theorem count_spec (v : Value) (l : List Opn) (k : Int) (R : List Asn) (hg : GS R 4 v l.length (l.flatMap opL)) : Spec 12 [v, .int .i64 k] R fun u L' => u = .int .i64 (cntK l k : Nat) ∧ L' = R := by
  (intro G w M; refine sx_enter (vs := ([v, .int .i64 k] : List Value)) Tryz.func12 (n := 22) rfl rfl rfl rfl ?_; intro a F; (try simp only [List.cons_append, List.nil_append] at M))
  have gg : GS (R ++ G) 4 v l.length (l.flatMap opL) := Gives.app hg
  have hlv := gg.len_le M
  (repeat' (first | (refine sx_nil ?_; (try (replace F := F.filt [0, 1, 4, 5, 7, 8, 9, 10, 11, 17] rfl))) | (refine sv1 F M (h := ?_); clear F a; intro a F) | refine pv1 (h := ?_) | (refine sv3 F M (h := ?_); clear M; intro w M) | (refine sv2 F M (h := ?_); clear F M a; intro nb a w F M) | refine pv3 (h := ?_) | (refine pv2 (h := ?_); intro nb) | ((first | refine svC F M (h := ?_) | refine svC0 F M (h := ?_) | refine pvC (h := ?_) | refine pvC0 (h := ?_)); (fail); (first | refine ⟨rvsA, ?_⟩ | (clear F M a; intro a w F M) | (clear M; intro w M))) | (refine svK F (h := ?_); clear F a; intro a F) | refine svK0 F (h := ?_) | ((refine sx_guardb F rfl (fun hg => ?_) (fun hg => ?_)) <;> (rw [hg] at F; (try (exact no hg)))) | (refine pvF (h := ?_); intro nb) | refine pvK (h := ?_) | refine pvK0 (h := ?_) | (refine pv_nil ?_; intro a w F M; (try (replace F := F.filt [0, 1, 4, 5, 7, 8, 9, 10, 11, 17] rfl))) | ((fail_if_success (with_reducible first | refine isW ?_ | refine isP ?_ | refine isL ?_)); (first | with_reducible refine sx_region ?_ | ((with_reducible refine isK ?_); (first | refine svT F (h := ?_) | refine svF F (h := ?_) | ((refine svB F (fun hc => ?_) (fun hc => ?_)) <;> (try (exact no hc))))) | ((with_reducible refine isD ?_); fail) | with_reducible refine wp_scope_straight ?_ | with_reducible refine wp_label ?_ | go_step))))
  refine svLoop F M (0 : Nat) (fun j => [(10, .int .i64 j), (5, .int .i64 (cntK (l.take j) k : Nat))]) (fun _ => []) (fun j => j ≤ l.length) (fun j => l.length - j) [7] (Nat.zero_le _) ?_
  (rintro j q1 a w F M; (try simp only [List.cons_append, List.nil_append] at F M q1 ⊢))
  by_cases hj : j < l.length
  · obtain ⟨o, ho⟩ : ∃ o, l[j]? = some o := ⟨l[j], by simp [hj]⟩
    have e := cntK_take ho k
    have hle := cntK_le (l.take j) k
    rw [List.length_take] at hle
    generalize cntK (l.take j) k = A at *
    obtain ⟨ok, oi, ot, oa⟩ := o
    simp only at e
    by_cases hk : ok = k
    · rw [if_pos hk] at e
      have e2 : (A : Int) + 1 = (cntK (l.take (j + 1)) k : Nat) := by omega
      (repeat' (first | (refine sx_nil ?_; (try (replace F := F.filt [0, 1, 4, 5, 7, 8, 9, 10, 11, 17] rfl))) | (refine sv1 F M (h := ?_); clear F a; intro a F) | refine pv1 (h := ?_) | (refine sv3 F M (h := ?_); clear M; intro w M) | (refine sv2 F M (h := ?_); clear F M a; intro nb a w F M) | refine pv3 (h := ?_) | (refine pv2 (h := ?_); intro nb) | ((first | refine svC F M (h := ?_) | refine svC0 F M (h := ?_) | refine pvC (h := ?_) | refine pvC0 (h := ?_)); (fail); (first | refine ⟨rvsA, ?_⟩ | (clear F M a; intro a w F M) | (clear M; intro w M))) | (refine svK F (h := ?_); clear F a; intro a F) | refine svK0 F (h := ?_) | ((refine sx_guardb F rfl (fun hg => ?_) (fun hg => ?_)) <;> (rw [hg] at F; (try (exact no hg)))) | (refine pvF (h := ?_); intro nb) | refine pvK (h := ?_) | refine pvK0 (h := ?_) | (refine pv_nil ?_; intro a w F M; (try (replace F := F.filt [0, 1, 4, 5, 7, 8, 9, 10, 11, 17] rfl))) | ((fail_if_success (with_reducible first | refine isW ?_ | refine isP ?_ | refine isL ?_)); (first | with_reducible refine sx_region ?_ | ((with_reducible refine isK ?_); (first | refine svT F (h := ?_) | refine svF F (h := ?_) | ((refine svB F (fun hc => ?_) (fun hc => ?_)) <;> (try (exact no hc))))) | ((with_reducible refine isD ?_); fail) | with_reducible refine wp_scope_straight ?_ | with_reducible refine wp_label ?_ | go_step))))
      rw [e2] at F
      exact sv_again F M (j + 1) kpA permsA (by omega) (by omega)
    · rw [if_neg hk] at e
      (repeat' (first | (refine sx_nil ?_; (try (replace F := F.filt [0, 1, 4, 5, 7, 8, 9, 10, 11, 17] rfl))) | (refine sv1 F M (h := ?_); clear F a; intro a F) | refine pv1 (h := ?_) | (refine sv3 F M (h := ?_); clear M; intro w M) | (refine sv2 F M (h := ?_); clear F M a; intro nb a w F M) | refine pv3 (h := ?_) | (refine pv2 (h := ?_); intro nb) | ((first | refine svC F M (h := ?_) | refine svC0 F M (h := ?_) | refine pvC (h := ?_) | refine pvC0 (h := ?_)); (fail); (first | refine ⟨rvsA, ?_⟩ | (clear F M a; intro a w F M) | (clear M; intro w M))) | (refine svK F (h := ?_); clear F a; intro a F) | refine svK0 F (h := ?_) | ((refine sx_guardb F rfl (fun hg => ?_) (fun hg => ?_)) <;> (rw [hg] at F; (try (exact no hg)))) | (refine pvF (h := ?_); intro nb) | refine pvK (h := ?_) | refine pvK0 (h := ?_) | (refine pv_nil ?_; intro a w F M; (try (replace F := F.filt [0, 1, 4, 5, 7, 8, 9, 10, 11, 17] rfl))) | ((fail_if_success (with_reducible first | refine isW ?_ | refine isP ?_ | refine isL ?_)); (first | with_reducible refine sx_region ?_ | ((with_reducible refine isK ?_); (first | refine svT F (h := ?_) | refine svF F (h := ?_) | ((refine svB F (fun hc => ?_) (fun hc => ?_)) <;> (try (exact no hc))))) | ((with_reducible refine isD ?_); fail) | with_reducible refine wp_scope_straight ?_ | with_reducible refine wp_label ?_ | go_step))))
      rw [show A = cntK (l.take (j + 1)) k by omega] at F
      exact sv_again F M (j + 1) kpA permsA (by omega) (by omega)
  · obtain rfl : j = l.length := by omega
    rw [List.take_length] at F
    (repeat' (first | (refine sx_nil ?_; (try (replace F := F.filt [0, 1, 4, 5, 7, 8, 9, 10, 11, 17] rfl))) | (refine sv1 F M (h := ?_); clear F a; intro a F) | refine pv1 (h := ?_) | (refine sv3 F M (h := ?_); clear M; intro w M) | (refine sv2 F M (h := ?_); clear F M a; intro nb a w F M) | refine pv3 (h := ?_) | (refine pv2 (h := ?_); intro nb) | ((first | refine svC F M (h := ?_) | refine svC0 F M (h := ?_) | refine pvC (h := ?_) | refine pvC0 (h := ?_)); (fail); (first | refine ⟨rvsA, ?_⟩ | (clear F M a; intro a w F M) | (clear M; intro w M))) | (refine svK F (h := ?_); clear F a; intro a F) | refine svK0 F (h := ?_) | ((refine sx_guardb F rfl (fun hg => ?_) (fun hg => ?_)) <;> (rw [hg] at F; (try (exact no hg)))) | (refine pvF (h := ?_); intro nb) | refine pvK (h := ?_) | refine pvK0 (h := ?_) | (refine pv_nil ?_; intro a w F M; (try (replace F := F.filt [0, 1, 4, 5, 7, 8, 9, 10, 11, 17] rfl))) | ((fail_if_success (with_reducible first | refine isW ?_ | refine isP ?_ | refine isL ?_)); (first | with_reducible refine sx_region ?_ | ((with_reducible refine isK ?_); (first | refine svT F (h := ?_) | refine svF F (h := ?_) | ((refine svB F (fun hc => ?_) (fun hc => ?_)) <;> (try (exact no hc))))) | ((with_reducible refine isD ?_); fail) | with_reducible refine wp_scope_straight ?_ | with_reducible refine wp_label ?_ | go_step))))
    all_goals (first | refine svEnd F M ?_ | refine svRet F M ?_)
    all_goals exact ⟨_, _, rfl, ⟨rfl, rfl⟩, M.perms permsA⟩
section
variable {o : Oper} {n : Nat} {l : List (Nat × Value)} {L : List Asn} {C : Value → List Asn → Prop}
/-- copy into an owned slice, of as many cells as there is room for. -/
theorem ac_copyM {x y : Operand} {ats : Array TypeId} {t u : TypeId} (ho : o.op = .call { callee := .builtin .copy, args := #[x, y], argTypes := ats }) (hat : ats = #[t, u]) {e : TypeId} {z : Value} {size bytes : Nat} (ht : ST t e z size bytes) {b j dl dc : Nat} (hx : evl l x = some (.slice (some ⟨b, j * size, none⟩) dl dc))
    {v : Value} (hy : evl l y = some v) {k : Nat} {cs : List Value} (hg : GS L size v k cs) (hone : ∀ c ∈ cs, c.oneCell' = true) {k' : Nat} {cs' : List Value} (hk : Nat.min k dl = k') (hcs : cs.take (k' * size) = cs') {m cap : Nat} {xs : List Value} {L' : List Asn} (hp : Pull L (own e size (sl ⟨some ⟨b, 0, none⟩, m, cap⟩) m xs) L') (hj : j + dl ≤ m)
    (h : C (.int .i64 k') (own e size (sl ⟨some ⟨b, 0, none⟩, m, cap⟩) m (xs.take (j * size) ++ cs' ++ xs.drop (j * size + cs'.length)) :: L')) : AC o l L n C := fun G a w F M => by
  subst hat
  obtain ⟨i, hu, hi, hzi, hsz, hby, hzs, hpos⟩ := st_info ht
  have hs := hg w M.drop_app
  have M1 := M.pull (hp.app G)
  obtain ⟨s, ho1, hlt⟩ := M1.head
  obtain ⟨hlen, h8 | ⟨g, cap', cur, h8, _, h3, h4, h5, h6, h7⟩⟩ := ho1
  · simp [sl] at h8
  simp only [sl, Value.slice.injEq, Option.some.injEq, Addr.mk.injEq] at h8
  obtain ⟨⟨rfl, _⟩, _, rfl⟩ := h8
  have hk1 : k' ≤ k := by rw [← hk]; exact Nat.min_le_left _ _
  have hk2 : k' ≤ dl := by rw [← hk]; exact Nat.min_le_right _ _
  have hkk : k' * size ≤ k * size := Nat.mul_le_mul_right _ hk1
  have hcl0 : cs.length = k * size := hs.1
  have hcl : cs'.length = k' * size := by rw [← hcs, List.length_take]; omega
  have hone' : ∀ c ∈ cs', c.oneCell' = true := fun c hc => hone c (List.mem_of_mem_take (hcs ▸ hc))
  have hle : j * size + k' * size ≤ m * size := by rw [← Nat.add_mul]; exact Nat.mul_le_mul_right _ (by omega)
  have hle2 : m * size ≤ cap * size := Nat.mul_le_mul_right _ h4
  have hst := run_storeCells_at (P := Tryz.prog) b (j * size) e cs' 0 cur w h3 (by rw [hcl]; omega) hone'
  simp only [Nat.add_zero] at hst
  have hr : (Builtin.copy_ #[t, u] o.type #[.slice (some ⟨b, j * size, none⟩) dl dc, v]).run Tryz.prog w = .ok (.int .i64 k') (w.setRow b (cur.toList.take (j * size) ++ cs' ++ cur.toList.drop (j * size + cs'.length)).toArray) := by
    rcases hs.2 with ⟨⟨a0, cp, rfl⟩, rfl⟩ | ⟨b2, off, cp, rfl, _, _, hc⟩
    · have hk0 : k' = 0 := by omega
      subst hk0
      have hcs0 : cs' = [] := List.eq_nil_of_length_eq_zero (by rw [hcl]; simp)
      subst hcs0
      cases a0 with
      | none => simp [Builtin.copy_, run_underlying hu, Builtin.lenOf, Builtin.firstCells, sizeOf, typeInfo, hi, hst, goInt]
      | some a0 =>
        have hl := run_loadCells_list (P := Tryz.prog) w a0 [] (by simp)
        simp at hl
        simp [Builtin.copy_, run_underlying hu, Builtin.lenOf, Builtin.firstCells, sizeOf, typeInfo, hi, hst, goInt, hl]
    · have hl := run_loadCells_list (P := Tryz.prog) w ⟨b2, off, none⟩ cs' (fun q c hq => by
        rw [add0]
        refine hc q c ?_
        rw [← hcs, List.getElem?_take] at hq
        split at hq
        · exact hq
        · cases hq)
      rw [hcl] at hl
      simp [Builtin.copy_, run_underlying hu, Builtin.lenOf, Builtin.firstCells, sizeOf, typeInfo, hi, hsz, hk, hst, goInt, hl]
  have : (execOp a.eval o).run Tryz.prog w = .ok (.value (.int .i64 k')) (w.setRow b (cur.toList.take (j * size) ++ cs' ++ cur.toList.drop (j * size + cs'.length)).toArray) := by
    unfold execOp
    rw [ho]
    simp [resolve, invoke, builtin, F.eval hx, F.eval hy, hr]
  rw [this]
  refine ⟨_, h, M1.change fun s' hs' => ?_⟩
  obtain ⟨_, h8 | ⟨g2, cap2, cur2, h8, rfl, _⟩⟩ := hs'.now
  · simp [sl] at h8
  simp only [sl, Value.slice.injEq, Option.some.injEq, Addr.mk.injEq] at h8
  obtain ⟨⟨rfl, _⟩, _⟩ := h8
  have lc : cur.toList.length = cap * size := by rw [Array.length_toList]; exact h6
  refine ⟨chg_setRow, [b], ok_own ?_ (setRow_heap w b cur _ e _ h3) h4 h5 ?_ ?_, fun x hx => .inl hx⟩
  · simp only [List.length_append, List.length_take, List.length_drop, hcl, hlen]; omega
  · simp only [List.size_toArray, List.length_append, List.length_take, List.length_drop, hcl, lc]; omega
  · simp only [List.toList_toArray]
    generalize hA : j * size = A at *
    generalize hB : k' * size = B at *
    generalize hN : m * size = N at *
    generalize hD : cap * size = D at *
    rw [← h7, List.take_take, Nat.min_eq_left (by omega), hcl, List.drop_take, List.take_append, List.take_append]
    have l1 : (cur.toList.take A).length = A := by rw [List.length_take]; omega
    rw [List.take_of_length_le (l := cur.toList.take A) (by omega), l1, List.take_of_length_le (l := cs') (by omega), List.length_append, l1, hcl]
end
end Go.Proofs.YtaggjikjohamjaaGreatDoor
end
section
namespace Go.Proofs.YtaggjikjohamjaaGreatDoor
open Go.RowKit
set_option linter.unusedVariables false
set_option maxRecDepth 100000
set_option linter.unusedSimpArgs false
set_option maxHeartbeats 2000000
/-- The table of powers of ten is as the program's text lays it. -/
def Tens (w : World) : Prop := Lib.TabIs Tryz.prog w "internal/strconv.uint64pow10" .u64 Lib.pow10Tab
theorem tens_glob : ∃ g, Tryz.prog.globalNamed "internal/strconv.uint64pow10" = some g ∧ g = 1 := ⟨_, by kernel_rfl, rfl⟩
theorem Tens.below {w w' : World} (h : Tens w) (hb : Below w.heap.size w w') : Tens w' := by
  obtain ⟨g, hg, _⟩ := tens_glob
  unfold Tens Lib.TabIs World.var? at *
  rw [hg] at h ⊢
  simp only [Option.bind_some] at h ⊢
  have hlt : g < w.heap.size := by
    rcases Nat.lt_or_ge g w.heap.size with h1 | h1
    · exact h1
    · have : w.heap[g]? = none := Array.getElem?_eq_none h1
      rw [this] at h; simp at h
  rw [hb.block g hlt]; exact h
theorem Old.tens {w0 : World} (h : Tens w0) {L L' : List Asn} (hp : Pull L (Old w0) L') : Gives L Tens := fun w M => h.below (M.below hp)
theorem dec_len (u : Nat) (h : u < 18446744073709551616) : (Lib.decDigits u).length ≤ 20 := by
  rw [Lib.decDigits_length]
  rcases Nat.eq_zero_or_pos u with h0 | h0
  · subst h0; decide +kernel
  · have := Lib.numDigits_eq u h0 h; split at this <;> omega
def zs24 : List Value := [.int .u8 0, .int .u8 0, .int .u8 0, .int .u8 0, .int .u8 0, .int .u8 0, .int .u8 0, .int .u8 0, .int .u8 0, .int .u8 0, .int .u8 0, .int .u8 0, .int .u8 0, .int .u8 0, .int .u8 0, .int .u8 0, .int .u8 0, .int .u8 0, .int .u8 0, .int .u8 0, .int .u8 0, .int .u8 0, .int .u8 0, .int .u8 0]
theorem zs24_at : ∀ j, j < 24 → zs24[j]? = some (.int .u8 0) := fun j hj => by
  have e : zs24 = List.replicate 24 (.int .u8 0) := rfl
  rw [e, List.getElem?_replicate, if_pos hj]
theorem fmt10_spec (u : Nat) (hu : u < 18446744073709551616) (b : Nat) (t : TypeId) (L : List Asn) :
    Spec 67 [.slice (some ⟨b, 0, none⟩) (Lib.nDigits u) 24, .int .u64 u] (pt b zs24 t :: L)
      fun v L' => v = .tuple #[] ∧ ∃ cs, L' = pt b cs t :: L ∧ ∀ j (h : j < (Lib.decDigits u).length), cs[j]? = some (.int .u8 ((Lib.decDigits u)[j].toNat : Int)) := fun G w M => by
  have hb : w.heap[b]? = some (.cells zs24.toArray t (0, 0)) := Mem.pt M Pull.here
  have hnd : Lib.nDigits u ≤ 20 := by have := dec_len u hu; rwa [Lib.decDigits_length] at this
  have hH : Sort.Holds (fun (b : UInt8) => Value.int .u8 (b.toNat : Int)) w b 0 (Array.replicate (Lib.nDigits u) (0 : UInt8)) := fun j hj => by
    have hj' : j < Lib.nDigits u := by simpa using hj
    have hj2 : j < 24 := by omega
    refine ⟨?_, by simp [World.frozen?, hb]⟩
    rw [getElem!_pos _ j hj]
    simp [World.cell?, hb, zs24_at j hj2]
  have h := Tryz.internal_strconv_formatBase10 b 0 24 u (Array.replicate (Lib.nDigits u) (0 : UInt8)) w hH (by rw [Array.size_replicate]; exact Lib.lt_pow_nDigits u) hu (by rw [Array.size_replicate]; omega)
  rw [Array.size_replicate] at h
  refine Calls.mono h fun e w' ⟨he, k, v', dk, hw, hF⟩ => ?_
  subst hw
  refine ⟨_, _, he, ⟨rfl, ((Sort.putCells (fun (b : UInt8) => Value.int .u8 (b.toNat : Int)) 0 dk zs24.toArray).toList), rfl, fun j hj => ?_⟩, ?_⟩
  · have hj2 : j < Lib.nDigits u := by rw [Lib.decDigits_length] at hj; exact hj
    have hj3 : j < 24 := by omega
    rw [Lib.row_is_numeral hF j hj]
    have hs : dk.size = Lib.nDigits u := hF.size
    have hz' := zs24_at j hj3
    obtain ⟨hjl, hjv⟩ := List.getElem?_eq_some_iff.1 hz'
    simp [Sort.putCells, hjl, hs, hj2]
  · have M' : Mem ((Sort.putRow (fun (b : UInt8) => Value.int .u8 (b.toNat : Int)) w b 0 dk)) (pt b (Sort.putCells (fun (b : UInt8) => Value.int .u8 (b.toNat : Int)) 0 dk zs24.toArray).toList t :: (L ++ G)) := by
      refine Mem.change M fun s hs => ?_
      obtain ⟨rfl, _⟩ := hs.now
      refine ⟨⟨rfl, rfl, rfl, by simp [Sort.putRow, Sort.mapBlock], fun k _ hk => ?_⟩, [b], ok_pt ?_, fun x hx => .inl hx⟩
      · have : b ≠ k := fun e => hk (by simp [e])
        simp [Sort.putRow, Sort.mapBlock, Array.getElem?_modify, this]
      · simp [Sort.putRow, Sort.mapBlock, Array.getElem?_modify, hb, Sort.onCells]
    exact M'.same ⟨rfl, rfl, rfl, Nat.le_refl _, fun _ _ _ => rfl⟩
theorem gives_bytes {b : Nat} {cs : List Value} {t : TypeId} {L L' : List Asn} {r : List UInt8} (h : ∀ j (hj : j < r.length), cs[j]? = some (.int .u8 (r[j].toNat : Int))) (hp : Pull L (pt b cs t) L') : Gives L fun w => ∀ j (hj : j < r.length), w.cell? ⟨b, 0 + j, none⟩ = some (.int .u8 (r[j].toNat : Int)) := fun w M j hj => by
  rw [Nat.zero_add]
  have := M.pt hp
  simp [World.cell?, this, h j hj]
theorem ifmt_any (u : Nat) (hu : u < 18446744073709551616) (w0 : World) (ht : Tens w0) :
    Calls Tryz.prog 50 [.int .u64 u, .int .i64 10].toArray w0 fun e w' => e = .returned (str (Lib.decDigits u)) ∧ Below w0.heap.size w0 w' := by
  refine sx_enter Tryz.func50 (n := 32) rfl rfl rfl rfl ?_
  (intro a F; refine sv_start ?_; intro w M)
  by_cases hs : u < 100
  · have HS : ∀ w, Calls Tryz.prog 65 [.int .i64 u].toArray w fun e w' => e = .returned (str (Lib.decDigits u)) ∧ w = w' := fun w => (Tryz.internal_strconv_small u hs w).mono fun e w' ⟨h1, h2⟩ => ⟨h1, h2.symm⟩
    (repeat' (first | (first | (refine sx_nil ?_; (try (replace F := F.filt [0, 1, 4, 5, 6, 8, 10, 12] rfl))) | (refine sv1 F M (h := ?_) (hr := by fail); clear F a; intro a F) | (refine sv1 F M (h := ?_); clear F a; intro a F) | (refine sv3 F M (h := ?_); clear M; intro w M) | (refine sv2 F M (h := ?_); clear F M a; intro b a w F M) | (refine svC F M (h := ?_); ((refine acCall (k := 65) ?_); refine Spec.of_quiet HS ?_); (clear F M a; intro a w F M)) | (refine svC0 F M (h := ?_); ((refine acCall (k := 65) ?_); refine Spec.of_quiet HS ?_); (clear M; intro w M)) | (refine sv1 F M (h := ?_) (hr := by fail); clear F a; intro a F) | (refine svK F (h := ?_); clear F a; intro a F) | (refine svK0 F (h := ?_)) | ((refine sx_guardb F rfl (fun hg => ?_) (fun hg => ?_)) <;> (rw [hg] at F; (try (exact no hg))))) | (first | (refine pv1 (h := ?_) (hr := by fail)) | (refine pv1 (h := ?_)) | (refine pv3 (h := ?_)) | (refine pv2 (h := ?_); intro b) | (refine pvC (h := ?_); ((refine acCall (k := 65) ?_); refine Spec.of_quiet HS ?_); (refine ⟨?_, ?_⟩; (exact rvsA))) | (refine pvC0 (h := ?_); ((refine acCall (k := 65) ?_); refine Spec.of_quiet HS ?_); (refine ⟨?_, ?_⟩; (exact rvsA))) | (refine pv1 (h := ?_) (hr := by fail)) | (refine pvF (h := ?_); intro b) | (refine pvK (h := ?_)) | (refine pvK0 (h := ?_)) | (refine pv_nil ?_; intro a w F M; refine ql_open ?_) | (refine pv_nil ?_; intro a w F M; (try (replace F := F.filt [0, 1, 4, 5, 6, 8, 10, 12] rfl)))) | ((fail_if_success (with_reducible show wpList _ _ _ _ _ _)); (fail_if_success (with_reducible show PW _ _ _ _ _ _ _ _ _ _)); (fail_if_success (with_reducible show Code.wp _ (Code.loop _) _ _ _)); (first | ((with_reducible show Code.wp _ (Code.region _ _ false) _ _ _); (refine sx_region ?_)) | ((with_reducible show Code.wp _ (Code.cond _ _ _) _ _ _); (first | (refine svT F (h := ?_)) | (refine svF F (h := ?_)) | ((refine svB F (fun hc => ?_) (fun hc => ?_)) <;> (try (exact no hc))))) | ((with_reducible show Code.wp _ (Code.region _ _ true) _ _ _); fail) | go_step))))
    (all_goals ((first | (refine svEnd F M ?_) | (refine svRet F M ?_)); refine ⟨?_, M.below (by (focus ((repeat (first | exact Pull.here | apply Pull.there)); done)))⟩))
    all_goals rfl
  · have hnd : Lib.nDigits u ≤ 20 := by have := dec_len u hu; rwa [Lib.decDigits_length] at this
    have HN : ∀ w, Tens w → Calls Tryz.prog 66 [.int .u64 u].toArray w fun e w' => e = .returned (.int .i64 (Lib.nDigits u)) ∧ w = w' := fun w ht => (Tryz.internal_strconv_numDigits u (by omega) hu w ht).mono fun e w' ⟨h1, h2⟩ => ⟨h1, h2.symm⟩
    have hsu : ¬ ((u : Int) < 100) := by omega
    (repeat' (first | (first | (refine sx_nil ?_; (try (replace F := F.filt [0, 1, 4, 5, 6, 8, 10, 12] rfl))) | (refine sv1 F M (h := ?_) (hr := by fail); clear F a; intro a F) | (refine sv1 F M (h := ?_); clear F a; intro a F) | (refine sv3 F M (h := ?_); clear M; intro w M) | (refine sv2 F M (h := ?_); clear F M a; intro b a w F M) | (refine svC F M (h := ?_); ((first | ((refine acCall (k := 66) ?_); (refine Spec.of_quiet_g HN (Old.tens ht (by (focus ((repeat (first | exact Pull.here | apply Pull.there)); done)))) rfl ?_)) | ((refine acCall (k := 67) ?_); (refine Spec.of_eq (Spec.mono (Spec.pre (fmt10_spec u hu b _ _) permsA) ?_) rfl); (rintro v L' ⟨rfl, cs, rfl, hcs⟩)))); (clear F M a; intro a w F M)) | (refine svC0 F M (h := ?_); ((first | ((refine acCall (k := 66) ?_); (refine Spec.of_quiet_g HN (Old.tens ht (by (focus ((repeat (first | exact Pull.here | apply Pull.there)); done)))) rfl ?_)) | ((refine acCall (k := 67) ?_); (refine Spec.of_eq (Spec.mono (Spec.pre (fmt10_spec u hu b _ _) permsA) ?_) rfl); (rintro v L' ⟨rfl, cs, rfl, hcs⟩)))); (clear M; intro w M)) | (refine sv1 F M (h := ?_) (hr := by (apply rt_string; (exact rfl); (exact rfl); (exact inferInstance); (exact inferInstance); (exact inferInstance); (exact (Lib.decDigits_length u).symm); (exact gives_bytes hcs (by (focus ((repeat (first | exact Pull.here | apply Pull.there)); done)))))); clear F a; intro a F) | (refine svK F (h := ?_); clear F a; intro a F) | (refine svK0 F (h := ?_)) | ((refine sx_guardb F rfl (fun hg => ?_) (fun hg => ?_)) <;> (rw [hg] at F; (try (exact no hg))))) | (first | (refine pv1 (h := ?_) (hr := by fail)) | (refine pv1 (h := ?_)) | (refine pv3 (h := ?_)) | (refine pv2 (h := ?_); intro b) | (refine pvC (h := ?_); ((first | ((refine acCall (k := 66) ?_); (refine Spec.of_quiet_g HN (Old.tens ht (by (focus ((repeat (first | exact Pull.here | apply Pull.there)); done)))) rfl ?_)) | ((refine acCall (k := 67) ?_); (refine Spec.of_eq (Spec.mono (Spec.pre (fmt10_spec u hu b _ _) permsA) ?_) rfl); (rintro v L' ⟨rfl, cs, rfl, hcs⟩)))); (refine ⟨?_, ?_⟩; (exact rvsA))) | (refine pvC0 (h := ?_); ((first | ((refine acCall (k := 66) ?_); (refine Spec.of_quiet_g HN (Old.tens ht (by (focus ((repeat (first | exact Pull.here | apply Pull.there)); done)))) rfl ?_)) | ((refine acCall (k := 67) ?_); (refine Spec.of_eq (Spec.mono (Spec.pre (fmt10_spec u hu b _ _) permsA) ?_) rfl); (rintro v L' ⟨rfl, cs, rfl, hcs⟩)))); (refine ⟨?_, ?_⟩; (exact rvsA))) | (refine pv1 (h := ?_) (hr := by (apply rt_string; (exact rfl); (exact rfl); (exact inferInstance); (exact inferInstance); (exact inferInstance); (exact (Lib.decDigits_length u).symm); (exact gives_bytes hcs (by (focus ((repeat (first | exact Pull.here | apply Pull.there)); done))))))) | (refine pvF (h := ?_); intro b) | (refine pvK (h := ?_)) | (refine pvK0 (h := ?_)) | (refine pv_nil ?_; intro a w F M; refine ql_open ?_) | (refine pv_nil ?_; intro a w F M; (try (replace F := F.filt [0, 1, 4, 5, 6, 8, 10, 12] rfl)))) | ((fail_if_success (with_reducible show wpList _ _ _ _ _ _)); (fail_if_success (with_reducible show PW _ _ _ _ _ _ _ _ _ _)); (fail_if_success (with_reducible show Code.wp _ (Code.loop _) _ _ _)); (first | ((with_reducible show Code.wp _ (Code.region _ _ false) _ _ _); (refine sx_region ?_)) | ((with_reducible show Code.wp _ (Code.cond _ _ _) _ _ _); (first | (refine svT F (h := ?_)) | (refine svF F (h := ?_)) | ((refine svB F (fun hc => ?_) (fun hc => ?_)) <;> (try (exact no hc))))) | ((with_reducible show Code.wp _ (Code.region _ _ true) _ _ _); fail) | go_step))))
    (all_goals ((first | (refine svEnd F M ?_) | (refine svRet F M ?_)); refine ⟨?_, M.below (by (focus ((repeat (first | exact Pull.here | apply Pull.there)); done)))⟩))
    all_goals rfl
theorem fmtUint_any (u : Nat) (hu : u < 18446744073709551616) (w0 : World) (ht : Tens w0) :
    Calls Tryz.prog 37 [.int .u64 u, .int .i64 10].toArray w0 fun e w' => e = .returned (str (Lib.decDigits u)) ∧ Below w0.heap.size w0 w' := by
  refine sx_enter Tryz.func37 (n := 8) rfl rfl rfl rfl ?_
  (intro a F; refine sv_start ?_; intro w M)
  (repeat' (first | (first | (refine sx_nil ?_; (try (replace F := F.filt [0, 1, 4] rfl))) | (refine sv1 F M (h := ?_) (hr := by fail); clear F a; intro a F) | (refine sv1 F M (h := ?_); clear F a; intro a F) | (refine sv3 F M (h := ?_); clear M; intro w M) | (refine sv2 F M (h := ?_); clear F M a; intro b a w F M) | (refine svC F M (h := ?_); (((refine acCall (k := 50) ?_); (refine Spec.of_below_g (ifmt_any u hu) (Old.tens ht (by (focus ((repeat (first | exact Pull.here | apply Pull.there)); done)))) rfl ?_))); (clear F M a; intro a w F M)) | (refine svC0 F M (h := ?_); (((refine acCall (k := 50) ?_); (refine Spec.of_below_g (ifmt_any u hu) (Old.tens ht (by (focus ((repeat (first | exact Pull.here | apply Pull.there)); done)))) rfl ?_))); (clear M; intro w M)) | (refine sv1 F M (h := ?_) (hr := by fail); clear F a; intro a F) | (refine svK F (h := ?_); clear F a; intro a F) | (refine svK0 F (h := ?_)) | ((refine sx_guardb F rfl (fun hg => ?_) (fun hg => ?_)) <;> (rw [hg] at F; (try (exact no hg))))) | (first | (refine pv1 (h := ?_) (hr := by fail)) | (refine pv1 (h := ?_)) | (refine pv3 (h := ?_)) | (refine pv2 (h := ?_); intro b) | (refine pvC (h := ?_); (((refine acCall (k := 50) ?_); (refine Spec.of_below_g (ifmt_any u hu) (Old.tens ht (by (focus ((repeat (first | exact Pull.here | apply Pull.there)); done)))) rfl ?_))); (refine ⟨?_, ?_⟩; (exact rvsA))) | (refine pvC0 (h := ?_); (((refine acCall (k := 50) ?_); (refine Spec.of_below_g (ifmt_any u hu) (Old.tens ht (by (focus ((repeat (first | exact Pull.here | apply Pull.there)); done)))) rfl ?_))); (refine ⟨?_, ?_⟩; (exact rvsA))) | (refine pv1 (h := ?_) (hr := by fail)) | (refine pvF (h := ?_); intro b) | (refine pvK (h := ?_)) | (refine pvK0 (h := ?_)) | (refine pv_nil ?_; intro a w F M; refine ql_open ?_) | (refine pv_nil ?_; intro a w F M; (try (replace F := F.filt [0, 1, 4] rfl)))) | ((fail_if_success (with_reducible show wpList _ _ _ _ _ _)); (fail_if_success (with_reducible show PW _ _ _ _ _ _ _ _ _ _)); (fail_if_success (with_reducible show Code.wp _ (Code.loop _) _ _ _)); (first | ((with_reducible show Code.wp _ (Code.region _ _ false) _ _ _); (refine sx_region ?_)) | ((with_reducible show Code.wp _ (Code.cond _ _ _) _ _ _); (first | (refine svT F (h := ?_)) | (refine svF F (h := ?_)) | ((refine svB F (fun hc => ?_) (fun hc => ?_)) <;> (try (exact no hc))))) | ((with_reducible show Code.wp _ (Code.region _ _ true) _ _ _); fail) | go_step))))
  (all_goals ((first | (refine svEnd F M ?_) | (refine svRet F M ?_)); refine ⟨?_, M.below (by (focus ((repeat (first | exact Pull.here | apply Pull.there)); done)))⟩))
  all_goals rfl
theorem gfmt_any (u : Nat) (hu : u < 18446744073709551616) (w0 : World) (ht : Tens w0) :
    Calls Tryz.prog 23 [.int .u64 u].toArray w0 fun e w' => e = .returned (str (Lib.decDigits u)) ∧ Below w0.heap.size w0 w' := by
  refine sx_enter Tryz.func23 (n := 5) rfl rfl rfl rfl ?_
  (intro a F; refine sv_start ?_; intro w M)
  (repeat' (first | (first | (refine sx_nil ?_; (try (replace F := F.filt [0, 2] rfl))) | (refine sv1 F M (h := ?_) (hr := by fail); clear F a; intro a F) | (refine sv1 F M (h := ?_); clear F a; intro a F) | (refine sv3 F M (h := ?_); clear M; intro w M) | (refine sv2 F M (h := ?_); clear F M a; intro b a w F M) | (refine svC F M (h := ?_); (((refine acCall (k := 37) ?_); (refine Spec.of_below_g (fmtUint_any u hu) (Old.tens ht (by (focus ((repeat (first | exact Pull.here | apply Pull.there)); done)))) rfl ?_))); (clear F M a; intro a w F M)) | (refine svC0 F M (h := ?_); (((refine acCall (k := 37) ?_); (refine Spec.of_below_g (fmtUint_any u hu) (Old.tens ht (by (focus ((repeat (first | exact Pull.here | apply Pull.there)); done)))) rfl ?_))); (clear M; intro w M)) | (refine sv1 F M (h := ?_) (hr := by fail); clear F a; intro a F) | (refine svK F (h := ?_); clear F a; intro a F) | (refine svK0 F (h := ?_)) | ((refine sx_guardb F rfl (fun hg => ?_) (fun hg => ?_)) <;> (rw [hg] at F; (try (exact no hg))))) | (first | (refine pv1 (h := ?_) (hr := by fail)) | (refine pv1 (h := ?_)) | (refine pv3 (h := ?_)) | (refine pv2 (h := ?_); intro b) | (refine pvC (h := ?_); (((refine acCall (k := 37) ?_); (refine Spec.of_below_g (fmtUint_any u hu) (Old.tens ht (by (focus ((repeat (first | exact Pull.here | apply Pull.there)); done)))) rfl ?_))); (refine ⟨?_, ?_⟩; (exact rvsA))) | (refine pvC0 (h := ?_); (((refine acCall (k := 37) ?_); (refine Spec.of_below_g (fmtUint_any u hu) (Old.tens ht (by (focus ((repeat (first | exact Pull.here | apply Pull.there)); done)))) rfl ?_))); (refine ⟨?_, ?_⟩; (exact rvsA))) | (refine pv1 (h := ?_) (hr := by fail)) | (refine pvF (h := ?_); intro b) | (refine pvK (h := ?_)) | (refine pvK0 (h := ?_)) | (refine pv_nil ?_; intro a w F M; refine ql_open ?_) | (refine pv_nil ?_; intro a w F M; (try (replace F := F.filt [0, 2] rfl)))) | ((fail_if_success (with_reducible show wpList _ _ _ _ _ _)); (fail_if_success (with_reducible show PW _ _ _ _ _ _ _ _ _ _)); (fail_if_success (with_reducible show Code.wp _ (Code.loop _) _ _ _)); (first | ((with_reducible show Code.wp _ (Code.region _ _ false) _ _ _); (refine sx_region ?_)) | ((with_reducible show Code.wp _ (Code.cond _ _ _) _ _ _); (first | (refine svT F (h := ?_)) | (refine svF F (h := ?_)) | ((refine svB F (fun hc => ?_) (fun hc => ?_)) <;> (try (exact no hc))))) | ((with_reducible show Code.wp _ (Code.region _ _ true) _ _ _); fail) | go_step))))
  (all_goals ((first | (refine svEnd F M ?_) | (refine svRet F M ?_)); refine ⟨?_, M.below (by (focus ((repeat (first | exact Pull.here | apply Pull.there)); done)))⟩))
  all_goals rfl
end Go.Proofs.YtaggjikjohamjaaGreatDoor
end
section
namespace Go.Proofs.YtaggjikjohamjaaGreatDoor
open Go.RowKit
set_option linter.unusedVariables false
set_option maxRecDepth 100000
set_option linter.unusedSimpArgs false
set_option maxHeartbeats 8000000
/-- strconv's two errors are there. -/
def Errs (w : World) : Prop := (∃ u v, w.cell? ⟨4, 0, none⟩ = some (.iface u v)) ∧ (∃ u v, w.cell? ⟨5, 0, none⟩ = some (.iface u v))
theorem cell_below {w w' : World} {b : Nat} {v : Value} (h : w.cell? ⟨b, 0, none⟩ = some v) (hb : Below w.heap.size w w') : w'.cell? ⟨b, 0, none⟩ = some v := by
  have hlt : b < w.heap.size := by
    rcases Nat.lt_or_ge b w.heap.size with h1 | h1
    · exact h1
    · have : w.heap[b]? = none := Array.getElem?_eq_none h1
      simp [World.cell?, this] at h
  unfold World.cell? at *
  rw [hb.block b hlt]; exact h
theorem Errs.below {w w' : World} (h : Errs w) (hb : Below w.heap.size w w') : Errs w' := by
  obtain ⟨⟨u, v, h1⟩, u', v', h2⟩ := h
  exact ⟨⟨u, v, cell_below h1 hb⟩, u', v', cell_below h2 hb⟩
def Laid (w : World) : Prop := Tens w ∧ Errs w
theorem Laid.below {w w' : World} (h : Laid w) (hb : Below w.heap.size w w') : Laid w' := ⟨h.1.below hb, h.2.below hb⟩
theorem Old.laid {w0 : World} (h : Laid w0) {L L' : List Asn} (hp : Pull L (Old w0) L') : Gives L Laid := fun w M => h.below (M.below hp)
section
variable {o : Oper} {n : Nat} {l : List (Nat × Value)} {L : List Asn} {C : Value → List Asn → Prop}
theorem Spec.of_below_ex {α : Type} {k : FuncId} {us us' : List Value} {v : α → Value} {φ : World → Prop} (h : ∀ w, φ w → Calls Tryz.prog k us'.toArray w fun e w' => (∃ x, e = .returned (v x)) ∧ Below w.heap.size w w') (hg : Gives L φ) (hu : us = us') (hC : ∀ x, C (v x) L) : Spec k us L C := by
  subst hu
  exact fun G w M => (h w (hg w M.drop_app)).mono fun e w' ⟨⟨x, he⟩, hb⟩ => ⟨v x, L, he, hC x, M.of_below hb⟩
theorem rt_neIf {t ty : TypeId} {x : Operand} (ho : o.op = .binOp .neq t x (.const .nilIface) ty) {u : TypeId} {v : Value} (hx : evl l x = some (.iface u v)) (ht : Tryz.prog.isIface t = true) : RT o l L n (.bool true) := fun a w F M => by
  have := run_neq_iface_nil (P := Tryz.prog) w t ht u v
  unfold execOp
  rw [ho]
  have e1 := F.eval hx
  have e2 : a.eval (.const .nilIface) = .nilIface := rfl
  simp only [e1, e2]
  simp [eqGuard, this]
theorem rt_neNil {t ty : TypeId} {x : Operand} (ho : o.op = .binOp .neq t x (.const .nilIface) ty) (hx : evl l x = some .nilIface) (ht : Tryz.prog.isIface t = true) : RT o l L n (.bool false) := fun a w F M => by
  have := run_neq_nil_nil_at (P := Tryz.prog) w t ht
  unfold execOp
  rw [ho]
  have e1 := F.eval hx
  have e2 : a.eval (.const .nilIface) = .nilIface := rfl
  simp only [e1, e2]
  simp [eqGuard, this]
end
theorem parse_any (s : List UInt8) (hs : s.length ≤ 1000000) (w0 : World) (hl : Laid w0) :
    Calls Tryz.prog 35 [str s].toArray w0 fun e w' => e = .returned (.tuple [.int .u64 ((pU s).getD 0 : Nat), .bool (pU s).isSome].toArray) ∧ Below w0.heap.size w0 w' := by
  have ht := hl.1
  rcases h : Lib.parseUintB 64 s with u | _ | _
  · have hu : u < 18446744073709551616 := by have := Lib.parseUintB_le h; omega
    have HP : ∀ w : World, Laid w → Calls Tryz.prog 49 [str s, .int .i64 10, .int .i64 64].toArray w fun e w' => e = .returned (.tuple #[.int .u64 u, .nilIface]) ∧ Below w.heap.size w w' := fun w hw => by
      refine (Tryz.strconv_ParseUint_10_at64_ok ⟨s.toArray⟩ (by simp [ByteArray.size]; omega) u (by simpa using h) w).mono fun e w' ⟨h1, h2⟩ => ⟨h1, ?_⟩
      rcases h2 with rfl | rfl
      · exact Below.refl _ _
      · exact Lib.bytesWorld_below _ _ _
    by_cases he : Lib.decDigits u = s
    · have ep : pU s = some u := by rw [pU_parse, h]; exact if_pos he
      rw [ep]
      refine sx_enter (vs := [str s]) Tryz.func35 (n := 20) rfl rfl rfl rfl ?_
      (intro a F; refine sv_start ?_; intro w M)
      have hsl : (Lib.decDigits u).length ≤ 20 := dec_len u hu
      (repeat' (first | (first | (refine sx_nil ?_; (try (replace F := F.filt [0, 2, 3, 4, 5, 18] rfl))) | (refine sv1 F M (h := ?_) (hr := by fail); clear F a; intro a F) | (refine sv1 F M (h := ?_); clear F a; intro a F) | (refine sv3 F M (h := ?_); clear M; intro w M) | (refine sv2 F M (h := ?_); clear F M a; intro b a w F M) | (refine svC F M (h := ?_); (first | ((refine acCall (k := 49) ?_); (refine Spec.of_below_g HP (Old.laid hl pullA) rfl ?_)) | ((refine acCall (k := 23) ?_); (refine Spec.of_below_g (gfmt_any u (by omega)) (Old.tens ht pullA) rfl ?_))); (clear F M a; intro a w F M)) | (refine svC0 F M (h := ?_); (first | ((refine acCall (k := 49) ?_); (refine Spec.of_below_g HP (Old.laid hl pullA) rfl ?_)) | ((refine acCall (k := 23) ?_); (refine Spec.of_below_g (gfmt_any u (by omega)) (Old.tens ht pullA) rfl ?_))); (clear M; intro w M)) | (refine sv1 F M (h := ?_) (hr := by (first | (apply rt_neIf; (exact rfl); (exact rfl); kernel_rfl) | (apply rt_neNil; (exact rfl); (exact rfl); kernel_rfl))); clear F a; intro a F) | (refine svK F (h := ?_); clear F a; intro a F) | (refine svK0 F (h := ?_)) | ((refine sx_guardb F rfl (fun hg => ?_) (fun hg => ?_)) <;> (rw [hg] at F; (try (exact no hg))))) | (first | (refine pv1 (h := ?_) (hr := by fail)) | (refine pv1 (h := ?_)) | (refine pv3 (h := ?_)) | (refine pv2 (h := ?_); intro b) | (refine pvC (h := ?_); (first | ((refine acCall (k := 49) ?_); (refine Spec.of_below_g HP (Old.laid hl pullA) rfl ?_)) | ((refine acCall (k := 23) ?_); (refine Spec.of_below_g (gfmt_any u (by omega)) (Old.tens ht pullA) rfl ?_))); (refine ⟨?_, ?_⟩; (exact rvsA))) | (refine pvC0 (h := ?_); (first | ((refine acCall (k := 49) ?_); (refine Spec.of_below_g HP (Old.laid hl pullA) rfl ?_)) | ((refine acCall (k := 23) ?_); (refine Spec.of_below_g (gfmt_any u (by omega)) (Old.tens ht pullA) rfl ?_))); (refine ⟨?_, ?_⟩; (exact rvsA))) | (refine pv1 (h := ?_) (hr := by (first | (apply rt_neIf; (exact rfl); (exact rfl); kernel_rfl) | (apply rt_neNil; (exact rfl); (exact rfl); kernel_rfl)))) | (refine pvF (h := ?_); intro b) | (refine pvK (h := ?_)) | (refine pvK0 (h := ?_)) | (refine pv_nil ?_; intro a w F M; refine ql_open ?_) | (refine pv_nil ?_; intro a w F M; (try (replace F := F.filt [0, 2, 3, 4, 5, 18] rfl)))) | ((fail_if_success (with_reducible show wpList _ _ _ _ _ _)); (fail_if_success (with_reducible show PW _ _ _ _ _ _ _ _ _ _)); (fail_if_success (with_reducible show Code.wp _ (Code.loop _) _ _ _)); (first | ((with_reducible show Code.wp _ (Code.region _ _ false) _ _ _); (refine sx_region ?_)) | ((with_reducible show Code.wp _ (Code.cond _ _ _) _ _ _); (first | (refine svT F (h := ?_)) | (refine svF F (h := ?_)) | ((refine svB F (fun hc => ?_) (fun hc => ?_)) <;> (try (exact no hc))))) | ((with_reducible show Code.wp _ (Code.region _ _ true) _ _ _); fail) | go_step))))
      (all_goals ((first | (refine svEnd F M ?_) | (refine svRet F M ?_)); refine ⟨?_, M.below (by (focus ((repeat (first | exact Pull.here | apply Pull.there)); done)))⟩))
      all_goals rfl
    · have ep : pU s = none := by rw [pU_parse, h]; exact if_neg he
      rw [ep]
      refine sx_enter (vs := [str s]) Tryz.func35 (n := 20) rfl rfl rfl rfl ?_
      (intro a F; refine sv_start ?_; intro w M)
      (repeat' (first | (first | (refine sx_nil ?_; (try (replace F := F.filt [0, 2, 3, 4, 5, 18] rfl))) | (refine sv1 F M (h := ?_) (hr := by fail); clear F a; intro a F) | (refine sv1 F M (h := ?_); clear F a; intro a F) | (refine sv3 F M (h := ?_); clear M; intro w M) | (refine sv2 F M (h := ?_); clear F M a; intro b a w F M) | (refine svC F M (h := ?_); (first | ((refine acCall (k := 49) ?_); (refine Spec.of_below_g HP (Old.laid hl pullA) rfl ?_)) | ((refine acCall (k := 23) ?_); (refine Spec.of_below_g (gfmt_any u (by omega)) (Old.tens ht pullA) rfl ?_))); (clear F M a; intro a w F M)) | (refine svC0 F M (h := ?_); (first | ((refine acCall (k := 49) ?_); (refine Spec.of_below_g HP (Old.laid hl pullA) rfl ?_)) | ((refine acCall (k := 23) ?_); (refine Spec.of_below_g (gfmt_any u (by omega)) (Old.tens ht pullA) rfl ?_))); (clear M; intro w M)) | (refine sv1 F M (h := ?_) (hr := by (first | (apply rt_neIf; (exact rfl); (exact rfl); kernel_rfl) | (apply rt_neNil; (exact rfl); (exact rfl); kernel_rfl))); clear F a; intro a F) | (refine svK F (h := ?_); clear F a; intro a F) | (refine svK0 F (h := ?_)) | ((refine sx_guardb F rfl (fun hg => ?_) (fun hg => ?_)) <;> (rw [hg] at F; (try (exact no hg))))) | (first | (refine pv1 (h := ?_) (hr := by fail)) | (refine pv1 (h := ?_)) | (refine pv3 (h := ?_)) | (refine pv2 (h := ?_); intro b) | (refine pvC (h := ?_); (first | ((refine acCall (k := 49) ?_); (refine Spec.of_below_g HP (Old.laid hl pullA) rfl ?_)) | ((refine acCall (k := 23) ?_); (refine Spec.of_below_g (gfmt_any u (by omega)) (Old.tens ht pullA) rfl ?_))); (refine ⟨?_, ?_⟩; (exact rvsA))) | (refine pvC0 (h := ?_); (first | ((refine acCall (k := 49) ?_); (refine Spec.of_below_g HP (Old.laid hl pullA) rfl ?_)) | ((refine acCall (k := 23) ?_); (refine Spec.of_below_g (gfmt_any u (by omega)) (Old.tens ht pullA) rfl ?_))); (refine ⟨?_, ?_⟩; (exact rvsA))) | (refine pv1 (h := ?_) (hr := by (first | (apply rt_neIf; (exact rfl); (exact rfl); kernel_rfl) | (apply rt_neNil; (exact rfl); (exact rfl); kernel_rfl)))) | (refine pvF (h := ?_); intro b) | (refine pvK (h := ?_)) | (refine pvK0 (h := ?_)) | (refine pv_nil ?_; intro a w F M; refine ql_open ?_) | (refine pv_nil ?_; intro a w F M; (try (replace F := F.filt [0, 2, 3, 4, 5, 18] rfl)))) | ((fail_if_success (with_reducible show wpList _ _ _ _ _ _)); (fail_if_success (with_reducible show PW _ _ _ _ _ _ _ _ _ _)); (fail_if_success (with_reducible show Code.wp _ (Code.loop _) _ _ _)); (first | ((with_reducible show Code.wp _ (Code.region _ _ false) _ _ _); (refine sx_region ?_)) | ((with_reducible show Code.wp _ (Code.cond _ _ _) _ _ _); (first | (refine svT F (h := ?_)) | (refine svF F (h := ?_)) | ((refine svB F (fun hc => ?_) (fun hc => ?_)) <;> (try (exact no hc))))) | ((with_reducible show Code.wp _ (Code.region _ _ true) _ _ _); fail) | go_step))))
      (all_goals ((first | (refine svEnd F M ?_) | (refine svRet F M ?_)); refine ⟨?_, M.below (by (focus ((repeat (first | exact Pull.here | apply Pull.there)); done)))⟩))
      all_goals rfl
  · have HP : ∀ w : World, Laid w → Calls Tryz.prog 49 [str s, .int .i64 10, .int .i64 64].toArray w fun e w' => (∃ N : Nat, e = .returned (.tuple #[.int .u64 0, .iface 121 (.pointer (some ⟨N, 0, none⟩))])) ∧ Below w.heap.size w w' := fun w hw => by
      obtain ⟨⟨u, v, hc⟩, _⟩ := hw.2
      exact (Any.strconv_ParseUint_10_at64_syntax Tryz.laysPu14 ⟨s.toArray⟩ (by simp [ByteArray.size]; omega) (by simpa using h) (.iface u v) w hc (.inr ⟨u, v, rfl⟩)).mono fun e w' ⟨N, h1, _, _, h2⟩ => ⟨⟨N, h1⟩, h2⟩
    have ep : pU s = none := by rw [pU_parse, h]
    rw [ep]
    refine sx_enter (vs := [str s]) Tryz.func35 (n := 20) rfl rfl rfl rfl ?_
    (intro a F; refine sv_start ?_; intro w M)
    (repeat' (first | (first | (refine sx_nil ?_; (try (replace F := F.filt [0, 2, 3, 4, 5, 18] rfl))) | (refine sv1 F M (h := ?_) (hr := by fail); clear F a; intro a F) | (refine sv1 F M (h := ?_); clear F a; intro a F) | (refine sv3 F M (h := ?_); clear M; intro w M) | (refine sv2 F M (h := ?_); clear F M a; intro b a w F M) | (refine svC F M (h := ?_); ((refine acCall (k := 49) ?_); (refine Spec.of_below_ex HP (Old.laid hl pullA) rfl ?_); intro N); (clear F M a; intro a w F M)) | (refine svC0 F M (h := ?_); ((refine acCall (k := 49) ?_); (refine Spec.of_below_ex HP (Old.laid hl pullA) rfl ?_); intro N); (clear M; intro w M)) | (refine sv1 F M (h := ?_) (hr := by (first | (apply rt_neIf; (exact rfl); (exact rfl); kernel_rfl) | (apply rt_neNil; (exact rfl); (exact rfl); kernel_rfl))); clear F a; intro a F) | (refine svK F (h := ?_); clear F a; intro a F) | (refine svK0 F (h := ?_)) | ((refine sx_guardb F rfl (fun hg => ?_) (fun hg => ?_)) <;> (rw [hg] at F; (try (exact no hg))))) | (first | (refine pv1 (h := ?_) (hr := by fail)) | (refine pv1 (h := ?_)) | (refine pv3 (h := ?_)) | (refine pv2 (h := ?_); intro b) | (refine pvC (h := ?_); ((refine acCall (k := 49) ?_); (refine Spec.of_below_ex HP (Old.laid hl pullA) rfl ?_); intro N); (refine ⟨?_, ?_⟩; (exact rvsA))) | (refine pvC0 (h := ?_); ((refine acCall (k := 49) ?_); (refine Spec.of_below_ex HP (Old.laid hl pullA) rfl ?_); intro N); (refine ⟨?_, ?_⟩; (exact rvsA))) | (refine pv1 (h := ?_) (hr := by (first | (apply rt_neIf; (exact rfl); (exact rfl); kernel_rfl) | (apply rt_neNil; (exact rfl); (exact rfl); kernel_rfl)))) | (refine pvF (h := ?_); intro b) | (refine pvK (h := ?_)) | (refine pvK0 (h := ?_)) | (refine pv_nil ?_; intro a w F M; refine ql_open ?_) | (refine pv_nil ?_; intro a w F M; (try (replace F := F.filt [0, 2, 3, 4, 5, 18] rfl)))) | ((fail_if_success (with_reducible show wpList _ _ _ _ _ _)); (fail_if_success (with_reducible show PW _ _ _ _ _ _ _ _ _ _)); (fail_if_success (with_reducible show Code.wp _ (Code.loop _) _ _ _)); (first | ((with_reducible show Code.wp _ (Code.region _ _ false) _ _ _); (refine sx_region ?_)) | ((with_reducible show Code.wp _ (Code.cond _ _ _) _ _ _); (first | (refine svT F (h := ?_)) | (refine svF F (h := ?_)) | ((refine svB F (fun hc => ?_) (fun hc => ?_)) <;> (try (exact no hc))))) | ((with_reducible show Code.wp _ (Code.region _ _ true) _ _ _); fail) | go_step))))
    (all_goals ((first | (refine svEnd F M ?_) | (refine svRet F M ?_)); refine ⟨?_, M.below (by (focus ((repeat (first | exact Pull.here | apply Pull.there)); done)))⟩))
    all_goals rfl
  · have HP : ∀ w : World, Laid w → Calls Tryz.prog 49 [str s, .int .i64 10, .int .i64 64].toArray w fun e w' => (∃ N : Nat, e = .returned (.tuple #[.int .u64 18446744073709551615, .iface 121 (.pointer (some ⟨N, 0, none⟩))])) ∧ Below w.heap.size w w' := fun w hw => by
      obtain ⟨_, u, v, hc⟩ := hw.2
      exact (Tryz.strconv_ParseUint_10_at64_range ⟨s.toArray⟩ (by simp [ByteArray.size]; omega) (by simpa using h) (.iface u v) w hc (.inr ⟨u, v, rfl⟩)).mono fun e w' ⟨N, h1, _, _, h2⟩ => ⟨⟨N, h1⟩, h2⟩
    have ep : pU s = none := by rw [pU_parse, h]
    rw [ep]
    refine sx_enter (vs := [str s]) Tryz.func35 (n := 20) rfl rfl rfl rfl ?_
    (intro a F; refine sv_start ?_; intro w M)
    (repeat' (first | (first | (refine sx_nil ?_; (try (replace F := F.filt [0, 2, 3, 4, 5, 18] rfl))) | (refine sv1 F M (h := ?_) (hr := by fail); clear F a; intro a F) | (refine sv1 F M (h := ?_); clear F a; intro a F) | (refine sv3 F M (h := ?_); clear M; intro w M) | (refine sv2 F M (h := ?_); clear F M a; intro b a w F M) | (refine svC F M (h := ?_); ((refine acCall (k := 49) ?_); (refine Spec.of_below_ex HP (Old.laid hl pullA) rfl ?_); intro N); (clear F M a; intro a w F M)) | (refine svC0 F M (h := ?_); ((refine acCall (k := 49) ?_); (refine Spec.of_below_ex HP (Old.laid hl pullA) rfl ?_); intro N); (clear M; intro w M)) | (refine sv1 F M (h := ?_) (hr := by (first | (apply rt_neIf; (exact rfl); (exact rfl); kernel_rfl) | (apply rt_neNil; (exact rfl); (exact rfl); kernel_rfl))); clear F a; intro a F) | (refine svK F (h := ?_); clear F a; intro a F) | (refine svK0 F (h := ?_)) | ((refine sx_guardb F rfl (fun hg => ?_) (fun hg => ?_)) <;> (rw [hg] at F; (try (exact no hg))))) | (first | (refine pv1 (h := ?_) (hr := by fail)) | (refine pv1 (h := ?_)) | (refine pv3 (h := ?_)) | (refine pv2 (h := ?_); intro b) | (refine pvC (h := ?_); ((refine acCall (k := 49) ?_); (refine Spec.of_below_ex HP (Old.laid hl pullA) rfl ?_); intro N); (refine ⟨?_, ?_⟩; (exact rvsA))) | (refine pvC0 (h := ?_); ((refine acCall (k := 49) ?_); (refine Spec.of_below_ex HP (Old.laid hl pullA) rfl ?_); intro N); (refine ⟨?_, ?_⟩; (exact rvsA))) | (refine pv1 (h := ?_) (hr := by (first | (apply rt_neIf; (exact rfl); (exact rfl); kernel_rfl) | (apply rt_neNil; (exact rfl); (exact rfl); kernel_rfl)))) | (refine pvF (h := ?_); intro b) | (refine pvK (h := ?_)) | (refine pvK0 (h := ?_)) | (refine pv_nil ?_; intro a w F M; refine ql_open ?_) | (refine pv_nil ?_; intro a w F M; (try (replace F := F.filt [0, 2, 3, 4, 5, 18] rfl)))) | ((fail_if_success (with_reducible show wpList _ _ _ _ _ _)); (fail_if_success (with_reducible show PW _ _ _ _ _ _ _ _ _ _)); (fail_if_success (with_reducible show Code.wp _ (Code.loop _) _ _ _)); (first | ((with_reducible show Code.wp _ (Code.region _ _ false) _ _ _); (refine sx_region ?_)) | ((with_reducible show Code.wp _ (Code.cond _ _ _) _ _ _); (first | (refine svT F (h := ?_)) | (refine svF F (h := ?_)) | ((refine svB F (fun hc => ?_) (fun hc => ?_)) <;> (try (exact no hc))))) | ((with_reducible show Code.wp _ (Code.region _ _ true) _ _ _); fail) | go_step))))
    (all_goals ((first | (refine svEnd F M ?_) | (refine svRet F M ?_)); refine ⟨?_, M.below (by (focus ((repeat (first | exact Pull.here | apply Pull.there)); done)))⟩))
    all_goals rfl
end Go.Proofs.YtaggjikjohamjaaGreatDoor
end
section
namespace Go.Proofs.YtaggjikjohamjaaGreatDoor
open Go.RowKit Go.Maps
set_option linter.unusedVariables false
set_option maxRecDepth 100000
set_option linter.unusedSimpArgs false
set_option maxHeartbeats 8000000
/-! ### Split -/
theorem splitK_eq (c : UInt8) : ∀ (s : List UInt8) (k : Nat), s.count c ≤ k → Lib.splitK [c] 0 k s = splitB c s
  | [], k, _ => by
    cases k with
    | zero => rfl
    | succ k => rfl
  | x :: r, k, h => by
    by_cases hx : x = c
    · subst hx
      rw [List.count_cons_self] at h
      obtain ⟨k, rfl⟩ : ∃ m, k = m + 1 := ⟨k - 1, by omega⟩
      have hi : Lib.index (x :: r) [x] = 0 := by simp [Lib.index, List.isPrefixOf]
      rw [Lib.splitK, hi, splitB, if_pos rfl, if_neg (by decide)]
      simp only [Int.toNat_zero, Nat.zero_add, List.take_zero, List.length_cons, List.length_nil, List.drop_one, List.tail_cons]
      rw [splitK_eq x r k (by omega)]
    · rw [List.count_cons_of_ne hx] at h
      have ih := splitK_eq c r k h
      obtain ⟨hd, t, e⟩ := splitB_ne c r
      rw [splitB, if_neg hx, e]
      simp only
      rw [e] at ih
      cases k with
      | zero =>
        rw [Lib.splitK] at ih ⊢
        injection ih with i1 i2
        rw [← i1, ← i2]
      | succ k =>
        have hp : ¬ (([c] : List UInt8).isPrefixOf (x :: r)) = true := by simp [List.isPrefixOf]; exact fun h => hx h.symm
        by_cases hm : Lib.index r [c] = -1
        · have hi : Lib.index (x :: r) [c] = -1 := by rw [Lib.index, if_neg hp, if_pos (by rw [hm]; rfl)]
          rw [Lib.splitK, hm, if_pos (by decide)] at ih
          rw [Lib.splitK, hi, if_pos (by decide)]
          injection ih with i1 i2
          rw [← i1, ← i2]
        · have hge := Lib.index_ge r [c]
          obtain ⟨i, hi0⟩ : ∃ i : Nat, Lib.index r [c] = i := ⟨(Lib.index r [c]).toNat, by omega⟩
          have hb : ¬ (((i : Int) == -1) = true) := by rw [beq_iff_eq]; omega
          have hi : Lib.index (x :: r) [c] = ((i + 1 : Nat) : Int) := by rw [Lib.index, if_neg hp, hi0, if_neg hb]; omega
          have hb2 : ¬ (((((i + 1 : Nat) : Int)) == -1) = true) := by rw [beq_iff_eq]; omega
          rw [Lib.splitK, hi0, if_neg hb] at ih
          rw [Lib.splitK, hi, if_neg hb2]
          simp only [Int.toNat_natCast, Nat.add_zero] at ih ⊢
          injection ih with i1 i2
          rw [← i1, ← i2]
          rfl
theorem lib_split (s : List UInt8) (c : UInt8) : Lib.splitB ⟨#[c]⟩ 0 (Lib.countB ⟨s.toArray⟩ ⟨#[c]⟩) ⟨s.toArray⟩ = (splitB c s).map fun l => ⟨l.toArray⟩ := by
  have h := Lib.splitB_data ⟨#[c]⟩ 0 (Lib.countB ⟨s.toArray⟩ ⟨#[c]⟩) ⟨s.toArray⟩
  have hc : Lib.countB ⟨s.toArray⟩ ⟨#[c]⟩ = s.count c := Lib.count_one c s
  have h : _ = Lib.splitK [c] 0 (Lib.countB ⟨s.toArray⟩ ⟨#[c]⟩) s := h
  rw [hc, splitK_eq c s _ (Nat.le_refl _)] at h
  rw [hc]
  have key : ∀ (a : List ByteArray) (b : List (List UInt8)), a.map (·.data.toList) = b → a = b.map fun l => ⟨l.toArray⟩ := by
    rintro a b rfl
    rw [List.map_map]
    conv => lhs; rw [← List.map_id a]
    refine List.map_congr_left fun x _ => ?_
    show x = ⟨x.data.toList.toArray⟩
    cases x; simp
  exact key _ _ h
/-- What a variable of the library holds. -/
def MxL (w : World) : Prop := ∃ m, w.cell? ⟨0, 0, none⟩ = some (.int .i64 m)
theorem MxL.below {w w' : World} (h : MxL w) (hb : Below w.heap.size w w') : MxL w' := by
  obtain ⟨m, h⟩ := h
  exact ⟨m, cell_below h hb⟩
theorem Old.mxl {w0 : World} (h : MxL w0) {L L' : List Asn} (hp : Pull L (Old w0) L') : Gives L MxL := fun w M => h.below (M.below hp)
theorem strL_cells (xs : List (List UInt8)) : (xs.map fun l => Value.string ⟨l.toArray⟩) = xs.flatMap strL := by
  induction xs with
  | nil => rfl
  | cons x r ih => rw [List.map_cons, List.flatMap_cons, ih]; rfl
theorem split_spec (s : List UInt8) (c : UInt8) (hs : s.length ≤ 1000000) (R : List Asn) (hm : Gives R MxL) : Spec 18 [str s, str [c]] R fun u L' => ∃ h, u = sl h ∧ L' = ownT 9 strL 1 (sl h) (splitB c s) :: R := fun G w M => by
  obtain ⟨m, hm⟩ := hm w M.drop_app
  have hsz : (ByteArray.mk s.toArray).size = s.length := by show s.toArray.size = _; simp
  have := Tryz.strings_Split ⟨s.toArray⟩ ⟨#[c]⟩ m w (by rw [hsz]; omega) hm (Nat.le_refl 1)
  have hc : Lib.countB ⟨s.toArray⟩ ⟨#[c]⟩ = s.count c := Lib.count_one c s
  have hle := List.count_le_length (a := c) (l := s)
  rw [lib_split, hc] at this
  refine this.mono ?_
  rintro e w' ⟨rfl, rfl⟩
  have hl := splitB_len c s
  refine ⟨_, _, rfl, ⟨⟨some ⟨w.heap.size, 0, none⟩, s.count c + 1, s.count c + 1⟩, rfl, rfl⟩, ?_⟩
  have hcl : ((splitB c s).flatMap strL).length = (s.count c + 1) * 1 := by rw [flat_len (f := strL) (k := 1) (fun _ => rfl), hl]
  have e1 : (((splitB c s).map fun l => (⟨l.toArray⟩ : ByteArray)).map Value.string).toArray = ((splitB c s).flatMap strL).toArray := by
    rw [List.map_map, ← strL_cells]; rfl
  rw [e1, ownT, hl]
  refine M.new ⟨rfl, rfl, rfl, by simp, fun k hk _ => (((Below.refl _ _).alloc (Nat.le_refl _) _).block k hk)⟩ ⟨[w.heap.size], ok_own hcl (World.alloc_heap_new w _) (Nat.le_refl _) (by simp only [maxLen]; omega) (by simp [hcl]) ?_, by simp⟩
  rw [List.toList_toArray, List.take_of_length_le (Nat.le_of_eq hcl)]
theorem join_eq (c : UInt8) (xs : List (List UInt8)) : Lib.join xs [c] = joinB c xs := by
  cases xs with
  | nil => rfl
  | cons h t =>
    rw [Lib.join_cons, joinB, Lib.joinTail]
    congr 1
theorem join_spec (h : SlH) (xs : List (List UInt8)) (hx : xs ≠ []) (c : UInt8) (R : List Asn) (hl : (joinB c xs).length ≤ 1000000) (hn : xs.length ≤ 1000) : Spec 24 [sl h, str [c]] (ownT 9 strL 1 (sl h) xs :: R) fun u L' => u = str (joinB c xs) ∧ L' = ownT 9 strL 1 (sl h) xs :: R := fun G w M => by
  obtain ⟨h1, h2, _, _⟩ := own_h M
  obtain ⟨s, ⟨_, ⟨h3, _⟩ | ⟨g, cap, cur, h3, _, hg, hm, hcm, hcs, ht⟩⟩, _⟩ := M.head
  · obtain ⟨a, n, cc⟩ := h
    simp only [sl, Value.slice.injEq] at h3 h1
    have : xs.length = 0 := by omega
    exact absurd (List.eq_nil_of_length_eq_zero this) hx
  · obtain ⟨a, n, cc⟩ := h
    simp only [sl, Value.slice.injEq] at h3
    obtain ⟨rfl, rfl, rfl⟩ := h3
    have hfl : (xs.flatMap strL).length = xs.length := by rw [flat_len (f := strL) (k := 1) (fun _ => rfl)]; omega
    have hbk : g < w.heap.size := (Array.getElem?_eq_some_iff.1 hg).1
    have hcell : ∀ (j : Nat) (x : ByteArray), (xs.map fun l => (⟨l.toArray⟩ : ByteArray))[j]? = some x → w.cell? ⟨g, 0 + j, none⟩ = some (.string x) := fun j x hj => by
      rw [List.getElem?_map] at hj
      cases hxj : xs[j]? with
      | none => rw [hxj] at hj; cases hj
      | some l =>
        rw [hxj] at hj
        have hj := Option.some.inj hj
        subst hj
        have hlt : j < xs.length := (List.getElem?_eq_some_iff.1 hxj).1
        have e1 : (xs.flatMap strL)[j]? = some (.string ⟨l.toArray⟩) := by
          rw [← strL_cells, List.getElem?_map, hxj]; rfl
        have e2 : cur[j]? = some (.string ⟨l.toArray⟩) := by
          rw [← ht, List.getElem?_take] at e1
          split at e1
          · simpa using e1
          · cases e1
        rw [Nat.zero_add]
        simp [World.cell?, hg, e2]
    have hbl : (xs.map fun l => (⟨l.toArray⟩ : ByteArray)).map (·.data.toList) = xs := by
      rw [List.map_map]
      conv => rhs; rw [← List.map_id xs]
      exact List.map_congr_left fun x _ => rfl
    have hlen : (xs.map fun l => (⟨l.toArray⟩ : ByteArray)).length = xs.length := List.length_map ..
    have hL : Lib.join ((xs.map fun l => (⟨l.toArray⟩ : ByteArray)).map (·.data.toList)) (ByteArray.mk #[c]).data.toList = joinB c xs := by
      rw [hbl]; exact join_eq c xs
    obtain ⟨X, hX⟩ : ∃ X : List ByteArray, X = xs.map fun l => ⟨l.toArray⟩ := ⟨_, rfl⟩
    rw [← hX] at hL hcell hlen
    have := Tryz.strings_Join g 0 cc X ⟨#[c]⟩ w hcell hbk (Nat.le_trans (Nat.le_of_eq hlen) (by omega)) (Nat.le_trans (Nat.le_of_eq hlen) hm) (by rw [hL]; omega)
    rw [hL, hlen] at this
    refine this.mono ?_
    rintro e w' ⟨rfl, hb⟩
    exact ⟨_, _, rfl, ⟨rfl, rfl⟩, M.of_below hb⟩
end Go.Proofs.YtaggjikjohamjaaGreatDoor
end
section
namespace Go.Proofs.YtaggjikjohamjaaGreatDoor
open Go.RowKit Go.Maps
set_option linter.unusedVariables false
set_option maxRecDepth 100000
set_option linter.unusedSimpArgs false
set_option maxHeartbeats 8000000
def ixFrom (s : List UInt8) : Int → List (List UInt8) → Int
  | _, [] => -1
  | i, x :: r => if s = x then i else ixFrom s (i + 1) r
theorem sindex_spec (v : Value) (xs : List (List UInt8)) (s : List UInt8) (R : List Asn) (hg : GS R 1 v xs.length (xs.flatMap strL)) : Spec 48 [v, str s] R fun u L' => u = .int .i64 (ixFrom s 0 xs) ∧ L' = R := by
  generalize hX : ixFrom s 0 xs = X
  (intro G w M; refine sx_enter (vs := ([v, str s] : List Value)) Tryz.func48 (n := 19) rfl rfl rfl rfl ?_; intro a F; (try simp only [List.cons_append, List.nil_append] at M))
  have gg : GS (R ++ G) 1 v xs.length (xs.flatMap strL) := Gives.app hg
  have hlv := gg.len_le M
  (repeat' (first | (refine sx_nil ?_; (try (replace F := F.filt [0, 1, 4, 5, 7, 8, 9, 16] rfl))) | (refine sv1 F M (h := ?_); clear F a; intro a F) | refine pv1 (h := ?_) | (refine sv3 F M (h := ?_); clear M; intro w M) | (refine sv2 F M (h := ?_); clear F M a; intro nb a w F M) | refine pv3 (h := ?_) | (refine pv2 (h := ?_); intro nb) | ((first | refine svC F M (h := ?_) | refine svC0 F M (h := ?_) | refine pvC (h := ?_) | refine pvC0 (h := ?_)); (fail); (first | refine ⟨rvsA, ?_⟩ | (clear F M a; intro a w F M) | (clear M; intro w M))) | (refine svK F (h := ?_); clear F a; intro a F) | refine svK0 F (h := ?_) | ((refine sx_guardb F rfl (fun hg => ?_) (fun hg => ?_)) <;> (rw [hg] at F; (try (exact no hg)))) | (refine pvF (h := ?_); intro nb) | refine pvK (h := ?_) | refine pvK0 (h := ?_) | (refine pv_nil ?_; intro a w F M; (try (replace F := F.filt [0, 1, 4, 5, 7, 8, 9, 16] rfl))) | ((fail_if_success (with_reducible first | refine isW ?_ | refine isP ?_ | refine isL ?_)); (first | with_reducible refine sx_region ?_ | ((with_reducible refine isK ?_); (first | refine svT F (h := ?_) | refine svF F (h := ?_) | ((refine svB F (fun hc => ?_) (fun hc => ?_)) <;> (try (exact no hc))))) | ((with_reducible refine isD ?_); fail) | with_reducible refine wp_scope_straight ?_ | with_reducible refine wp_label ?_ | go_step))))
  refine svLoop F M (0 : Nat) (fun k => [(8, .int .i64 k)]) (fun _ => []) (fun k => k ≤ xs.length ∧ ixFrom s k (xs.drop k) = X) (fun k => xs.length - k) [5] ⟨Nat.zero_le _, by simpa using hX⟩ ?_
  (rintro k ⟨q1, q2⟩ a w F M; (try simp only [List.cons_append, List.nil_append] at F M q1 q2 ⊢))
  by_cases hlt : k < xs.length
  · obtain ⟨x, hx⟩ : ∃ x, xs[k]? = some x := ⟨xs[k], by simp [hlt]⟩
    rw [drop_cons hx, ixFrom] at q2
    by_cases hsx : s = x
    · rw [if_pos hsx] at q2
      subst q2
      (repeat' (first | (refine sx_nil ?_; (try (replace F := F.filt [0, 1, 4, 5, 7, 8, 9, 16] rfl))) | (refine sv1 F M (h := ?_); clear F a; intro a F) | refine pv1 (h := ?_) | (refine sv3 F M (h := ?_); clear M; intro w M) | (refine sv2 F M (h := ?_); clear F M a; intro nb a w F M) | refine pv3 (h := ?_) | (refine pv2 (h := ?_); intro nb) | ((first | refine svC F M (h := ?_) | refine svC0 F M (h := ?_) | refine pvC (h := ?_) | refine pvC0 (h := ?_)); (fail); (first | refine ⟨rvsA, ?_⟩ | (clear F M a; intro a w F M) | (clear M; intro w M))) | (refine svK F (h := ?_); clear F a; intro a F) | refine svK0 F (h := ?_) | ((refine sx_guardb F rfl (fun hg => ?_) (fun hg => ?_)) <;> (rw [hg] at F; (try (exact no hg)))) | (refine pvF (h := ?_); intro nb) | refine pvK (h := ?_) | refine pvK0 (h := ?_) | (refine pv_nil ?_; intro a w F M; (try (replace F := F.filt [0, 1, 4, 5, 7, 8, 9, 16] rfl))) | ((fail_if_success (with_reducible first | refine isW ?_ | refine isP ?_ | refine isL ?_)); (first | with_reducible refine sx_region ?_ | ((with_reducible refine isK ?_); (first | refine svT F (h := ?_) | refine svF F (h := ?_) | ((refine svB F (fun hc => ?_) (fun hc => ?_)) <;> (try (exact no hc))))) | ((with_reducible refine isD ?_); fail) | with_reducible refine wp_scope_straight ?_ | with_reducible refine wp_label ?_ | go_step))))
      all_goals (first | refine svEnd F M ?_ | refine svRet F M ?_)
      all_goals exact ⟨_, _, rfl, ⟨rfl, rfl⟩, M.perms permsA⟩
    · rw [if_neg hsx] at q2
      (repeat' (first | (refine sx_nil ?_; (try (replace F := F.filt [0, 1, 4, 5, 7, 8, 9, 16] rfl))) | (refine sv1 F M (h := ?_); clear F a; intro a F) | refine pv1 (h := ?_) | (refine sv3 F M (h := ?_); clear M; intro w M) | (refine sv2 F M (h := ?_); clear F M a; intro nb a w F M) | refine pv3 (h := ?_) | (refine pv2 (h := ?_); intro nb) | ((first | refine svC F M (h := ?_) | refine svC0 F M (h := ?_) | refine pvC (h := ?_) | refine pvC0 (h := ?_)); (fail); (first | refine ⟨rvsA, ?_⟩ | (clear F M a; intro a w F M) | (clear M; intro w M))) | (refine svK F (h := ?_); clear F a; intro a F) | refine svK0 F (h := ?_) | ((refine sx_guardb F rfl (fun hg => ?_) (fun hg => ?_)) <;> (rw [hg] at F; (try (exact no hg)))) | (refine pvF (h := ?_); intro nb) | refine pvK (h := ?_) | refine pvK0 (h := ?_) | (refine pv_nil ?_; intro a w F M; (try (replace F := F.filt [0, 1, 4, 5, 7, 8, 9, 16] rfl))) | ((fail_if_success (with_reducible first | refine isW ?_ | refine isP ?_ | refine isL ?_)); (first | with_reducible refine sx_region ?_ | ((with_reducible refine isK ?_); (first | refine svT F (h := ?_) | refine svF F (h := ?_) | ((refine svB F (fun hc => ?_) (fun hc => ?_)) <;> (try (exact no hc))))) | ((with_reducible refine isD ?_); fail) | with_reducible refine wp_scope_straight ?_ | with_reducible refine wp_label ?_ | go_step))))
      exact sv_again F M (k + 1) kpA permsA ⟨by omega, by have e : ((k + 1 : Nat) : Int) = (k : Int) + 1 := by omega
                                                          rw [e]; exact q2⟩ (by omega)
  · obtain rfl : k = xs.length := by omega
    rw [List.drop_length] at q2
    have q2 : -1 = X := q2
    subst q2
    (repeat' (first | (refine sx_nil ?_; (try (replace F := F.filt [0, 1, 4, 5, 7, 8, 9, 16] rfl))) | (refine sv1 F M (h := ?_); clear F a; intro a F) | refine pv1 (h := ?_) | (refine sv3 F M (h := ?_); clear M; intro w M) | (refine sv2 F M (h := ?_); clear F M a; intro nb a w F M) | refine pv3 (h := ?_) | (refine pv2 (h := ?_); intro nb) | ((first | refine svC F M (h := ?_) | refine svC0 F M (h := ?_) | refine pvC (h := ?_) | refine pvC0 (h := ?_)); (fail); (first | refine ⟨rvsA, ?_⟩ | (clear F M a; intro a w F M) | (clear M; intro w M))) | (refine svK F (h := ?_); clear F a; intro a F) | refine svK0 F (h := ?_) | ((refine sx_guardb F rfl (fun hg => ?_) (fun hg => ?_)) <;> (rw [hg] at F; (try (exact no hg)))) | (refine pvF (h := ?_); intro nb) | refine pvK (h := ?_) | refine pvK0 (h := ?_) | (refine pv_nil ?_; intro a w F M; (try (replace F := F.filt [0, 1, 4, 5, 7, 8, 9, 16] rfl))) | ((fail_if_success (with_reducible first | refine isW ?_ | refine isP ?_ | refine isL ?_)); (first | with_reducible refine sx_region ?_ | ((with_reducible refine isK ?_); (first | refine svT F (h := ?_) | refine svF F (h := ?_) | ((refine svB F (fun hc => ?_) (fun hc => ?_)) <;> (try (exact no hc))))) | ((with_reducible refine isD ?_); fail) | with_reducible refine wp_scope_straight ?_ | with_reducible refine wp_label ?_ | go_step))))
    all_goals (first | refine svEnd F M ?_ | refine svRet F M ?_)
    all_goals exact ⟨_, _, rfl, ⟨rfl, rfl⟩, M.perms permsA⟩
theorem ix_kind (s : List UInt8) : ixFrom s 0 names7 + 1 = (kindOf s).getD 0 ∧ decide (0 ≤ ixFrom s 0 names7) = (kindOf s).isSome := by
  have e1 : nameOf 1 = [100, 101, 112, 111, 115, 105, 116] := by decide
  have e2 : nameOf 2 = [101, 120, 105, 116] := by decide
  have e3 : nameOf 3 = [101, 106, 101, 99, 116] := by decide
  have e4 : nameOf 4 = [115, 108, 97, 115, 104] := by decide
  have e5 : nameOf 5 = [99, 111, 110, 115, 111, 108, 105, 100, 97, 116, 101] := by decide
  have e6 : nameOf 6 = [112, 97, 114, 116, 105, 97, 108] := by decide
  have e7 : nameOf 7 = [116, 105, 99, 107] := by decide
  unfold kindOf names7
  rw [e1, e2, e3, e4, e5, e6, e7]
  simp only [ixFrom]
  repeat' split
  all_goals simp
theorem kind_spec (s : List UInt8) (R : List Asn) : Spec 34 [str s] R fun u L' => u = .tuple [.int .i64 ((kindOf s).getD 0), .bool (kindOf s).isSome].toArray ∧ L' = R := by
  obtain ⟨h1, h2⟩ := ix_kind s
  have hb : 0 ≤ (kindOf s).getD 0 ∧ (kindOf s).getD 0 ≤ 7 := by
    cases h : kindOf s with
    | none => decide
    | some k => have := kindOf_name h; simp only [Option.getD_some]; omega
  have hix := fun (v : Value) (R : List Asn) hg => sindex_spec v names7 s R hg
  generalize (kindOf s).getD 0 = A at *
  generalize (kindOf s).isSome = B at *
  generalize ixFrom s 0 names7 = X at *
  (intro G w M; refine sx_enter (vs := ([str s] : List Value)) Tryz.func34 (n := 12) rfl rfl rfl rfl ?_; intro a F; (try simp only [List.cons_append, List.nil_append] at M))
  (repeat' (first | (refine sx_nil ?_; (try (replace F := F.filt [0, 2, 3, 4] rfl))) | (refine sv1 F M (h := ?_); clear F a; intro a F) | refine pv1 (h := ?_) | (refine sv3 F M (h := ?_); clear M; intro w M) | (refine sv2 F M (h := ?_); clear F M a; intro nb a w F M) | refine pv3 (h := ?_) | (refine pv2 (h := ?_); intro nb) | ((first | refine svC F M (h := ?_) | refine svC0 F M (h := ?_) | refine pvC (h := ?_) | refine pvC0 (h := ?_)); ((first | ((refine acW (k := 36) opnames_spec ?_); rintro u L' ⟨h, rfl, rfl⟩) | ((refine acW (k := 48) (hix _ _ ?_) ?_); (exact gs_own pullA); rintro u L' ⟨rfl, rfl⟩))); (first | refine ⟨rvsA, ?_⟩ | (clear F M a; intro a w F M) | (clear M; intro w M))) | (refine svK F (h := ?_); clear F a; intro a F) | refine svK0 F (h := ?_) | ((refine sx_guardb F rfl (fun hg => ?_) (fun hg => ?_)) <;> (rw [hg] at F; (try (exact no hg)))) | (refine pvF (h := ?_); intro nb) | refine pvK (h := ?_) | refine pvK0 (h := ?_) | (refine pv_nil ?_; intro a w F M; (try (replace F := F.filt [0, 2, 3, 4] rfl))) | ((fail_if_success (with_reducible first | refine isW ?_ | refine isP ?_ | refine isL ?_)); (first | with_reducible refine sx_region ?_ | ((with_reducible refine isK ?_); (first | refine svT F (h := ?_) | refine svF F (h := ?_) | ((refine svB F (fun hc => ?_) (fun hc => ?_)) <;> (try (exact no hc))))) | ((with_reducible refine isD ?_); fail) | with_reducible refine wp_scope_straight ?_ | with_reducible refine wp_label ?_ | go_step))))
  all_goals (first | refine svEnd F M ?_ | refine svRet F M ?_)
  all_goals exact ⟨_, _, rfl, ⟨by simp only [tupOf, h1, h2], rfl⟩, M.perms permsA⟩
/-! ### The operands' addresses -/
def Od.ty : Od → TypeId
  | .i => 55
  | .t => 55
  | .a => 53
def Od.off : Od → Nat
  | .i => 1
  | .t => 2
  | .a => 3
def fdL (b : Nat) (d : Od) : List Value := [.iface d.ty (.pointer (some ⟨b, d.off, none⟩))]
instance scFD (b : Nat) : EL (fdL b) 1 := ⟨fun _ => rfl, fun x u h => by simp [fdL] at h; subst h; rfl⟩
section
variable {o : Oper} {n : Nat} {l : List (Nat × Value)} {L : List Asn}
theorem rt_mkI {t : TypeId} {x : Operand} (ho : o.op = .makeInterface t x) {v : Value} (hx : evl l x = some v) (hr : ∀ w, (Instr.makeInterface t v).run Tryz.prog w = .ok (.iface t v) w) : RT o l L n (.iface t v) := fun a w F M => by
  unfold execOp
  rw [ho]
  simp [F.eval hx, hr]
theorem rt_tA {x : Operand} {t d : TypeId} {b : Bool} (ho : o.op = .typeAssert x t d b) {v r : Value} (hx : evl l x = some v) (hr : ∀ w, (Instr.typeAssert v t d b).run Tryz.prog w = .ok r w) : RT o l L n r := fun a w F M => by
  unfold execOp
  rw [ho]
  simp [F.eval hx, hr]
end
theorem mkI_u (v : Value) (w : World) : (Instr.makeInterface 53 v).run Tryz.prog w = .ok (.iface 53 v) w := by kernel_rfl
theorem mkI_i (v : Value) (w : World) : (Instr.makeInterface 55 v).run Tryz.prog w = .ok (.iface 55 v) w := by kernel_rfl
theorem tA_uu (v : Value) (w : World) : (Instr.typeAssert (.iface 53 v) 20 53 true).run Tryz.prog w = .ok (.tuple [v, .bool true].toArray) w := by kernel_rfl
theorem tA_iu (v : Value) (w : World) : (Instr.typeAssert (.iface 55 v) 20 53 true).run Tryz.prog w = .ok (.tuple [.pointer none, .bool false].toArray) w := by kernel_rfl
theorem tA_ii (v : Value) (w : World) : (Instr.typeAssert (.iface 55 v) 20 55 true).run Tryz.prog w = .ok (.tuple [v, .bool true].toArray) w := by kernel_rfl
theorem fields_spec (b : Nat) (o : Opn) (R : List Asn) : Spec 22 [ptr b] (pt b (opL o) 35 :: R) fun u L' => ∃ h, u = sl h ∧ L' = ownT 20 (fdL b) 1 (sl h) ((odsOf o.k).getD []) :: pt b (opL o) 35 :: R := by
  obtain ⟨k, ix, tg, am⟩ := o
  by_cases hk7 : k = 1 ∨ k = 2 ∨ k = 3 ∨ k = 4 ∨ k = 5 ∨ k = 6
  · rcases hk7 with rfl | rfl | rfl | rfl | rfl | rfl
    · (intro G w M; refine sx_enter (vs := ([ptr b] : List Value)) Tryz.func22 (n := 45) rfl rfl rfl rfl ?_; intro a F; (try simp only [List.cons_append, List.nil_append] at M))
      (repeat' (first | ((first | refine sv1 F M (h := ?_) (hr := by ((first | (refine rt_mkI rfl rfl (mkI_u _)) | (refine rt_mkI rfl rfl (mkI_i _))))) | refine pv1 (h := ?_) (hr := by ((first | (refine rt_mkI rfl rfl (mkI_u _)) | (refine rt_mkI rfl rfl (mkI_i _)))))); (try (clear F a; intro a F))) | (refine sx_nil ?_; (try (replace F := F.filt [0, 2, 6, 7, 14, 23, 34] rfl))) | (refine sv1 F M (h := ?_); clear F a; intro a F) | refine pv1 (h := ?_) | (refine sv3 F M (h := ?_); clear M; intro w M) | (refine sv2 F M (h := ?_); clear F M a; intro nb a w F M) | refine pv3 (h := ?_) | (refine pv2 (h := ?_); intro nb) | ((first | refine svC F M (h := ?_) | refine svC0 F M (h := ?_) | refine pvC (h := ?_) | refine pvC0 (h := ?_)); (fail); (first | refine ⟨rvsA, ?_⟩ | (clear F M a; intro a w F M) | (clear M; intro w M))) | (refine svK F (h := ?_); clear F a; intro a F) | refine svK0 F (h := ?_) | ((refine sx_guardb F rfl (fun hg => ?_) (fun hg => ?_)) <;> (rw [hg] at F; (try (exact no hg)))) | (refine pvF (h := ?_); intro nb) | refine pvK (h := ?_) | refine pvK0 (h := ?_) | (refine pv_nil ?_; intro a w F M; (try (replace F := F.filt [0, 2, 6, 7, 14, 23, 34] rfl))) | ((fail_if_success (with_reducible first | refine isW ?_ | refine isP ?_ | refine isL ?_)); (first | with_reducible refine sx_region ?_ | ((with_reducible refine isK ?_); (first | refine svT F (h := ?_) | refine svF F (h := ?_) | ((refine svB F (fun hc => ?_) (fun hc => ?_)) <;> (try (exact no hc))))) | ((with_reducible refine isD ?_); (first | (refine svDraw (id := 9) [8] [] [] [0, 1, 2, 3, 4, 5, 6, 7, 8, 9] F M (h := ?_); clear F M a w) | (refine svDraw (id := 11) [8] [] [] [0, 1, 2, 3, 4, 5, 6, 7, 8, 9] F M (h := ?_); clear F M a w))) | with_reducible refine wp_scope_straight ?_ | with_reducible refine wp_label ?_ | go_step))))
      all_goals (first | refine svEnd F M ?_ | refine svRet F M ?_)
      all_goals exact ⟨_, _, rfl, ⟨⟨_, _, _⟩, rfl, rfl⟩, M.perms permsA⟩
    · (intro G w M; refine sx_enter (vs := ([ptr b] : List Value)) Tryz.func22 (n := 45) rfl rfl rfl rfl ?_; intro a F; (try simp only [List.cons_append, List.nil_append] at M))
      (repeat' (first | ((first | refine sv1 F M (h := ?_) (hr := by ((first | (refine rt_mkI rfl rfl (mkI_u _)) | (refine rt_mkI rfl rfl (mkI_i _))))) | refine pv1 (h := ?_) (hr := by ((first | (refine rt_mkI rfl rfl (mkI_u _)) | (refine rt_mkI rfl rfl (mkI_i _)))))); (try (clear F a; intro a F))) | (refine sx_nil ?_; (try (replace F := F.filt [0, 2, 6, 7, 14, 23, 34] rfl))) | (refine sv1 F M (h := ?_); clear F a; intro a F) | refine pv1 (h := ?_) | (refine sv3 F M (h := ?_); clear M; intro w M) | (refine sv2 F M (h := ?_); clear F M a; intro nb a w F M) | refine pv3 (h := ?_) | (refine pv2 (h := ?_); intro nb) | ((first | refine svC F M (h := ?_) | refine svC0 F M (h := ?_) | refine pvC (h := ?_) | refine pvC0 (h := ?_)); (fail); (first | refine ⟨rvsA, ?_⟩ | (clear F M a; intro a w F M) | (clear M; intro w M))) | (refine svK F (h := ?_); clear F a; intro a F) | refine svK0 F (h := ?_) | ((refine sx_guardb F rfl (fun hg => ?_) (fun hg => ?_)) <;> (rw [hg] at F; (try (exact no hg)))) | (refine pvF (h := ?_); intro nb) | refine pvK (h := ?_) | refine pvK0 (h := ?_) | (refine pv_nil ?_; intro a w F M; (try (replace F := F.filt [0, 2, 6, 7, 14, 23, 34] rfl))) | ((fail_if_success (with_reducible first | refine isW ?_ | refine isP ?_ | refine isL ?_)); (first | with_reducible refine sx_region ?_ | ((with_reducible refine isK ?_); (first | refine svT F (h := ?_) | refine svF F (h := ?_) | ((refine svB F (fun hc => ?_) (fun hc => ?_)) <;> (try (exact no hc))))) | ((with_reducible refine isD ?_); (first | (refine svDraw (id := 9) [8] [] [] [0, 1, 2, 3, 4, 5, 6, 7, 8, 9] F M (h := ?_); clear F M a w) | (refine svDraw (id := 11) [8] [] [] [0, 1, 2, 3, 4, 5, 6, 7, 8, 9] F M (h := ?_); clear F M a w))) | with_reducible refine wp_scope_straight ?_ | with_reducible refine wp_label ?_ | go_step))))
      all_goals (first | refine svEnd F M ?_ | refine svRet F M ?_)
      all_goals exact ⟨_, _, rfl, ⟨⟨_, _, _⟩, rfl, rfl⟩, M.perms permsA⟩
    · (intro G w M; refine sx_enter (vs := ([ptr b] : List Value)) Tryz.func22 (n := 45) rfl rfl rfl rfl ?_; intro a F; (try simp only [List.cons_append, List.nil_append] at M))
      (repeat' (first | ((first | refine sv1 F M (h := ?_) (hr := by ((first | (refine rt_mkI rfl rfl (mkI_u _)) | (refine rt_mkI rfl rfl (mkI_i _))))) | refine pv1 (h := ?_) (hr := by ((first | (refine rt_mkI rfl rfl (mkI_u _)) | (refine rt_mkI rfl rfl (mkI_i _)))))); (try (clear F a; intro a F))) | (refine sx_nil ?_; (try (replace F := F.filt [0, 2, 6, 7, 14, 23, 34] rfl))) | (refine sv1 F M (h := ?_); clear F a; intro a F) | refine pv1 (h := ?_) | (refine sv3 F M (h := ?_); clear M; intro w M) | (refine sv2 F M (h := ?_); clear F M a; intro nb a w F M) | refine pv3 (h := ?_) | (refine pv2 (h := ?_); intro nb) | ((first | refine svC F M (h := ?_) | refine svC0 F M (h := ?_) | refine pvC (h := ?_) | refine pvC0 (h := ?_)); (fail); (first | refine ⟨rvsA, ?_⟩ | (clear F M a; intro a w F M) | (clear M; intro w M))) | (refine svK F (h := ?_); clear F a; intro a F) | refine svK0 F (h := ?_) | ((refine sx_guardb F rfl (fun hg => ?_) (fun hg => ?_)) <;> (rw [hg] at F; (try (exact no hg)))) | (refine pvF (h := ?_); intro nb) | refine pvK (h := ?_) | refine pvK0 (h := ?_) | (refine pv_nil ?_; intro a w F M; (try (replace F := F.filt [0, 2, 6, 7, 14, 23, 34] rfl))) | ((fail_if_success (with_reducible first | refine isW ?_ | refine isP ?_ | refine isL ?_)); (first | with_reducible refine sx_region ?_ | ((with_reducible refine isK ?_); (first | refine svT F (h := ?_) | refine svF F (h := ?_) | ((refine svB F (fun hc => ?_) (fun hc => ?_)) <;> (try (exact no hc))))) | ((with_reducible refine isD ?_); (first | (refine svDraw (id := 9) [8] [] [] [0, 1, 2, 3, 4, 5, 6, 7, 8, 9] F M (h := ?_); clear F M a w) | (refine svDraw (id := 11) [8] [] [] [0, 1, 2, 3, 4, 5, 6, 7, 8, 9] F M (h := ?_); clear F M a w))) | with_reducible refine wp_scope_straight ?_ | with_reducible refine wp_label ?_ | go_step))))
      all_goals (first | refine svEnd F M ?_ | refine svRet F M ?_)
      all_goals exact ⟨_, _, rfl, ⟨⟨_, _, _⟩, rfl, rfl⟩, M.perms permsA⟩
    · (intro G w M; refine sx_enter (vs := ([ptr b] : List Value)) Tryz.func22 (n := 45) rfl rfl rfl rfl ?_; intro a F; (try simp only [List.cons_append, List.nil_append] at M))
      (repeat' (first | ((first | refine sv1 F M (h := ?_) (hr := by ((first | (refine rt_mkI rfl rfl (mkI_u _)) | (refine rt_mkI rfl rfl (mkI_i _))))) | refine pv1 (h := ?_) (hr := by ((first | (refine rt_mkI rfl rfl (mkI_u _)) | (refine rt_mkI rfl rfl (mkI_i _)))))); (try (clear F a; intro a F))) | (refine sx_nil ?_; (try (replace F := F.filt [0, 2, 6, 7, 14, 23, 34] rfl))) | (refine sv1 F M (h := ?_); clear F a; intro a F) | refine pv1 (h := ?_) | (refine sv3 F M (h := ?_); clear M; intro w M) | (refine sv2 F M (h := ?_); clear F M a; intro nb a w F M) | refine pv3 (h := ?_) | (refine pv2 (h := ?_); intro nb) | ((first | refine svC F M (h := ?_) | refine svC0 F M (h := ?_) | refine pvC (h := ?_) | refine pvC0 (h := ?_)); (fail); (first | refine ⟨rvsA, ?_⟩ | (clear F M a; intro a w F M) | (clear M; intro w M))) | (refine svK F (h := ?_); clear F a; intro a F) | refine svK0 F (h := ?_) | ((refine sx_guardb F rfl (fun hg => ?_) (fun hg => ?_)) <;> (rw [hg] at F; (try (exact no hg)))) | (refine pvF (h := ?_); intro nb) | refine pvK (h := ?_) | refine pvK0 (h := ?_) | (refine pv_nil ?_; intro a w F M; (try (replace F := F.filt [0, 2, 6, 7, 14, 23, 34] rfl))) | ((fail_if_success (with_reducible first | refine isW ?_ | refine isP ?_ | refine isL ?_)); (first | with_reducible refine sx_region ?_ | ((with_reducible refine isK ?_); (first | refine svT F (h := ?_) | refine svF F (h := ?_) | ((refine svB F (fun hc => ?_) (fun hc => ?_)) <;> (try (exact no hc))))) | ((with_reducible refine isD ?_); (first | (refine svDraw (id := 9) [8] [] [] [0, 1, 2, 3, 4, 5, 6, 7, 8, 9] F M (h := ?_); clear F M a w) | (refine svDraw (id := 11) [8] [] [] [0, 1, 2, 3, 4, 5, 6, 7, 8, 9] F M (h := ?_); clear F M a w))) | with_reducible refine wp_scope_straight ?_ | with_reducible refine wp_label ?_ | go_step))))
      all_goals (first | refine svEnd F M ?_ | refine svRet F M ?_)
      all_goals exact ⟨_, _, rfl, ⟨⟨_, _, _⟩, rfl, rfl⟩, M.perms permsA⟩
    · (intro G w M; refine sx_enter (vs := ([ptr b] : List Value)) Tryz.func22 (n := 45) rfl rfl rfl rfl ?_; intro a F; (try simp only [List.cons_append, List.nil_append] at M))
      (repeat' (first | ((first | refine sv1 F M (h := ?_) (hr := by ((first | (refine rt_mkI rfl rfl (mkI_u _)) | (refine rt_mkI rfl rfl (mkI_i _))))) | refine pv1 (h := ?_) (hr := by ((first | (refine rt_mkI rfl rfl (mkI_u _)) | (refine rt_mkI rfl rfl (mkI_i _)))))); (try (clear F a; intro a F))) | (refine sx_nil ?_; (try (replace F := F.filt [0, 2, 6, 7, 14, 23, 34] rfl))) | (refine sv1 F M (h := ?_); clear F a; intro a F) | refine pv1 (h := ?_) | (refine sv3 F M (h := ?_); clear M; intro w M) | (refine sv2 F M (h := ?_); clear F M a; intro nb a w F M) | refine pv3 (h := ?_) | (refine pv2 (h := ?_); intro nb) | ((first | refine svC F M (h := ?_) | refine svC0 F M (h := ?_) | refine pvC (h := ?_) | refine pvC0 (h := ?_)); (fail); (first | refine ⟨rvsA, ?_⟩ | (clear F M a; intro a w F M) | (clear M; intro w M))) | (refine svK F (h := ?_); clear F a; intro a F) | refine svK0 F (h := ?_) | ((refine sx_guardb F rfl (fun hg => ?_) (fun hg => ?_)) <;> (rw [hg] at F; (try (exact no hg)))) | (refine pvF (h := ?_); intro nb) | refine pvK (h := ?_) | refine pvK0 (h := ?_) | (refine pv_nil ?_; intro a w F M; (try (replace F := F.filt [0, 2, 6, 7, 14, 23, 34] rfl))) | ((fail_if_success (with_reducible first | refine isW ?_ | refine isP ?_ | refine isL ?_)); (first | with_reducible refine sx_region ?_ | ((with_reducible refine isK ?_); (first | refine svT F (h := ?_) | refine svF F (h := ?_) | ((refine svB F (fun hc => ?_) (fun hc => ?_)) <;> (try (exact no hc))))) | ((with_reducible refine isD ?_); (first | (refine svDraw (id := 9) [8] [] [] [0, 1, 2, 3, 4, 5, 6, 7, 8, 9] F M (h := ?_); clear F M a w) | (refine svDraw (id := 11) [8] [] [] [0, 1, 2, 3, 4, 5, 6, 7, 8, 9] F M (h := ?_); clear F M a w))) | with_reducible refine wp_scope_straight ?_ | with_reducible refine wp_label ?_ | go_step))))
      all_goals (first | refine svEnd F M ?_ | refine svRet F M ?_)
      all_goals exact ⟨_, _, rfl, ⟨⟨_, _, _⟩, rfl, rfl⟩, M.perms permsA⟩
    · (intro G w M; refine sx_enter (vs := ([ptr b] : List Value)) Tryz.func22 (n := 45) rfl rfl rfl rfl ?_; intro a F; (try simp only [List.cons_append, List.nil_append] at M))
      (repeat' (first | ((first | refine sv1 F M (h := ?_) (hr := by ((first | (refine rt_mkI rfl rfl (mkI_u _)) | (refine rt_mkI rfl rfl (mkI_i _))))) | refine pv1 (h := ?_) (hr := by ((first | (refine rt_mkI rfl rfl (mkI_u _)) | (refine rt_mkI rfl rfl (mkI_i _)))))); (try (clear F a; intro a F))) | (refine sx_nil ?_; (try (replace F := F.filt [0, 2, 6, 7, 14, 23, 34] rfl))) | (refine sv1 F M (h := ?_); clear F a; intro a F) | refine pv1 (h := ?_) | (refine sv3 F M (h := ?_); clear M; intro w M) | (refine sv2 F M (h := ?_); clear F M a; intro nb a w F M) | refine pv3 (h := ?_) | (refine pv2 (h := ?_); intro nb) | ((first | refine svC F M (h := ?_) | refine svC0 F M (h := ?_) | refine pvC (h := ?_) | refine pvC0 (h := ?_)); (fail); (first | refine ⟨rvsA, ?_⟩ | (clear F M a; intro a w F M) | (clear M; intro w M))) | (refine svK F (h := ?_); clear F a; intro a F) | refine svK0 F (h := ?_) | ((refine sx_guardb F rfl (fun hg => ?_) (fun hg => ?_)) <;> (rw [hg] at F; (try (exact no hg)))) | (refine pvF (h := ?_); intro nb) | refine pvK (h := ?_) | refine pvK0 (h := ?_) | (refine pv_nil ?_; intro a w F M; (try (replace F := F.filt [0, 2, 6, 7, 14, 23, 34] rfl))) | ((fail_if_success (with_reducible first | refine isW ?_ | refine isP ?_ | refine isL ?_)); (first | with_reducible refine sx_region ?_ | ((with_reducible refine isK ?_); (first | refine svT F (h := ?_) | refine svF F (h := ?_) | ((refine svB F (fun hc => ?_) (fun hc => ?_)) <;> (try (exact no hc))))) | ((with_reducible refine isD ?_); (first | (refine svDraw (id := 9) [8] [] [] [0, 1, 2, 3, 4, 5, 6, 7, 8, 9] F M (h := ?_); clear F M a w) | (refine svDraw (id := 11) [8] [] [] [0, 1, 2, 3, 4, 5, 6, 7, 8, 9] F M (h := ?_); clear F M a w))) | with_reducible refine wp_scope_straight ?_ | with_reducible refine wp_label ?_ | go_step))))
      all_goals (first | refine svEnd F M ?_ | refine svRet F M ?_)
      all_goals exact ⟨_, _, rfl, ⟨⟨_, _, _⟩, rfl, rfl⟩, M.perms permsA⟩
  · have e : (odsOf k).getD [] = [] := by
      unfold odsOf
      rw [if_neg (by omega), if_neg (by omega), if_neg (by omega), if_neg (by omega)]
      split <;> rfl
    rw [e]
    (intro G w M; refine sx_enter (vs := ([ptr b] : List Value)) Tryz.func22 (n := 45) rfl rfl rfl rfl ?_; intro a F; (try simp only [List.cons_append, List.nil_append] at M))
    have M := M.own_nil 20 1
    (repeat' (first | ((first | refine sv1 F M (h := ?_) (hr := by ((first | (refine rt_mkI rfl rfl (mkI_u _)) | (refine rt_mkI rfl rfl (mkI_i _))))) | refine pv1 (h := ?_) (hr := by ((first | (refine rt_mkI rfl rfl (mkI_u _)) | (refine rt_mkI rfl rfl (mkI_i _)))))); (try (clear F a; intro a F))) | (refine sx_nil ?_; (try (replace F := F.filt [0, 2, 6, 7, 14, 23, 34] rfl))) | (refine sv1 F M (h := ?_); clear F a; intro a F) | refine pv1 (h := ?_) | (refine sv3 F M (h := ?_); clear M; intro w M) | (refine sv2 F M (h := ?_); clear F M a; intro nb a w F M) | refine pv3 (h := ?_) | (refine pv2 (h := ?_); intro nb) | ((first | refine svC F M (h := ?_) | refine svC0 F M (h := ?_) | refine pvC (h := ?_) | refine pvC0 (h := ?_)); (fail); (first | refine ⟨rvsA, ?_⟩ | (clear F M a; intro a w F M) | (clear M; intro w M))) | (refine svK F (h := ?_); clear F a; intro a F) | refine svK0 F (h := ?_) | ((refine sx_guardb F rfl (fun hg => ?_) (fun hg => ?_)) <;> (rw [hg] at F; (try (exact no hg)))) | (refine pvF (h := ?_); intro nb) | refine pvK (h := ?_) | refine pvK0 (h := ?_) | (refine pv_nil ?_; intro a w F M; (try (replace F := F.filt [0, 2, 6, 7, 14, 23, 34] rfl))) | ((fail_if_success (with_reducible first | refine isW ?_ | refine isP ?_ | refine isL ?_)); (first | with_reducible refine sx_region ?_ | ((with_reducible refine isK ?_); (first | refine svT F (h := ?_) | refine svF F (h := ?_) | ((refine svB F (fun hc => ?_) (fun hc => ?_)) <;> (try (exact no hc))))) | ((with_reducible refine isD ?_); (first | (refine svDraw (id := 9) [8] [] [] [0, 1, 2, 3, 4, 5, 6, 7, 8, 9] F M (h := ?_); clear F M a w) | (refine svDraw (id := 11) [8] [] [] [0, 1, 2, 3, 4, 5, 6, 7, 8, 9] F M (h := ?_); clear F M a w))) | with_reducible refine wp_scope_straight ?_ | with_reducible refine wp_label ?_ | go_step))))
    all_goals (first | refine svEnd F M ?_ | refine svRet F M ?_)
    all_goals exact ⟨_, _, rfl, ⟨nilH, rfl, rfl⟩, M.perms permsA⟩
end Go.Proofs.YtaggjikjohamjaaGreatDoor
end
section
namespace Go.Proofs.YtaggjikjohamjaaGreatDoor
open Go.RowKit Go.Maps
set_option linter.unusedVariables false
set_option maxRecDepth 100000
set_option linter.unusedSimpArgs false
set_option maxHeartbeats 8000000
theorem gparse_spec (s : List UInt8) (hs : s.length ≤ 1000000) (R : List Asn) (hL : Gives R Laid) : Spec 35 [str s] R fun u L' => u = .tuple [.int .u64 ((pU s).getD 0 : Nat), .bool (pU s).isSome].toArray ∧ L' = R := Spec.of_below_g (fun w hw => parse_any s hs w hw) hL rfl ⟨rfl, rfl⟩
theorem gfmt_spec (u : Nat) (hu : u < 18446744073709551616) (R : List Asn) (hT : Gives R Tens) : Spec 23 [.int .u64 (u : Int)] R fun v L' => v = str (Lib.decDigits u) ∧ L' = R := Spec.of_below_g (fun w hw => gfmt_any u hu w hw) hT rfl ⟨rfl, rfl⟩
theorem splitB_mem (c : UInt8) : ∀ (s : List UInt8), ∀ x ∈ splitB c s, x.length ≤ s.length
  | [], x, h => by simp [splitB] at h; subst h; simp
  | y :: r, x, h => by
    have ih := splitB_mem c r
    obtain ⟨hd, t, e⟩ := splitB_ne c r
    rw [splitB] at h
    split at h
    · rcases List.mem_cons.1 h with rfl | h
      · simp
      · have := ih x h; rw [List.length_cons]; omega
    · rw [e] at h ih
      simp only at h
      rcases List.mem_cons.1 h with rfl | h
      · have := ih hd (by simp); simp only [List.length_cons]; omega
      · have := ih x (by simp [h]); rw [List.length_cons]; omega
theorem kind_ods {s : List UInt8} {k : Int} (h : kindOf s = some k) : ∃ ds, odsOf k = some ds := by
  obtain ⟨_, h1, h2⟩ := kindOf_name h
  rcases (by omega : k = 1 ∨ k = 2 ∨ k = 3 ∨ k = 4 ∨ k = 5 ∨ k = 6 ∨ k = 7) with rfl | rfl | rfl | rfl | rfl | rfl | rfl <;> exact ⟨_, rfl⟩
theorem parse_spec (s : List UInt8) (hs : s.length ≤ 100000) (R : List Asn) (hm : Gives R MxL) (hL : Gives R Laid) : Spec 19 [str s] R fun u L' => u = .tuple [opV (parsM s), .bool (parsO s).isSome].toArray ∧ L' = R := by
  have hsp := fun R (hm : Gives R MxL) => split_spec s 32 (by omega) R hm
  have hmem := splitB_mem 32 s
  have hlen := splitB_len 32 s
  have hcl := List.count_le_length (a := (32 : UInt8)) (l := s)
  unfold parsM
  obtain ⟨T, hT⟩ : ∃ T, parsO s = T := ⟨_, rfl⟩
  rw [hT]
  unfold parsO at hT
  generalize splitB 32 s = W at *
  obtain ⟨w0, ws, rfl⟩ : ∃ w0 ws, W = w0 :: ws := by
    cases W with
    | nil => simp at hlen
    | cons a b => exact ⟨a, b, rfl⟩
  have hx0 : (w0 :: ws)[Int.toNat 0]? = some w0 := rfl
  rw [List.head?_cons, Option.getD_some, List.tail_cons] at hT
  have hkd := fun R => kind_spec w0 R
  cases hk : kindOf w0 with
  | none =>
    rw [hk] at hT hkd
    simp only at hT
    subst hT
    simp only [Option.getD_none, Option.isSome_none] at hkd ⊢
    (intro G w M; refine sx_enter (vs := ([str s] : List Value)) Tryz.func19 (n := 76) rfl rfl rfl rfl ?_; intro a F; (try simp only [List.cons_append, List.nil_append] at M))
    have hm2 : Gives (R ++ G) MxL := Gives.app hm
    obtain ⟨b2, hb2⟩ : ∃ b2 : Nat, b2 = 0 := ⟨_, rfl⟩
    (repeat' (first | (refine sx_nil ?_; (try (replace F := F.filt [0, 2, 3, 4, 5, 6, 7, 8, 9, 10, 11, 12, 13, 14, 36, 39, 40, 41, 42, 52, 57, 59, 60, 65, 66, 68] rfl))) | (refine sv1 F M (h := ?_); clear F a; intro a F) | refine pv1 (h := ?_) | (refine sv3 F M (h := ?_); clear M; intro w M) | (refine sv2 F M (h := ?_); clear F M a; intro nb a w F M) | refine pv3 (h := ?_) | (refine pv2 (h := ?_); intro nb) | ((first | refine svC F M (h := ?_) | refine svC0 F M (h := ?_) | refine pvC (h := ?_) | refine pvC0 (h := ?_)); ((first | ((refine acW (k := 18) (hsp _ ?_) ?_); (exact gvA); rintro u L' ⟨h, rfl, rfl⟩) | ((refine acW (k := 34) (hkd _) ?_); rintro u L' ⟨rfl, rfl⟩) | (refine acK (k := 22) (fields_spec nb (oz 0) _) ?_; rintro u L' ⟨hf, rfl, rfl⟩))); (first | refine ⟨rvsA, ?_⟩ | (clear F M a; intro a w F M) | (clear M; intro w M))) | (refine svK F (h := ?_); clear F a; intro a F) | refine svK0 F (h := ?_) | ((refine sx_guardb F rfl (fun hg => ?_) (fun hg => ?_)) <;> (rw [hg] at F; (try (exact no hg)))) | (refine pvF (h := ?_); intro nb) | refine pvK (h := ?_) | refine pvK0 (h := ?_) | (refine pv_nil ?_; intro a w F M; (try (replace F := F.filt [0, 2, 3, 4, 5, 6, 7, 8, 9, 10, 11, 12, 13, 14, 36, 39, 40, 41, 42, 52, 57, 59, 60, 65, 66, 68] rfl))) | ((fail_if_success (with_reducible first | refine isW ?_ | refine isP ?_ | refine isL ?_)); (first | with_reducible refine sx_region ?_ | ((with_reducible refine isK ?_); (first | refine svT F (h := ?_) | refine svF F (h := ?_) | ((refine svB F (fun hc => ?_) (fun hc => ?_)) <;> (try (exact no hc))))) | ((with_reducible refine isD ?_); fail) | with_reducible refine wp_scope_straight ?_ | with_reducible refine wp_label ?_ | go_step))))
    all_goals (first | refine svEnd F M ?_ | refine svRet F M ?_)
    all_goals exact ⟨_, _, rfl, ⟨rfl, rfl⟩, M.perms permsA⟩
  | some k =>
    obtain ⟨ds, hd⟩ := kind_ods hk
    rw [hk] at hT hkd
    simp only [hd] at hT
    simp only [Option.getD_some, Option.isSome_some] at hkd
    have hfd := fun (b : Nat) R => fields_spec b (oz k) R
    have hd2 : (odsOf (oz k).k).getD [] = ds := by show (odsOf k).getD [] = ds; rw [hd]; rfl
    simp only [hd2] at hfd
    obtain ⟨hl2, hz⟩ := ods_len hd
    by_cases hln : (w0 :: ws).length = ds.length + 1
    · rw [if_pos hln] at hT
      have hwl : ws.length = ds.length := by simpa using hln
      (intro G w M; refine sx_enter (vs := ([str s] : List Value)) Tryz.func19 (n := 76) rfl rfl rfl rfl ?_; intro a F; (try simp only [List.cons_append, List.nil_append] at M))
      have hm2 : Gives (R ++ G) MxL := Gives.app hm
      have hL2 : Gives (R ++ G) Laid := Gives.app hL
      (repeat' (first | ((first | refine sv1 F M (h := ?_) (hr := by ((apply rt_from (h := h) (k := .i64) (j := 1); (exact rfl); (exact rfl); (exact rfl); (exact inferInstance); (rw [(own_h (M.pull pullA)).1]; simp)))) | refine pv1 (h := ?_) (hr := by ((apply rt_from (h := h) (k := .i64) (j := 1); (exact rfl); (exact rfl); (exact rfl); (exact inferInstance); (rw [(own_h (M.pull pullA)).1]; simp))))); (try (clear F a; intro a F))) | (refine sx_nil ?_; (try (replace F := F.filt [0, 2, 3, 4, 5, 6, 7, 8, 9, 10, 11, 12, 13, 14, 36, 39, 40, 41, 42, 52, 57, 59, 60, 65, 66, 68] rfl))) | (refine sv1 F M (h := ?_); clear F a; intro a F) | refine pv1 (h := ?_) | (refine sv3 F M (h := ?_); clear M; intro w M) | (refine sv2 F M (h := ?_); clear F M a; intro nb a w F M) | refine pv3 (h := ?_) | (refine pv2 (h := ?_); intro nb) | ((first | refine svC F M (h := ?_) | refine svC0 F M (h := ?_) | refine pvC (h := ?_) | refine pvC0 (h := ?_)); ((first | ((refine acW (k := 18) (hsp _ ?_) ?_); (exact gvA); rintro u L' ⟨h, rfl, rfl⟩) | ((refine acW (k := 34) (hkd _) ?_); rintro u L' ⟨rfl, rfl⟩) | (refine acK (k := 22) (hfd nb _) ?_; rintro u L' ⟨hf, rfl, rfl⟩))); (first | refine ⟨rvsA, ?_⟩ | (clear F M a; intro a w F M) | (clear M; intro w M))) | (refine svK F (h := ?_); clear F a; intro a F) | refine svK0 F (h := ?_) | ((refine sx_guardb F rfl (fun hg => ?_) (fun hg => ?_)) <;> (rw [hg] at F; (try (exact no hg)))) | (refine pvF (h := ?_); intro nb) | refine pvK (h := ?_) | refine pvK0 (h := ?_) | (refine pv_nil ?_; intro a w F M; (try (replace F := F.filt [0, 2, 3, 4, 5, 6, 7, 8, 9, 10, 11, 12, 13, 14, 36, 39, 40, 41, 42, 52, 57, 59, 60, 65, 66, 68] rfl))) | ((fail_if_success (with_reducible first | refine isW ?_ | refine isP ?_ | refine isL ?_)); (first | with_reducible refine sx_region ?_ | ((with_reducible refine isK ?_); (first | refine svT F (h := ?_) | refine svF F (h := ?_) | ((refine svB F (fun hc => ?_) (fun hc => ?_)) <;> (try (exact no hc))))) | ((with_reducible refine isD ?_); fail) | with_reducible refine wp_scope_straight ?_ | with_reducible refine wp_label ?_ | go_step))))
      rename_i b2 z1 z2 z3 z4 z5 z6 z7
      have hn : h.n = ds.length + 1 := by
        have := (own_h (M.pull (show Pull _ (ownT 9 strL 1 (sl h) (w0 :: ws)) _ from pullA))).1
        omega
      have e40 : ((fromH h 1 1).n : Int) = (ds.length : Int) := by show ((h.n - 1 : Nat) : Int) = _; omega
      rw [e40] at F
      have hgw : GS (ownT 9 strL 1 (sl h) (w0 :: ws) :: pt b2 [.int .i64 0, .int .i64 0, .int .i64 0, .int .u64 0] 35 :: (R ++ G)) 1 (sl (fromH h 1 1)) ws.length (ws.flatMap strL) := by
        have := gs_from (L := ownT 9 strL 1 (sl h) (w0 :: ws) :: pt b2 [.int .i64 0, .int .i64 0, .int .i64 0, .int .u64 0] 35 :: (R ++ G)) (e := 9) (size := 1) (h := h) .here (j := 1) (by simp)
        exact this
      obtain ⟨b7, hb7⟩ : ∃ b7, b7 = nb := ⟨_, rfl⟩
      rw [← hb7] at F M
      refine svLoop F M ((0, oz k) : Nat × Opn) (fun z => [(41, .int .i64 z.1)]) (fun z => [pt b7 (opL z.2) 35]) (fun z => z.1 ≤ ds.length ∧ opW (ds.drop z.1) (ws.drop z.1) z.2 = T) (fun z => ds.length - z.1) [9, 10, 11, 12, 13, 14] ⟨Nat.zero_le _, hT⟩ ?_ (hR := by (repeat (first | exact Pulls.nil | (apply Pulls.cons; (focus ((repeat (first | exact Pull.here | apply Pull.there)); done))))))
      (rintro ⟨j, p⟩ ⟨q1, q2⟩ a w F M; (try simp only [List.cons_append, List.nil_append] at F M q1 q2 ⊢))
      by_cases hj : j < ds.length
      · obtain ⟨d, hdj⟩ : ∃ d, ds[j]? = some d := ⟨ds[j], by simp [hj]⟩
        obtain ⟨x, hxj⟩ : ∃ x, ws[j]? = some x := ⟨ws[j]'(by omega), by rw [List.getElem?_eq_getElem]⟩
        have hxl := hmem x (List.mem_cons_of_mem _ (List.mem_of_getElem? hxj))
        have hgp := fun R hL => gparse_spec x (by omega) R hL
        rw [drop_cons hdj, drop_cons hxj, opW, List.head?_cons, Option.getD_some, List.tail_cons] at q2
        cases hu : pU x with
        | none =>
          rw [hu] at hgp q2
          simp only at q2
          subst q2
          simp only [Option.getD_none, Option.isSome_none] at hgp
          (repeat' (first | (refine sx_nil ?_; (try (replace F := F.filt [0, 2, 3, 4, 5, 6, 7, 8, 9, 10, 11, 12, 13, 14, 36, 39, 40, 41, 42, 52, 57, 59, 60, 65, 66, 68] rfl))) | (refine sv1 F M (h := ?_); clear F a; intro a F) | refine pv1 (h := ?_) | (refine sv3 F M (h := ?_); clear M; intro w M) | (refine sv2 F M (h := ?_); clear F M a; intro nb a w F M) | refine pv3 (h := ?_) | (refine pv2 (h := ?_); intro nb) | ((first | refine svC F M (h := ?_) | refine svC0 F M (h := ?_) | refine pvC (h := ?_) | refine pvC0 (h := ?_)); (((refine acW (k := 35) (hgp _ ?_) ?_); (exact gvA); rintro u L' ⟨rfl, rfl⟩)); (first | refine ⟨rvsA, ?_⟩ | (clear F M a; intro a w F M) | (clear M; intro w M))) | (refine svK F (h := ?_); clear F a; intro a F) | refine svK0 F (h := ?_) | ((refine sx_guardb F rfl (fun hg => ?_) (fun hg => ?_)) <;> (rw [hg] at F; (try (exact no hg)))) | (refine pvF (h := ?_); intro nb) | refine pvK (h := ?_) | refine pvK0 (h := ?_) | (refine pv_nil ?_; intro a w F M; (try (replace F := F.filt [0, 2, 3, 4, 5, 6, 7, 8, 9, 10, 11, 12, 13, 14, 36, 39, 40, 41, 42, 52, 57, 59, 60, 65, 66, 68] rfl))) | ((fail_if_success (with_reducible first | refine isW ?_ | refine isP ?_ | refine isL ?_)); (first | with_reducible refine sx_region ?_ | ((with_reducible refine isK ?_); (first | refine svT F (h := ?_) | refine svF F (h := ?_) | ((refine svB F (fun hc => ?_) (fun hc => ?_)) <;> (try (exact no hc))))) | ((with_reducible refine isD ?_); fail) | with_reducible refine wp_scope_straight ?_ | with_reducible refine wp_label ?_ | go_step))))
          all_goals (first | refine svEnd F M ?_ | refine svRet F M ?_)
          all_goals exact ⟨_, _, rfl, ⟨rfl, rfl⟩, M.perms permsA⟩
        | some u =>
          have hu2 := (pU_lt hu).1
          rw [hu] at hgp q2
          simp only [Option.getD_some, Option.isSome_some] at hgp q2
          obtain ⟨pk, pi, pt', pa⟩ := p
          cases d
          · by_cases h6 : 65535 < u
            · rw [if_pos ⟨by decide, h6⟩] at q2
              subst q2
              have h6' : (65535 : Int) < (u : Int) := by omega
              (repeat' (first | ((first | refine sv1 F M (h := ?_) (hr := by ((first | (refine rt_tA rfl rfl (tA_uu _)) | (refine rt_tA rfl rfl (tA_iu _)) | (refine rt_tA rfl rfl (tA_ii _))))) | refine pv1 (h := ?_) (hr := by ((first | (refine rt_tA rfl rfl (tA_uu _)) | (refine rt_tA rfl rfl (tA_iu _)) | (refine rt_tA rfl rfl (tA_ii _)))))); (try (clear F a; intro a F))) | (refine sx_nil ?_; (try (replace F := F.filt [0, 2, 3, 4, 5, 6, 7, 8, 9, 10, 11, 12, 13, 14, 36, 39, 40, 41, 42, 52, 57, 59, 60, 65, 66, 68] rfl))) | (refine sv1 F M (h := ?_); clear F a; intro a F) | refine pv1 (h := ?_) | (refine sv3 F M (h := ?_); clear M; intro w M) | (refine sv2 F M (h := ?_); clear F M a; intro nb a w F M) | refine pv3 (h := ?_) | (refine pv2 (h := ?_); intro nb) | ((first | refine svC F M (h := ?_) | refine svC0 F M (h := ?_) | refine pvC (h := ?_) | refine pvC0 (h := ?_)); (((refine acW (k := 35) (hgp _ ?_) ?_); (exact gvA); rintro u L' ⟨rfl, rfl⟩)); (first | refine ⟨rvsA, ?_⟩ | (clear F M a; intro a w F M) | (clear M; intro w M))) | (refine svK F (h := ?_); clear F a; intro a F) | refine svK0 F (h := ?_) | ((refine sx_guardb F rfl (fun hg => ?_) (fun hg => ?_)) <;> (rw [hg] at F; (try (exact no hg)))) | (refine pvF (h := ?_); intro nb) | refine pvK (h := ?_) | refine pvK0 (h := ?_) | (refine pv_nil ?_; intro a w F M; (try (replace F := F.filt [0, 2, 3, 4, 5, 6, 7, 8, 9, 10, 11, 12, 13, 14, 36, 39, 40, 41, 42, 52, 57, 59, 60, 65, 66, 68] rfl))) | ((fail_if_success (with_reducible first | refine isW ?_ | refine isP ?_ | refine isL ?_)); (first | with_reducible refine sx_region ?_ | ((with_reducible refine isK ?_); (first | refine svT F (h := ?_) | refine svF F (h := ?_) | ((refine svB F (fun hc => ?_) (fun hc => ?_)) <;> (try (exact no hc))))) | ((with_reducible refine isD ?_); fail) | with_reducible refine wp_scope_straight ?_ | with_reducible refine wp_label ?_ | go_step))))
              all_goals (first | refine svEnd F M ?_ | refine svRet F M ?_)
              all_goals exact ⟨_, _, rfl, ⟨rfl, rfl⟩, M.perms permsA⟩
            · rw [if_neg (fun h => h6 h.2)] at q2
              have h6' : ¬ (65535 : Int) < (u : Int) := by omega
              have hcv : IntKind.i64.wrap (u : Int) = (u : Int) := IntWalk.i64_in _ ⟨by omega, by omega⟩
              (repeat' (first | ((first | refine sv1 F M (h := ?_) (hr := by ((first | (refine rt_tA rfl rfl (tA_uu _)) | (refine rt_tA rfl rfl (tA_iu _)) | (refine rt_tA rfl rfl (tA_ii _)) | (apply rt_conv; (exact rfl); (exact rfl); (exact inferInstance); (exact inferInstance); (exact hcv))))) | refine pv1 (h := ?_) (hr := by ((first | (refine rt_tA rfl rfl (tA_uu _)) | (refine rt_tA rfl rfl (tA_iu _)) | (refine rt_tA rfl rfl (tA_ii _)) | (apply rt_conv; (exact rfl); (exact rfl); (exact inferInstance); (exact inferInstance); (exact hcv)))))); (try (clear F a; intro a F))) | (refine sx_nil ?_; (try (replace F := F.filt [0, 2, 3, 4, 5, 6, 7, 8, 9, 10, 11, 12, 13, 14, 36, 39, 40, 41, 42, 52, 57, 59, 60, 65, 66, 68] rfl))) | (refine sv1 F M (h := ?_); clear F a; intro a F) | refine pv1 (h := ?_) | (refine sv3 F M (h := ?_); clear M; intro w M) | (refine sv2 F M (h := ?_); clear F M a; intro nb a w F M) | refine pv3 (h := ?_) | (refine pv2 (h := ?_); intro nb) | ((first | refine svC F M (h := ?_) | refine svC0 F M (h := ?_) | refine pvC (h := ?_) | refine pvC0 (h := ?_)); (((refine acW (k := 35) (hgp _ ?_) ?_); (exact gvA); rintro u L' ⟨rfl, rfl⟩)); (first | refine ⟨rvsA, ?_⟩ | (clear F M a; intro a w F M) | (clear M; intro w M))) | (refine svK F (h := ?_); clear F a; intro a F) | refine svK0 F (h := ?_) | ((refine sx_guardb F rfl (fun hg => ?_) (fun hg => ?_)) <;> (rw [hg] at F; (try (exact no hg)))) | (refine pvF (h := ?_); intro nb) | refine pvK (h := ?_) | refine pvK0 (h := ?_) | (refine pv_nil ?_; intro a w F M; (try (replace F := F.filt [0, 2, 3, 4, 5, 6, 7, 8, 9, 10, 11, 12, 13, 14, 36, 39, 40, 41, 42, 52, 57, 59, 60, 65, 66, 68] rfl))) | ((fail_if_success (with_reducible first | refine isW ?_ | refine isP ?_ | refine isL ?_)); (first | with_reducible refine sx_region ?_ | ((with_reducible refine isK ?_); (first | refine svT F (h := ?_) | refine svF F (h := ?_) | ((refine svB F (fun hc => ?_) (fun hc => ?_)) <;> (try (exact no hc))))) | ((with_reducible refine isD ?_); fail) | with_reducible refine wp_scope_straight ?_ | with_reducible refine wp_label ?_ | go_step))))
              exact sv_again F M ((j + 1, ⟨pk, u, pt', pa⟩) : Nat × Opn) kpA permsA ⟨by simp only; omega, q2⟩ (by simp only; omega)
          · by_cases h6 : 65535 < u
            · rw [if_pos ⟨by decide, h6⟩] at q2
              subst q2
              have h6' : (65535 : Int) < (u : Int) := by omega
              (repeat' (first | ((first | refine sv1 F M (h := ?_) (hr := by ((first | (refine rt_tA rfl rfl (tA_uu _)) | (refine rt_tA rfl rfl (tA_iu _)) | (refine rt_tA rfl rfl (tA_ii _)) | (apply rt_conv; (exact rfl); (exact rfl); (exact inferInstance); (exact inferInstance); (exact hcv))))) | refine pv1 (h := ?_) (hr := by ((first | (refine rt_tA rfl rfl (tA_uu _)) | (refine rt_tA rfl rfl (tA_iu _)) | (refine rt_tA rfl rfl (tA_ii _)) | (apply rt_conv; (exact rfl); (exact rfl); (exact inferInstance); (exact inferInstance); (exact hcv)))))); (try (clear F a; intro a F))) | (refine sx_nil ?_; (try (replace F := F.filt [0, 2, 3, 4, 5, 6, 7, 8, 9, 10, 11, 12, 13, 14, 36, 39, 40, 41, 42, 52, 57, 59, 60, 65, 66, 68] rfl))) | (refine sv1 F M (h := ?_); clear F a; intro a F) | refine pv1 (h := ?_) | (refine sv3 F M (h := ?_); clear M; intro w M) | (refine sv2 F M (h := ?_); clear F M a; intro nb a w F M) | refine pv3 (h := ?_) | (refine pv2 (h := ?_); intro nb) | ((first | refine svC F M (h := ?_) | refine svC0 F M (h := ?_) | refine pvC (h := ?_) | refine pvC0 (h := ?_)); (((refine acW (k := 35) (hgp _ ?_) ?_); (exact gvA); rintro u L' ⟨rfl, rfl⟩)); (first | refine ⟨rvsA, ?_⟩ | (clear F M a; intro a w F M) | (clear M; intro w M))) | (refine svK F (h := ?_); clear F a; intro a F) | refine svK0 F (h := ?_) | ((refine sx_guardb F rfl (fun hg => ?_) (fun hg => ?_)) <;> (rw [hg] at F; (try (exact no hg)))) | (refine pvF (h := ?_); intro nb) | refine pvK (h := ?_) | refine pvK0 (h := ?_) | (refine pv_nil ?_; intro a w F M; (try (replace F := F.filt [0, 2, 3, 4, 5, 6, 7, 8, 9, 10, 11, 12, 13, 14, 36, 39, 40, 41, 42, 52, 57, 59, 60, 65, 66, 68] rfl))) | ((fail_if_success (with_reducible first | refine isW ?_ | refine isP ?_ | refine isL ?_)); (first | with_reducible refine sx_region ?_ | ((with_reducible refine isK ?_); (first | refine svT F (h := ?_) | refine svF F (h := ?_) | ((refine svB F (fun hc => ?_) (fun hc => ?_)) <;> (try (exact no hc))))) | ((with_reducible refine isD ?_); fail) | with_reducible refine wp_scope_straight ?_ | with_reducible refine wp_label ?_ | go_step))))
              all_goals (first | refine svEnd F M ?_ | refine svRet F M ?_)
              all_goals exact ⟨_, _, rfl, ⟨rfl, rfl⟩, M.perms permsA⟩
            · rw [if_neg (fun h => h6 h.2)] at q2
              have h6' : ¬ (65535 : Int) < (u : Int) := by omega
              have hcv : IntKind.i64.wrap (u : Int) = (u : Int) := IntWalk.i64_in _ ⟨by omega, by omega⟩
              (repeat' (first | ((first | refine sv1 F M (h := ?_) (hr := by ((first | (refine rt_tA rfl rfl (tA_uu _)) | (refine rt_tA rfl rfl (tA_iu _)) | (refine rt_tA rfl rfl (tA_ii _)) | (apply rt_conv; (exact rfl); (exact rfl); (exact inferInstance); (exact inferInstance); (exact hcv))))) | refine pv1 (h := ?_) (hr := by ((first | (refine rt_tA rfl rfl (tA_uu _)) | (refine rt_tA rfl rfl (tA_iu _)) | (refine rt_tA rfl rfl (tA_ii _)) | (apply rt_conv; (exact rfl); (exact rfl); (exact inferInstance); (exact inferInstance); (exact hcv)))))); (try (clear F a; intro a F))) | (refine sx_nil ?_; (try (replace F := F.filt [0, 2, 3, 4, 5, 6, 7, 8, 9, 10, 11, 12, 13, 14, 36, 39, 40, 41, 42, 52, 57, 59, 60, 65, 66, 68] rfl))) | (refine sv1 F M (h := ?_); clear F a; intro a F) | refine pv1 (h := ?_) | (refine sv3 F M (h := ?_); clear M; intro w M) | (refine sv2 F M (h := ?_); clear F M a; intro nb a w F M) | refine pv3 (h := ?_) | (refine pv2 (h := ?_); intro nb) | ((first | refine svC F M (h := ?_) | refine svC0 F M (h := ?_) | refine pvC (h := ?_) | refine pvC0 (h := ?_)); (((refine acW (k := 35) (hgp _ ?_) ?_); (exact gvA); rintro u L' ⟨rfl, rfl⟩)); (first | refine ⟨rvsA, ?_⟩ | (clear F M a; intro a w F M) | (clear M; intro w M))) | (refine svK F (h := ?_); clear F a; intro a F) | refine svK0 F (h := ?_) | ((refine sx_guardb F rfl (fun hg => ?_) (fun hg => ?_)) <;> (rw [hg] at F; (try (exact no hg)))) | (refine pvF (h := ?_); intro nb) | refine pvK (h := ?_) | refine pvK0 (h := ?_) | (refine pv_nil ?_; intro a w F M; (try (replace F := F.filt [0, 2, 3, 4, 5, 6, 7, 8, 9, 10, 11, 12, 13, 14, 36, 39, 40, 41, 42, 52, 57, 59, 60, 65, 66, 68] rfl))) | ((fail_if_success (with_reducible first | refine isW ?_ | refine isP ?_ | refine isL ?_)); (first | with_reducible refine sx_region ?_ | ((with_reducible refine isK ?_); (first | refine svT F (h := ?_) | refine svF F (h := ?_) | ((refine svB F (fun hc => ?_) (fun hc => ?_)) <;> (try (exact no hc))))) | ((with_reducible refine isD ?_); fail) | with_reducible refine wp_scope_straight ?_ | with_reducible refine wp_label ?_ | go_step))))
              exact sv_again F M ((j + 1, ⟨pk, pi, u, pa⟩) : Nat × Opn) kpA permsA ⟨by simp only; omega, q2⟩ (by simp only; omega)
          · rw [if_neg (fun h => h.1 rfl)] at q2
            (repeat' (first | ((first | refine sv1 F M (h := ?_) (hr := by ((first | (refine rt_tA rfl rfl (tA_uu _)) | (refine rt_tA rfl rfl (tA_iu _)) | (refine rt_tA rfl rfl (tA_ii _))))) | refine pv1 (h := ?_) (hr := by ((first | (refine rt_tA rfl rfl (tA_uu _)) | (refine rt_tA rfl rfl (tA_iu _)) | (refine rt_tA rfl rfl (tA_ii _)))))); (try (clear F a; intro a F))) | (refine sx_nil ?_; (try (replace F := F.filt [0, 2, 3, 4, 5, 6, 7, 8, 9, 10, 11, 12, 13, 14, 36, 39, 40, 41, 42, 52, 57, 59, 60, 65, 66, 68] rfl))) | (refine sv1 F M (h := ?_); clear F a; intro a F) | refine pv1 (h := ?_) | (refine sv3 F M (h := ?_); clear M; intro w M) | (refine sv2 F M (h := ?_); clear F M a; intro nb a w F M) | refine pv3 (h := ?_) | (refine pv2 (h := ?_); intro nb) | ((first | refine svC F M (h := ?_) | refine svC0 F M (h := ?_) | refine pvC (h := ?_) | refine pvC0 (h := ?_)); (((refine acW (k := 35) (hgp _ ?_) ?_); (exact gvA); rintro u L' ⟨rfl, rfl⟩)); (first | refine ⟨rvsA, ?_⟩ | (clear F M a; intro a w F M) | (clear M; intro w M))) | (refine svK F (h := ?_); clear F a; intro a F) | refine svK0 F (h := ?_) | ((refine sx_guardb F rfl (fun hg => ?_) (fun hg => ?_)) <;> (rw [hg] at F; (try (exact no hg)))) | (refine pvF (h := ?_); intro nb) | refine pvK (h := ?_) | refine pvK0 (h := ?_) | (refine pv_nil ?_; intro a w F M; (try (replace F := F.filt [0, 2, 3, 4, 5, 6, 7, 8, 9, 10, 11, 12, 13, 14, 36, 39, 40, 41, 42, 52, 57, 59, 60, 65, 66, 68] rfl))) | ((fail_if_success (with_reducible first | refine isW ?_ | refine isP ?_ | refine isL ?_)); (first | with_reducible refine sx_region ?_ | ((with_reducible refine isK ?_); (first | refine svT F (h := ?_) | refine svF F (h := ?_) | ((refine svB F (fun hc => ?_) (fun hc => ?_)) <;> (try (exact no hc))))) | ((with_reducible refine isD ?_); fail) | with_reducible refine wp_scope_straight ?_ | with_reducible refine wp_label ?_ | go_step))))
            exact sv_again F M ((j + 1, ⟨pk, pi, pt', u⟩) : Nat × Opn) kpA permsA ⟨by simp only; omega, q2⟩ (by simp only; omega)
      · obtain rfl : j = ds.length := by omega
        rw [List.drop_length, opW] at q2
        subst q2
        (repeat' (first | (refine sx_nil ?_; (try (replace F := F.filt [0, 2, 3, 4, 5, 6, 7, 8, 9, 10, 11, 12, 13, 14, 36, 39, 40, 41, 42, 52, 57, 59, 60, 65, 66, 68] rfl))) | (refine sv1 F M (h := ?_); clear F a; intro a F) | refine pv1 (h := ?_) | (refine sv3 F M (h := ?_); clear M; intro w M) | (refine sv2 F M (h := ?_); clear F M a; intro nb a w F M) | refine pv3 (h := ?_) | (refine pv2 (h := ?_); intro nb) | ((first | refine svC F M (h := ?_) | refine svC0 F M (h := ?_) | refine pvC (h := ?_) | refine pvC0 (h := ?_)); (fail); (first | refine ⟨rvsA, ?_⟩ | (clear F M a; intro a w F M) | (clear M; intro w M))) | (refine svK F (h := ?_); clear F a; intro a F) | refine svK0 F (h := ?_) | ((refine sx_guardb F rfl (fun hg => ?_) (fun hg => ?_)) <;> (rw [hg] at F; (try (exact no hg)))) | (refine pvF (h := ?_); intro nb) | refine pvK (h := ?_) | refine pvK0 (h := ?_) | (refine pv_nil ?_; intro a w F M; (try (replace F := F.filt [0, 2, 3, 4, 5, 6, 7, 8, 9, 10, 11, 12, 13, 14, 36, 39, 40, 41, 42, 52, 57, 59, 60, 65, 66, 68] rfl))) | ((fail_if_success (with_reducible first | refine isW ?_ | refine isP ?_ | refine isL ?_)); (first | with_reducible refine sx_region ?_ | ((with_reducible refine isK ?_); (first | refine svT F (h := ?_) | refine svF F (h := ?_) | ((refine svB F (fun hc => ?_) (fun hc => ?_)) <;> (try (exact no hc))))) | ((with_reducible refine isD ?_); fail) | with_reducible refine wp_scope_straight ?_ | with_reducible refine wp_label ?_ | go_step))))
        all_goals (first | refine svEnd F M ?_ | refine svRet F M ?_)
        all_goals exact ⟨_, _, rfl, ⟨rfl, rfl⟩, M.perms permsA⟩
    · rw [if_neg hln] at hT
      subst hT
      have hln2 : ¬ ((w0 :: ws).length : Int) = (ds.length : Int) + 1 := by omega
      (intro G w M; refine sx_enter (vs := ([str s] : List Value)) Tryz.func19 (n := 76) rfl rfl rfl rfl ?_; intro a F; (try simp only [List.cons_append, List.nil_append] at M))
      have hm2 : Gives (R ++ G) MxL := Gives.app hm
      (repeat' (first | (refine sx_nil ?_; (try (replace F := F.filt [0, 2, 3, 4, 5, 6, 7, 8, 9, 10, 11, 12, 13, 14, 36, 39, 40, 41, 42, 52, 57, 59, 60, 65, 66, 68] rfl))) | (refine sv1 F M (h := ?_); clear F a; intro a F) | refine pv1 (h := ?_) | (refine sv3 F M (h := ?_); clear M; intro w M) | (refine sv2 F M (h := ?_); clear F M a; intro nb a w F M) | refine pv3 (h := ?_) | (refine pv2 (h := ?_); intro nb) | ((first | refine svC F M (h := ?_) | refine svC0 F M (h := ?_) | refine pvC (h := ?_) | refine pvC0 (h := ?_)); ((first | ((refine acW (k := 18) (hsp _ ?_) ?_); (exact gvA); rintro u L' ⟨h, rfl, rfl⟩) | ((refine acW (k := 34) (hkd _) ?_); rintro u L' ⟨rfl, rfl⟩) | (refine acK (k := 22) (hfd nb _) ?_; rintro u L' ⟨hf, rfl, rfl⟩))); (first | refine ⟨rvsA, ?_⟩ | (clear F M a; intro a w F M) | (clear M; intro w M))) | (refine svK F (h := ?_); clear F a; intro a F) | refine svK0 F (h := ?_) | ((refine sx_guardb F rfl (fun hg => ?_) (fun hg => ?_)) <;> (rw [hg] at F; (try (exact no hg)))) | (refine pvF (h := ?_); intro nb) | refine pvK (h := ?_) | refine pvK0 (h := ?_) | (refine pv_nil ?_; intro a w F M; (try (replace F := F.filt [0, 2, 3, 4, 5, 6, 7, 8, 9, 10, 11, 12, 13, 14, 36, 39, 40, 41, 42, 52, 57, 59, 60, 65, 66, 68] rfl))) | ((fail_if_success (with_reducible first | refine isW ?_ | refine isP ?_ | refine isL ?_)); (first | with_reducible refine sx_region ?_ | ((with_reducible refine isK ?_); (first | refine svT F (h := ?_) | refine svF F (h := ?_) | ((refine svB F (fun hc => ?_) (fun hc => ?_)) <;> (try (exact no hc))))) | ((with_reducible refine isD ?_); fail) | with_reducible refine wp_scope_straight ?_ | with_reducible refine wp_label ?_ | go_step))))
      all_goals (first | refine svEnd F M ?_ | refine svRet F M ?_)
      all_goals exact ⟨_, _, rfl, ⟨rfl, rfl⟩, M.perms permsA⟩
end Go.Proofs.YtaggjikjohamjaaGreatDoor
end
section
namespace Go.Proofs.YtaggjikjohamjaaGreatDoor
open Go.RowKit Go.Maps
set_option linter.unusedVariables false
set_option maxRecDepth 100000
set_option linter.unusedSimpArgs false
set_option maxHeartbeats 8000000
theorem fmtW_len (o : Opn) (hr : OpR o) (d : Od) : (fmtW o d).length ≤ 20 := by
  obtain ⟨r1, r2, r3⟩ := hr
  refine dec_len _ ?_
  cases d <;> simp only [Od.get] <;> omega
theorem join_le (c : UInt8) (h : List UInt8) : ∀ (t : List (List UInt8)), (∀ x ∈ t, x.length ≤ 20) → (joinB c (h :: t)).length ≤ h.length + 21 * t.length
  | [], _ => by simp [joinB]
  | x :: t, hx => by
    have ih := join_le c h t fun y hy => hx y (by simp [hy])
    have h1 := hx x (by simp)
    simp only [joinB, List.length_append, List.flatMap_cons, List.length_cons] at ih ⊢
    omega
theorem name_len (k : Int) : (nameOf k).length ≤ 11 := by
  by_cases h : 1 ≤ k ∧ k ≤ 7
  · exact (names7_at h.1 h.2).2.1
  · rw [nameOf, if_pos (by omega)]; decide
/-- A place in a line. -/
structure FmZ where
  j : Nat
  h : SlH
  ws : List (List UInt8)
theorem fmt_spec (o : Opn) (hk : I64 o.k) (hr : OpR o) (R : List Asn) (hT : Gives R Tens) : Spec 11 [opV o] R fun u L' => u = str (fmtM o) ∧ L' = R := by
  have hv := fun R => valid_spec o hk hr R
  cases hok : okM o with
  | false =>
    have e : fmtM o = malf := by rw [fmtM, hok]; rfl
    rw [e]
    rw [hok] at hv
    obtain ⟨k, ix, tg, am⟩ := o
    (intro G w M; refine sx_enter (vs := ([opV ⟨k, ix, tg, am⟩] : List Value)) Tryz.func11 (n := 46) rfl rfl rfl rfl ?_; intro a F; (try simp only [List.cons_append, List.nil_append] at M))
    (repeat' (first | (refine sx_nil ?_; (try (replace F := F.filt [0, 1, 2, 3, 5, 6, 7, 10, 15, 16, 17, 18, 21, 23, 24, 33, 34] rfl))) | (refine sv1 F M (h := ?_); clear F a; intro a F) | refine pv1 (h := ?_) | (refine sv3 F M (h := ?_); clear M; intro w M) | (refine sv2 F M (h := ?_); clear F M a; intro nb a w F M) | refine pv3 (h := ?_) | (refine pv2 (h := ?_); intro nb) | ((first | refine svC F M (h := ?_) | refine svC0 F M (h := ?_) | refine pvC (h := ?_) | refine pvC0 (h := ?_)); (((refine acW (k := 20) (hv _) ?_); rintro u L' ⟨rfl, rfl⟩)); (first | refine ⟨rvsA, ?_⟩ | (clear F M a; intro a w F M) | (clear M; intro w M))) | (refine svK F (h := ?_); clear F a; intro a F) | refine svK0 F (h := ?_) | ((refine sx_guardb F rfl (fun hg => ?_) (fun hg => ?_)) <;> (rw [hg] at F; (try (exact no hg)))) | (refine pvF (h := ?_); intro nb) | refine pvK (h := ?_) | refine pvK0 (h := ?_) | (refine pv_nil ?_; intro a w F M; (try (replace F := F.filt [0, 1, 2, 3, 5, 6, 7, 10, 15, 16, 17, 18, 21, 23, 24, 33, 34] rfl))) | ((fail_if_success (with_reducible first | refine isW ?_ | refine isP ?_ | refine isL ?_)); (first | with_reducible refine sx_region ?_ | ((with_reducible refine isK ?_); (first | refine svT F (h := ?_) | refine svF F (h := ?_) | ((refine svB F (fun hc => ?_) (fun hc => ?_)) <;> (try (exact no hc))))) | ((with_reducible refine isD ?_); fail) | with_reducible refine wp_scope_straight ?_ | with_reducible refine wp_label ?_ | go_step))))
    all_goals (first | refine svEnd F M ?_ | refine svRet F M ?_)
    all_goals exact ⟨_, _, rfl, ⟨rfl, rfl⟩, M.perms permsA⟩
  | true =>
    obtain ⟨ds, hd⟩ := okM_true hok
    obtain ⟨g1, _⟩ := ok_get hr hd
    have hw20 := fmtW_len o hr
    obtain ⟨hl2, hz⟩ := ods_len hd.k
    have e : fmtM o = joinB 32 (nameOf o.k :: ds.map (fmtW o)) := by rw [fmtM, hok, if_pos rfl, hd.k]; rfl
    have hjl : (joinB 32 (nameOf o.k :: ds.map (fmtW o))).length ≤ 1000 := by
      have h1 := join_le 32 (nameOf o.k) (ds.map (fmtW o)) (by intro x hx; obtain ⟨d, _, rfl⟩ := List.mem_map.1 hx; exact hw20 d)
      have h2 := name_len o.k
      rw [List.length_map] at h1
      omega
    have hnl : (nameOf o.k :: ds.map (fmtW o)).length ≤ 3 := by simp; omega
    have hjn := fun (h : SlH) R => join_spec h (nameOf o.k :: ds.map (fmtW o)) (by simp) 32 R (by omega) (by omega)
    rw [e]
    rw [hok] at hv
    have hnm : ∀ {L : List Asn}, Reads 21 [.int .i64 o.k] (str (nameOf o.k)) L := name_reads o.k hk.1 hk.2
    have hfd := fun (b : Nat) R => fields_spec b o R
    rw [hd.k] at hfd
    simp only [Option.getD_some] at hfd
    obtain ⟨hri, hrt, hra⟩ := hr
    have hwD : ∀ d, fmtW o d = Lib.decDigits (d.get o).toNat := fun d => rfl
    obtain ⟨k, ix, tg, am⟩ := o
    simp only at hnm hjn hfd hri hrt hra ⊢
    generalize nameOf k = nm at *
    (intro G w M; refine sx_enter (vs := ([opV ⟨k, ix, tg, am⟩] : List Value)) Tryz.func11 (n := 46) rfl rfl rfl rfl ?_; intro a F; (try simp only [List.cons_append, List.nil_append] at M))
    have hT2 : Gives (R ++ G) Tens := Gives.app hT
    (repeat' (first | (refine sx_nil ?_; (try (replace F := F.filt [0, 1, 2, 3, 5, 6, 7, 10, 15, 16, 17, 18, 21, 23, 24, 33, 34] rfl))) | (refine sv1 F M (h := ?_); clear F a; intro a F) | refine pv1 (h := ?_) | (refine sv3 F M (h := ?_); clear M; intro w M) | (refine sv2 F M (h := ?_); clear F M a; intro nb a w F M) | refine pv3 (h := ?_) | (refine pv2 (h := ?_); intro nb) | ((first | refine svC F M (h := ?_) | refine svC0 F M (h := ?_) | refine pvC (h := ?_) | refine pvC0 (h := ?_)); ((first | ((refine acW (k := 20) (hv _) ?_); rintro u L' ⟨rfl, rfl⟩) | ((refine acCall (k := 21) ?_); (refine Spec.of_reads hnm rfl ?_)) | (refine acK (k := 22) (hfd _ _) ?_; rintro u L' ⟨hf, rfl, rfl⟩))); (first | refine ⟨rvsA, ?_⟩ | (clear F M a; intro a w F M) | (clear M; intro w M))) | (refine svK F (h := ?_); clear F a; intro a F) | refine svK0 F (h := ?_) | ((refine sx_guardb F rfl (fun hg => ?_) (fun hg => ?_)) <;> (rw [hg] at F; (try (exact no hg)))) | (refine pvF (h := ?_); intro nb) | refine pvK (h := ?_) | refine pvK0 (h := ?_) | (refine pv_nil ?_; intro a w F M; (try (replace F := F.filt [0, 1, 2, 3, 5, 6, 7, 10, 15, 16, 17, 18, 21, 23, 24, 33, 34] rfl))) | ((fail_if_success (with_reducible first | refine isW ?_ | refine isP ?_ | refine isL ?_)); (first | with_reducible refine sx_region ?_ | ((with_reducible refine isK ?_); (first | refine svT F (h := ?_) | refine svF F (h := ?_) | ((refine svB F (fun hc => ?_) (fun hc => ?_)) <;> (try (exact no hc))))) | ((with_reducible refine isD ?_); fail) | with_reducible refine wp_scope_straight ?_ | with_reducible refine wp_label ?_ | go_step))))
    rename_i b1 z1 z2 z3 z4 z5 z6
    refine svLoop F M (⟨0, ⟨some ⟨nb, 0, none⟩, 1, 1⟩, [nm]⟩ : FmZ) (fun z => [(17, .int .i64 z.j), (3, sl z.h)]) (fun z => [ownT 9 strL 1 (sl z.h) z.ws]) (fun z => z.j ≤ ds.length ∧ z.ws = nm :: (ds.take z.j).map (fmtW ⟨k, ix, tg, am⟩)) (fun z => ds.length - z.j) [5, 6, 7] ⟨Nat.zero_le _, rfl⟩ ?_ (hR := by (repeat (first | exact Pulls.nil | (apply Pulls.cons; (focus ((repeat (first | exact Pull.here | apply Pull.there)); done))))))
    (rintro ⟨j, h, ws⟩ ⟨q1, q2⟩ a w F M; (try simp only [List.cons_append, List.nil_append] at F M q1 q2 ⊢))
    by_cases hj : j < ds.length
    · obtain ⟨d, hdj⟩ : ∃ d, ds[j]? = some d := ⟨ds[j], by simp [hj]⟩
      have hdm := List.mem_of_getElem? hdj
      obtain ⟨g2, g3⟩ := g1 d hdm
      have hws : ws.length ≤ 3 := by rw [q2]; simp; omega
      have hnx : ws ++ [fmtW ⟨k, ix, tg, am⟩ d] = nm :: (ds.take (j + 1)).map (fmtW ⟨k, ix, tg, am⟩) := by rw [q2, List.take_add_one, hdj]; simp
      have hgf : ∀ R : List Asn, Gives R Tens → Spec 23 [.int .u64 (d.get ⟨k, ix, tg, am⟩)] R fun v L' => v = str (fmtW ⟨k, ix, tg, am⟩ d) ∧ L' = R := fun R hT => by
        have hu : (d.get ⟨k, ix, tg, am⟩).toNat < 18446744073709551616 := by
          cases d <;> simp only [Od.get] at g2 g3 ⊢ <;> omega
        have := gfmt_spec (d.get ⟨k, ix, tg, am⟩).toNat hu R hT
        rw [Int.toNat_of_nonneg g2, ← hwD] at this
        exact this
      generalize fmtW ⟨k, ix, tg, am⟩ d = X at *
      cases d
      · simp only [Od.get] at hgf g2
        have hcv : IntKind.u64.wrap ix = ix := by rw [IntKind.wrap_u64]; omega
        (repeat' (first | ((first | refine sv1 F M (h := ?_) (hr := by ((first | (refine rt_tA rfl rfl (tA_uu _)) | (refine rt_tA rfl rfl (tA_iu _)) | (refine rt_tA rfl rfl (tA_ii _)) | (apply rt_conv; (exact rfl); (exact rfl); (exact inferInstance); (exact inferInstance); (exact hcv))))) | refine pv1 (h := ?_) (hr := by ((first | (refine rt_tA rfl rfl (tA_uu _)) | (refine rt_tA rfl rfl (tA_iu _)) | (refine rt_tA rfl rfl (tA_ii _)) | (apply rt_conv; (exact rfl); (exact rfl); (exact inferInstance); (exact inferInstance); (exact hcv)))))); (try (clear F a; intro a F))) | (refine sx_nil ?_; (try (replace F := F.filt [0, 1, 2, 3, 5, 6, 7, 10, 15, 16, 17, 18, 21, 23, 24, 33, 34] rfl))) | (refine sv1 F M (h := ?_); clear F a; intro a F) | refine pv1 (h := ?_) | (refine sv3 F M (h := ?_); clear M; intro w M) | (refine sv2 F M (h := ?_); clear F M a; intro nb a w F M) | refine pv3 (h := ?_) | (refine pv2 (h := ?_); intro nb) | ((first | refine svC F M (h := ?_) | refine svC0 F M (h := ?_) | refine pvC (h := ?_) | refine pvC0 (h := ?_)); ((first | ((refine acW (k := 23) (hgf _ ?_) ?_); (exact gvA); rintro u L' ⟨rfl, rfl⟩) | (refine ac_appendH (f := strL) (xs := ws) (ys := [X]) rfl rfl inferInstance rfl rfl pullA inferInstance gsA rfl rfl (by simp; omega) ?_; intro nv))); (first | refine ⟨rvsA, ?_⟩ | (clear F M a; intro a w F M) | (clear M; intro w M))) | (refine svK F (h := ?_); clear F a; intro a F) | refine svK0 F (h := ?_) | ((refine sx_guardb F rfl (fun hg => ?_) (fun hg => ?_)) <;> (rw [hg] at F; (try (exact no hg)))) | (refine pvF (h := ?_); intro nb) | refine pvK (h := ?_) | refine pvK0 (h := ?_) | (refine pv_nil ?_; intro a w F M; (try (replace F := F.filt [0, 1, 2, 3, 5, 6, 7, 10, 15, 16, 17, 18, 21, 23, 24, 33, 34] rfl))) | ((fail_if_success (with_reducible first | refine isW ?_ | refine isP ?_ | refine isL ?_)); (first | with_reducible refine sx_region ?_ | ((with_reducible refine isK ?_); (first | refine svT F (h := ?_) | refine svF F (h := ?_) | ((refine svB F (fun hc => ?_) (fun hc => ?_)) <;> (try (exact no hc))))) | ((with_reducible refine isD ?_); fail) | with_reducible refine wp_scope_straight ?_ | with_reducible refine wp_label ?_ | go_step))))
        exact sv_again F M (⟨j + 1, nv, ws ++ [X]⟩ : FmZ) kpA permsA ⟨by simp only; omega, hnx⟩ (by simp only; omega)
      · simp only [Od.get] at hgf g2
        have hcv : IntKind.u64.wrap tg = tg := by rw [IntKind.wrap_u64]; omega
        (repeat' (first | ((first | refine sv1 F M (h := ?_) (hr := by ((first | (refine rt_tA rfl rfl (tA_uu _)) | (refine rt_tA rfl rfl (tA_iu _)) | (refine rt_tA rfl rfl (tA_ii _)) | (apply rt_conv; (exact rfl); (exact rfl); (exact inferInstance); (exact inferInstance); (exact hcv))))) | refine pv1 (h := ?_) (hr := by ((first | (refine rt_tA rfl rfl (tA_uu _)) | (refine rt_tA rfl rfl (tA_iu _)) | (refine rt_tA rfl rfl (tA_ii _)) | (apply rt_conv; (exact rfl); (exact rfl); (exact inferInstance); (exact inferInstance); (exact hcv)))))); (try (clear F a; intro a F))) | (refine sx_nil ?_; (try (replace F := F.filt [0, 1, 2, 3, 5, 6, 7, 10, 15, 16, 17, 18, 21, 23, 24, 33, 34] rfl))) | (refine sv1 F M (h := ?_); clear F a; intro a F) | refine pv1 (h := ?_) | (refine sv3 F M (h := ?_); clear M; intro w M) | (refine sv2 F M (h := ?_); clear F M a; intro nb a w F M) | refine pv3 (h := ?_) | (refine pv2 (h := ?_); intro nb) | ((first | refine svC F M (h := ?_) | refine svC0 F M (h := ?_) | refine pvC (h := ?_) | refine pvC0 (h := ?_)); ((first | ((refine acW (k := 23) (hgf _ ?_) ?_); (exact gvA); rintro u L' ⟨rfl, rfl⟩) | (refine ac_appendH (f := strL) (xs := ws) (ys := [X]) rfl rfl inferInstance rfl rfl pullA inferInstance gsA rfl rfl (by simp; omega) ?_; intro nv))); (first | refine ⟨rvsA, ?_⟩ | (clear F M a; intro a w F M) | (clear M; intro w M))) | (refine svK F (h := ?_); clear F a; intro a F) | refine svK0 F (h := ?_) | ((refine sx_guardb F rfl (fun hg => ?_) (fun hg => ?_)) <;> (rw [hg] at F; (try (exact no hg)))) | (refine pvF (h := ?_); intro nb) | refine pvK (h := ?_) | refine pvK0 (h := ?_) | (refine pv_nil ?_; intro a w F M; (try (replace F := F.filt [0, 1, 2, 3, 5, 6, 7, 10, 15, 16, 17, 18, 21, 23, 24, 33, 34] rfl))) | ((fail_if_success (with_reducible first | refine isW ?_ | refine isP ?_ | refine isL ?_)); (first | with_reducible refine sx_region ?_ | ((with_reducible refine isK ?_); (first | refine svT F (h := ?_) | refine svF F (h := ?_) | ((refine svB F (fun hc => ?_) (fun hc => ?_)) <;> (try (exact no hc))))) | ((with_reducible refine isD ?_); fail) | with_reducible refine wp_scope_straight ?_ | with_reducible refine wp_label ?_ | go_step))))
        exact sv_again F M (⟨j + 1, nv, ws ++ [X]⟩ : FmZ) kpA permsA ⟨by simp only; omega, hnx⟩ (by simp only; omega)
      · simp only [Od.get] at hgf g2
        have hcv : IntKind.u64.wrap am = am := by rw [IntKind.wrap_u64]; omega
        (repeat' (first | ((first | refine sv1 F M (h := ?_) (hr := by ((first | (refine rt_tA rfl rfl (tA_uu _)) | (refine rt_tA rfl rfl (tA_iu _)) | (refine rt_tA rfl rfl (tA_ii _)) | (apply rt_conv; (exact rfl); (exact rfl); (exact inferInstance); (exact inferInstance); (exact hcv))))) | refine pv1 (h := ?_) (hr := by ((first | (refine rt_tA rfl rfl (tA_uu _)) | (refine rt_tA rfl rfl (tA_iu _)) | (refine rt_tA rfl rfl (tA_ii _)) | (apply rt_conv; (exact rfl); (exact rfl); (exact inferInstance); (exact inferInstance); (exact hcv)))))); (try (clear F a; intro a F))) | (refine sx_nil ?_; (try (replace F := F.filt [0, 1, 2, 3, 5, 6, 7, 10, 15, 16, 17, 18, 21, 23, 24, 33, 34] rfl))) | (refine sv1 F M (h := ?_); clear F a; intro a F) | refine pv1 (h := ?_) | (refine sv3 F M (h := ?_); clear M; intro w M) | (refine sv2 F M (h := ?_); clear F M a; intro nb a w F M) | refine pv3 (h := ?_) | (refine pv2 (h := ?_); intro nb) | ((first | refine svC F M (h := ?_) | refine svC0 F M (h := ?_) | refine pvC (h := ?_) | refine pvC0 (h := ?_)); ((first | ((refine acW (k := 23) (hgf _ ?_) ?_); (exact gvA); rintro u L' ⟨rfl, rfl⟩) | (refine ac_appendH (f := strL) (xs := ws) (ys := [X]) rfl rfl inferInstance rfl rfl pullA inferInstance gsA rfl rfl (by simp; omega) ?_; intro nv))); (first | refine ⟨rvsA, ?_⟩ | (clear F M a; intro a w F M) | (clear M; intro w M))) | (refine svK F (h := ?_); clear F a; intro a F) | refine svK0 F (h := ?_) | ((refine sx_guardb F rfl (fun hg => ?_) (fun hg => ?_)) <;> (rw [hg] at F; (try (exact no hg)))) | (refine pvF (h := ?_); intro nb) | refine pvK (h := ?_) | refine pvK0 (h := ?_) | (refine pv_nil ?_; intro a w F M; (try (replace F := F.filt [0, 1, 2, 3, 5, 6, 7, 10, 15, 16, 17, 18, 21, 23, 24, 33, 34] rfl))) | ((fail_if_success (with_reducible first | refine isW ?_ | refine isP ?_ | refine isL ?_)); (first | with_reducible refine sx_region ?_ | ((with_reducible refine isK ?_); (first | refine svT F (h := ?_) | refine svF F (h := ?_) | ((refine svB F (fun hc => ?_) (fun hc => ?_)) <;> (try (exact no hc))))) | ((with_reducible refine isD ?_); fail) | with_reducible refine wp_scope_straight ?_ | with_reducible refine wp_label ?_ | go_step))))
        exact sv_again F M (⟨j + 1, nv, ws ++ [X]⟩ : FmZ) kpA permsA ⟨by simp only; omega, hnx⟩ (by simp only; omega)
    · obtain rfl : j = ds.length := by omega
      rw [List.take_length] at q2
      subst q2
      (repeat' (first | (refine sx_nil ?_; (try (replace F := F.filt [0, 1, 2, 3, 5, 6, 7, 10, 15, 16, 17, 18, 21, 23, 24, 33, 34] rfl))) | (refine sv1 F M (h := ?_); clear F a; intro a F) | refine pv1 (h := ?_) | (refine sv3 F M (h := ?_); clear M; intro w M) | (refine sv2 F M (h := ?_); clear F M a; intro nb a w F M) | refine pv3 (h := ?_) | (refine pv2 (h := ?_); intro nb) | ((first | refine svC F M (h := ?_) | refine svC0 F M (h := ?_) | refine pvC (h := ?_) | refine pvC0 (h := ?_)); ((refine acK (k := 24) (hjn h _) ?_; rintro u L' ⟨rfl, rfl⟩)); (first | refine ⟨rvsA, ?_⟩ | (clear F M a; intro a w F M) | (clear M; intro w M))) | (refine svK F (h := ?_); clear F a; intro a F) | refine svK0 F (h := ?_) | ((refine sx_guardb F rfl (fun hg => ?_) (fun hg => ?_)) <;> (rw [hg] at F; (try (exact no hg)))) | (refine pvF (h := ?_); intro nb) | refine pvK (h := ?_) | refine pvK0 (h := ?_) | (refine pv_nil ?_; intro a w F M; (try (replace F := F.filt [0, 1, 2, 3, 5, 6, 7, 10, 15, 16, 17, 18, 21, 23, 24, 33, 34] rfl))) | ((fail_if_success (with_reducible first | refine isW ?_ | refine isP ?_ | refine isL ?_)); (first | with_reducible refine sx_region ?_ | ((with_reducible refine isK ?_); (first | refine svT F (h := ?_) | refine svF F (h := ?_) | ((refine svB F (fun hc => ?_) (fun hc => ?_)) <;> (try (exact no hc))))) | ((with_reducible refine isD ?_); fail) | with_reducible refine wp_scope_straight ?_ | with_reducible refine wp_label ?_ | go_step))))
      all_goals (first | refine svEnd F M ?_ | refine svRet F M ?_)
      all_goals exact ⟨_, _, rfl, ⟨rfl, rfl⟩, M.perms permsA⟩
end Go.Proofs.YtaggjikjohamjaaGreatDoor
end
section
namespace Go.Proofs.YtaggjikjohamjaaGreatDoor
open Go.RowKit Go.Maps
set_option linter.unusedVariables false
set_option maxRecDepth 100000
set_option linter.unusedSimpArgs false
set_option maxHeartbeats 8000000
def rdGo (l : List (List UInt8)) : List Opn := (l.filter fun x => decide (x ≠ [])).map parsM
theorem rdGo_cons (x : List UInt8) (l : List (List UInt8)) : rdGo (x :: l) = if x ≠ [] then parsM x :: rdGo l else rdGo l := by
  unfold rdGo
  rw [List.filter_cons]
  by_cases h : x = []
  · subst h; rfl
  · rw [if_pos (by simpa using h), if_pos h]; rfl
theorem read_spec (t : List UInt8) (hs : t.length ≤ 10000) (R : List Asn) (hm : Gives R MxL) (hL : Gives R Laid) : Spec 10 [str t] R fun u L' => ∃ h, u = sl h ∧ L' = ownT 35 opL 4 (sl h) (readM t) :: R := by
  have hsp := fun R (hm : Gives R MxL) => split_spec t 10 (by omega) R hm
  have hmem := splitB_mem 10 t
  have hlen := splitB_len 10 t
  have hcl := List.count_le_length (a := (10 : UInt8)) (l := t)
  obtain ⟨X, hX⟩ : ∃ X, readM t = X := ⟨_, rfl⟩
  rw [hX]
  have hX : rdGo (splitB 10 t) = X := hX
  generalize splitB 10 t = L at *
  (intro G w M; refine sx_enter (vs := ([str t] : List Value)) Tryz.func10 (n := 28) rfl rfl rfl rfl ?_; intro a F; (try simp only [List.cons_append, List.nil_append] at M))
  have hm2 : Gives (R ++ G) MxL := Gives.app hm
  have hL2 : Gives (R ++ G) Laid := Gives.app hL
  have M := M.own_nil 35 4
  (repeat' (first | (refine sx_nil ?_; (try (replace F := F.filt [0, 2, 3, 5, 6, 9, 10, 11, 12, 16] rfl))) | (refine sv1 F M (h := ?_); clear F a; intro a F) | refine pv1 (h := ?_) | (refine sv3 F M (h := ?_); clear M; intro w M) | (refine sv2 F M (h := ?_); clear F M a; intro nb a w F M) | refine pv3 (h := ?_) | (refine pv2 (h := ?_); intro nb) | ((first | refine svC F M (h := ?_) | refine svC0 F M (h := ?_) | refine pvC (h := ?_) | refine pvC0 (h := ?_)); (((refine acW (k := 18) (hsp _ ?_) ?_); (exact gvA); rintro u L' ⟨h, rfl, rfl⟩)); (first | refine ⟨rvsA, ?_⟩ | (clear F M a; intro a w F M) | (clear M; intro w M))) | (refine svK F (h := ?_); clear F a; intro a F) | refine svK0 F (h := ?_) | ((refine sx_guardb F rfl (fun hg => ?_) (fun hg => ?_)) <;> (rw [hg] at F; (try (exact no hg)))) | (refine pvF (h := ?_); intro nb) | refine pvK (h := ?_) | refine pvK0 (h := ?_) | (refine pv_nil ?_; intro a w F M; (try (replace F := F.filt [0, 2, 3, 5, 6, 9, 10, 11, 12, 16] rfl))) | ((fail_if_success (with_reducible first | refine isW ?_ | refine isP ?_ | refine isL ?_)); (first | with_reducible refine sx_region ?_ | ((with_reducible refine isK ?_); (first | refine svT F (h := ?_) | refine svF F (h := ?_) | ((refine svB F (fun hc => ?_) (fun hc => ?_)) <;> (try (exact no hc))))) | ((with_reducible refine isD ?_); fail) | with_reducible refine wp_scope_straight ?_ | with_reducible refine wp_label ?_ | go_step))))
  refine svLoop F M ((0, nilH, []) : Nat × SlH × List Opn) (fun z => [(11, .int .i64 z.1), (3, sl z.2.1)]) (fun z => [ownT 35 opL 4 (sl z.2.1) z.2.2]) (fun z => z.1 ≤ L.length ∧ z.2.2 ++ rdGo (L.drop z.1) = X ∧ z.2.2.length ≤ z.1) (fun z => L.length - z.1) [5, 6, 7] ⟨Nat.zero_le _, hX, Nat.zero_le _⟩ ?_ (hR := by (repeat (first | exact Pulls.nil | (apply Pulls.cons; (focus ((repeat (first | exact Pull.here | apply Pull.there)); done))))))
  (rintro ⟨k, hh, out⟩ ⟨q1, q2, q3⟩ a w F M; (try simp only [List.cons_append, List.nil_append] at F M q1 q2 q3 ⊢))
  by_cases hk : k < L.length
  · obtain ⟨x, hx⟩ : ∃ x, L[k]? = some x := ⟨L[k], by simp [hk]⟩
    have hxl := hmem x (List.mem_of_getElem? hx)
    rw [drop_cons hx, rdGo_cons] at q2
    by_cases he : x = []
    · rw [if_neg (by simpa using he)] at q2
      have d1 : decide (x ≠ []) = false := by simpa using he
      (repeat' (first | (refine sx_nil ?_; (try (replace F := F.filt [0, 2, 3, 5, 6, 9, 10, 11, 12, 16] rfl))) | (refine sv1 F M (h := ?_); clear F a; intro a F) | refine pv1 (h := ?_) | (refine sv3 F M (h := ?_); clear M; intro w M) | (refine sv2 F M (h := ?_); clear F M a; intro nb a w F M) | refine pv3 (h := ?_) | (refine pv2 (h := ?_); intro nb) | ((first | refine svC F M (h := ?_) | refine svC0 F M (h := ?_) | refine pvC (h := ?_) | refine pvC0 (h := ?_)); (fail); (first | refine ⟨rvsA, ?_⟩ | (clear F M a; intro a w F M) | (clear M; intro w M))) | (refine svK F (h := ?_); clear F a; intro a F) | refine svK0 F (h := ?_) | ((refine sx_guardb F rfl (fun hg => ?_) (fun hg => ?_)) <;> (rw [hg] at F; (try (exact no hg)))) | (refine pvF (h := ?_); intro nb) | refine pvK (h := ?_) | refine pvK0 (h := ?_) | (refine pv_nil ?_; intro a w F M; (try (replace F := F.filt [0, 2, 3, 5, 6, 9, 10, 11, 12, 16] rfl))) | ((fail_if_success (with_reducible first | refine isW ?_ | refine isP ?_ | refine isL ?_)); (first | with_reducible refine sx_region ?_ | ((with_reducible refine isK ?_); (first | refine svT F (h := ?_) | refine svF F (h := ?_) | ((refine svB F (fun hc => ?_) (fun hc => ?_)) <;> (try (exact no hc))))) | ((with_reducible refine isD ?_); fail) | with_reducible refine wp_scope_straight ?_ | with_reducible refine wp_label ?_ | go_step))))
      exact sv_again F M ((k + 1, hh, out) : Nat × SlH × List Opn) kpA permsA ⟨by simp only; omega, q2, by simp only; omega⟩ (by simp only; omega)
    · rw [if_pos he] at q2
      have d1 : decide (x ≠ []) = true := by simpa using he
      have hpa := fun R (hm : Gives R MxL) (hL : Gives R Laid) => parse_spec x (by omega) R hm hL
      generalize parsM x = p at *
      generalize (parsO x).isSome = b at *
      (repeat' (first | (refine sx_nil ?_; (try (replace F := F.filt [0, 2, 3, 5, 6, 9, 10, 11, 12, 16] rfl))) | (refine sv1 F M (h := ?_); clear F a; intro a F) | refine pv1 (h := ?_) | (refine sv3 F M (h := ?_); clear M; intro w M) | (refine sv2 F M (h := ?_); clear F M a; intro nb a w F M) | refine pv3 (h := ?_) | (refine pv2 (h := ?_); intro nb) | ((first | refine svC F M (h := ?_) | refine svC0 F M (h := ?_) | refine pvC (h := ?_) | refine pvC0 (h := ?_)); ((first | ((refine acW (k := 19) (hpa _ ?_ ?_) ?_); (exact gvA); (exact gvA); rintro u L' ⟨rfl, rfl⟩) | (refine ac_appendH (f := opL) (xs := out) (ys := [p]) rfl rfl inferInstance rfl rfl pullA inferInstance gsA rfl rfl (by simp; omega) ?_; intro nv))); (first | refine ⟨rvsA, ?_⟩ | (clear F M a; intro a w F M) | (clear M; intro w M))) | (refine svK F (h := ?_); clear F a; intro a F) | refine svK0 F (h := ?_) | ((refine sx_guardb F rfl (fun hg => ?_) (fun hg => ?_)) <;> (rw [hg] at F; (try (exact no hg)))) | (refine pvF (h := ?_); intro nb) | refine pvK (h := ?_) | refine pvK0 (h := ?_) | (refine pv_nil ?_; intro a w F M; (try (replace F := F.filt [0, 2, 3, 5, 6, 9, 10, 11, 12, 16] rfl))) | ((fail_if_success (with_reducible first | refine isW ?_ | refine isP ?_ | refine isL ?_)); (first | with_reducible refine sx_region ?_ | ((with_reducible refine isK ?_); (first | refine svT F (h := ?_) | refine svF F (h := ?_) | ((refine svB F (fun hc => ?_) (fun hc => ?_)) <;> (try (exact no hc))))) | ((with_reducible refine isD ?_); fail) | with_reducible refine wp_scope_straight ?_ | with_reducible refine wp_label ?_ | go_step))))
      exact sv_again F M ((k + 1, nv, out ++ [p]) : Nat × SlH × List Opn) kpA permsA ⟨by simp only; omega, by simpa using q2, by simp; omega⟩ (by simp only; omega)
  · obtain rfl : k = L.length := by omega
    rw [List.drop_length] at q2
    have q2 : out ++ [] = X := q2
    rw [List.append_nil] at q2
    subst q2
    (repeat' (first | (refine sx_nil ?_; (try (replace F := F.filt [0, 2, 3, 5, 6, 9, 10, 11, 12, 16] rfl))) | (refine sv1 F M (h := ?_); clear F a; intro a F) | refine pv1 (h := ?_) | (refine sv3 F M (h := ?_); clear M; intro w M) | (refine sv2 F M (h := ?_); clear F M a; intro nb a w F M) | refine pv3 (h := ?_) | (refine pv2 (h := ?_); intro nb) | ((first | refine svC F M (h := ?_) | refine svC0 F M (h := ?_) | refine pvC (h := ?_) | refine pvC0 (h := ?_)); (fail); (first | refine ⟨rvsA, ?_⟩ | (clear F M a; intro a w F M) | (clear M; intro w M))) | (refine svK F (h := ?_); clear F a; intro a F) | refine svK0 F (h := ?_) | ((refine sx_guardb F rfl (fun hg => ?_) (fun hg => ?_)) <;> (rw [hg] at F; (try (exact no hg)))) | (refine pvF (h := ?_); intro nb) | refine pvK (h := ?_) | refine pvK0 (h := ?_) | (refine pv_nil ?_; intro a w F M; (try (replace F := F.filt [0, 2, 3, 5, 6, 9, 10, 11, 12, 16] rfl))) | ((fail_if_success (with_reducible first | refine isW ?_ | refine isP ?_ | refine isL ?_)); (first | with_reducible refine sx_region ?_ | ((with_reducible refine isK ?_); (first | refine svT F (h := ?_) | refine svF F (h := ?_) | ((refine svB F (fun hc => ?_) (fun hc => ?_)) <;> (try (exact no hc))))) | ((with_reducible refine isD ?_); fail) | with_reducible refine wp_scope_straight ?_ | with_reducible refine wp_label ?_ | go_step))))
    all_goals (first | refine svEnd F M ?_ | refine svRet F M ?_)
    all_goals exact ⟨_, _, rfl, ⟨hh, rfl, rfl⟩, M.perms permsA⟩
end Go.Proofs.YtaggjikjohamjaaGreatDoor
end
section
namespace Go.Proofs.YtaggjikjohamjaaGreatDoor
open Go.RowKit
set_option linter.unusedVariables false
set_option maxRecDepth 100000
set_option linter.unusedSimpArgs false
/-- All but the last, and the last. -/
def lastL : List Oper → Option (List Oper × Oper)
  | [] => none
  | a :: r => match lastL r with
    | some (p, o) => some (a :: p, o)
    | none => some ([], a)
theorem lastL_spec : ∀ (l : List Oper) {p : List Oper} {o : Oper}, lastL l = some (p, o) → l = p ++ [o]
  | [], p, o, h => by simp [lastL] at h
  | a :: r, p, o, h => by
    simp only [lastL] at h
    split at h
    · rename_i p' o' hr
      have h := Option.some.inj h
      obtain ⟨rfl, rfl⟩ := Prod.mk.inj h
      rw [lastL_spec r hr]; rfl
    · rename_i hr
      have h := Option.some.inj h
      obtain ⟨rfl, rfl⟩ := Prod.mk.inj h
      cases r with
      | nil => rfl
      | cons b r => simp only [lastL] at hr; split at hr <;> cases hr
def lastOK (pre : Array Oper) (o : Oper) : Bool :=
  (pre.all fun p => match p.guard with | none => true | some (g, _) => Nat.blt g pre.size) &&
  (o.after.all fun e => !Region.binds .any e || Nat.blt e.on pre.size) &&
  ((List.range pre.size).all fun j => o.after.any fun e => Region.binds .any e && (Nat.beq e.on j || ((Region.before pre).getD e.on 0).testBit j))
/-- What is asked behind the others: the last operation. -/
def QL (ops : Array Oper) (o : Oper) (Q : Exit → Act → World → Prop) : Exit → Act → World → Prop := fun e a w => match e with
  | .normal => wpList Tryz.prog ops Q [o] a w
  | e => Q e a w
section
variable {ops : Array Oper} {Q : Exit → Act → World → Prop} {o : Oper} {a : Act} {w : World} {n : Nat} {l : List (Nat × Value)} {L : List Asn}
theorem ql_open (h : wpList Tryz.prog ops Q [o] a w) : QL ops o Q .normal a w := h
theorem ql_wp {o' : Oper} {N N' : Act → World → Prop} (h : o'.wp Tryz.prog a w N (QL ops o Q)) (hN : ∀ a w, N a w → N' a w) : o'.wp Tryz.prog a w N' Q := by
  have h := Oper.wp_mono (Q := QL ops o Q) hN h
  unfold Oper.wp at *
  generalize (execOp a.eval o').run Tryz.prog w = r at *
  cases r with
  | ok n w' =>
    cases n <;> simp only [Oper.upon] at h ⊢
    case enter f args =>
      refine h.mono fun e w'' he => ?_
      cases e <;> exact he
    all_goals exact h
  | halt x w' => cases x <;> exact h
theorem ql_lets (h : LetsOut (QL ops o Q)) : LetsOut Q := h
theorem getD_push_lt {xs : Array Bool} {i : Nat} {b d : Bool} (h : i < xs.size) : (xs.push b).getD i d = xs.getD i d := by
  simp [Array.getElem?_push, Nat.ne_of_lt h]
theorem set_push {xs : Array Bool} {i : Nat} {b c : Bool} (h : i < xs.size) : (xs.push b).setIfInBounds i c = (xs.setIfInBounds i c).push b := by
  apply Array.ext_getElem?
  intro k
  simp only [Array.getElem?_setIfInBounds, Array.getElem?_push, Array.size_push, Array.size_setIfInBounds]
  by_cases hk : i = k
  · subst hk
    have : i ≠ xs.size := Nat.ne_of_lt h
    simp [h, this]; omega
  · simp only [if_neg hk]
theorem wpAny_push {pre : Array Oper} (hB : fixB pre = true) (hla : lastOK pre o = true) : ∀ (fuel : Nat) (listed : Array Bool) (a : Act) (w : World), listed.size = pre.size → (∀ (j : Nat) (oj : Oper), pre[j]? = some oj → listed.getD j true = true → ∀ e ∈ oj.after, Region.binds .any e = true → listed.getD e.on true = true) →
    wpAny Tryz.prog .any pre (QL (pre.push o) o Q) fuel listed a w → wpAny Tryz.prog .any (pre.push o) Q (fuel + 1) (listed.push false) a w := by
  simp only [lastOK, Bool.and_eq_true] at hla
  obtain ⟨⟨hg, hb⟩, hall⟩ := hla
  have hops : ∀ i, i < pre.size → (pre.push o)[i]? = pre[i]? := fun i hi => by simp [Array.getElem?_push, Nat.ne_of_lt hi]
  have hlast : (pre.push o)[pre.size]? = some o := by simp
  have hoe : ∀ e ∈ o.after, Region.binds .any e = true → e.on < pre.size := fun e he heb => by
    have := Array.all_eq_true_iff_forall_mem.1 hb e he
    simp only [heb, Bool.not_true, Bool.false_or] at this
    simpa [Nat.blt_eq] using this

  have full : ∀ (listed : Array Bool), listed.size = pre.size → (∀ (j : Nat) (oj : Oper), pre[j]? = some oj → listed.getD j true = true → ∀ e ∈ oj.after, Region.binds .any e = true → listed.getD e.on true = true) → (∀ e ∈ o.after, Region.binds .any e = true → listed.getD e.on true = true) → ∀ j, j < pre.size → listed.getD j true = true := by
    intro listed hl hc he j hj
    have h1 := List.all_eq_true.1 hall j (List.mem_range.2 hj)
    obtain ⟨k, hk, h2⟩ := Array.any_eq_true.1 h1
    obtain ⟨e, hem, hek⟩ : ∃ e, e ∈ o.after ∧ e = o.after[k] := ⟨_, Array.getElem_mem hk, rfl⟩
    rw [← hek] at h2
    simp only [Bool.and_eq_true, Bool.or_eq_true] at h2
    obtain ⟨heb, h3⟩ := h2
    have h4 := he e hem heb
    rcases h3 with h3 | h3
    · rw [← Nat.eq_of_beq_eq_true h3]; exact h4
    · have hlt := hoe e hem heb
      have hpe : pre[e.on]? = some pre[e.on] := by simp [hlt]
      exact anc_listed (S := fun k => listed.getD k true = true) (fun k ok hk => (fixB_spec hB hk).1) (fun k ok hk hS e' he' hb' => hc k ok hk hS e' he' hb') e.on _ hpe (fun e' he' hb' => hc e.on _ hpe h4 e' he' hb') j h3
  have hready : ∀ (listed : Array Bool) (i : Nat), listed.size = pre.size → (∀ (j : Nat) (oj : Oper), pre[j]? = some oj → listed.getD j true = true → ∀ e ∈ oj.after, Region.binds .any e = true → listed.getD e.on true = true) → i ∈ Region.ready .any (pre.push o) (listed.push false) →
      (i < pre.size ∧ i ∈ Region.ready .any pre listed) ∨ (i = pre.size ∧ ∀ j, j < pre.size → listed.getD j true = true) := by
    intro listed i hl hc hi
    obtain ⟨h1, oi, h2, h3⟩ := mem_ready.1 hi
    rcases Nat.lt_trichotomy i pre.size with hlt | rfl | hgt
    · left
      refine ⟨hlt, mem_ready.2 ⟨by rw [getD_push_lt (by omega)] at h1; exact h1, oi, by rw [hops i hlt] at h2; exact h2, fun e he heb => ?_⟩⟩
      have h4 := h3 e he heb
      rw [hops i hlt] at h2
      have h5 := (fixB_spec hB h2).1 e he heb
      rwa [getD_push_lt (by omega)] at h4
    · right
      refine ⟨rfl, full listed hl hc fun e he heb => ?_⟩
      rw [hlast] at h2
      cases h2
      have h4 := h3 e he heb
      have h5 := hoe e he heb
      rw [getD_push_lt (by omega)] at h4
      have : e.on < listed.size := by omega
      simpa [this] using h4
    · exfalso
      have : (pre.push o)[i]? = none := by simp; omega
      rw [this] at h2; cases h2

  have hend : ∀ (fuel : Nat) (listed : Array Bool) (a : Act) (w : World), listed.size = pre.size → (∀ j, j < pre.size → listed.getD j true = true) → (Region.ready .any pre listed = []) → QL (pre.push o) o Q .normal a w → wpOp Tryz.prog (pre.push o) Q pre.size (wpAny Tryz.prog .any (pre.push o) Q fuel ((listed.push false).setIfInBounds pre.size true)) a w := by
    intro fuel listed a w hl hfull hr h
    have hnone : Region.ready .any (pre.push o) ((listed.push false).setIfInBounds pre.size true) = [] := by
      apply List.eq_nil_iff_forall_not_mem.2
      intro i hi
      obtain ⟨h1, oi, h2, h3⟩ := mem_ready.1 hi
      have hlt : i < (pre.push o).size := (Array.getElem?_eq_some_iff.1 h2).1
      rw [Array.size_push] at hlt
      by_cases hip : i = pre.size
      · subst hip
        simp [hl] at h1
      · have hlt' : i < pre.size := by omega
        have h4 := hfull i hlt'
        have : ((listed.push false).setIfInBounds pre.size true).getD i true = listed.getD i true := by
          have hne : pre.size ≠ i := fun e => hip e.symm
          have hne2 : i ≠ listed.size := by omega
          simp [Array.getElem?_setIfInBounds, hne, Array.getElem?_push, hne2]
        rw [this, h4] at h1; cases h1
    have hK : ∀ a w, Q .normal a w → wpAny Tryz.prog .any (pre.push o) Q fuel ((listed.push false).setIfInBounds pre.size true) a w := by
      intro a w hq
      cases fuel with
      | zero => exact ⟨hnone, hq⟩
      | succ fuel => exact ⟨fun _ => hq, fun i hi => by rw [hnone] at hi; simp at hi⟩
    have h' : wpList Tryz.prog (pre.push o) Q [o] a w := h
    unfold wpOp
    rw [hlast]
    simp only [wpList] at h'
    simp only []
    split
    · rename_i hw
      rw [if_pos hw] at h'
      exact h'.imp (Oper.wp_mono hK) id
    · rename_i hw
      rw [if_neg hw] at h'
      exact hK _ _ h'
  intro fuel
  induction fuel with
  | zero =>
    intro listed a w hl hc ⟨hr, hq⟩
    have hfull := ready_nil_all hB hl hr
    refine ⟨fun hr' => ?_, fun i hi => ?_⟩
    · exfalso
      have : pre.size ∈ Region.ready .any (pre.push o) (listed.push false) := mem_ready.2 ⟨by simp [← hl], o, hlast, fun e he heb => by
        have h5 := hoe e he heb
        rw [getD_push_lt (by omega)]
        have := hfull e.on h5
        have hlt : e.on < listed.size := by omega
        simpa [hlt] using this⟩
      rw [hr'] at this; simp at this
    · rcases hready listed i hl hc hi with ⟨_, h⟩ | ⟨rfl, hf⟩
      · rw [hr] at h; simp at h
      · exact hend 0 listed a w hl hf hr hq
  | succ fuel ih =>
    intro listed a w hl hc ⟨h0, h1⟩
    refine ⟨fun hr' => ?_, fun i hi => ?_⟩
    · exfalso
      have hnil : Region.ready .any pre listed = [] := by
        apply List.eq_nil_iff_forall_not_mem.2
        intro i hi
        obtain ⟨k1, oi, k2, k3⟩ := mem_ready.1 hi
        have hlt : i < pre.size := (Array.getElem?_eq_some_iff.1 k2).1
        have : i ∈ Region.ready .any (pre.push o) (listed.push false) := mem_ready.2 ⟨by rw [getD_push_lt (by omega)]; exact k1, oi, by rw [hops i hlt]; exact k2, fun e he heb => by
          have h5 := (fixB_spec hB k2).1 e he heb
          rw [getD_push_lt (by omega)]; exact k3 e he heb⟩
        rw [hr'] at this; simp at this
      have hfull := ready_nil_all hB hl hnil
      have : pre.size ∈ Region.ready .any (pre.push o) (listed.push false) := mem_ready.2 ⟨by simp [← hl], o, hlast, fun e he heb => by
        have h5 := hoe e he heb
        rw [getD_push_lt (by omega)]
        have := hfull e.on h5
        have hlt : e.on < listed.size := by omega
        simpa [hlt] using this⟩
      rw [hr'] at this; simp at this
    · rcases hready listed i hl hc hi with ⟨hlt, h⟩ | ⟨rfl, hf⟩
      · have h2 := h1 i h
        rw [set_push (by omega)]
        obtain ⟨k1, oi, k2, k3⟩ := mem_ready.1 h
        have hN : ∀ a w, wpAny Tryz.prog .any pre (QL (pre.push o) o Q) fuel (listed.setIfInBounds i true) a w → wpAny Tryz.prog .any (pre.push o) Q (fuel + 1) ((listed.setIfInBounds i true).push false) a w := fun a w hh => ih _ a w (by simp [hl]) (fun j oj hj hjl e he heb => by
          rw [getD_set (by omega)] at hjl ⊢
          split
          · rfl
          · split at hjl
            · rename_i hij
              subst hij
              rw [k2] at hj; cases hj
              have h4 := k3 e he heb
              have h5 := (fixB_spec hB k2).1 e he heb
              have h6 : e.on < listed.size := by omega
              simpa [h6] using h4
            · exact hc j oj hj hjl e he heb) hh
        unfold wpOp at h2 ⊢
        rw [k2] at h2
        rw [hops i hlt, k2]
        simp only [] at h2 ⊢
        have hw : Region.wanted oi (yielded (pre.push o) a.tmps) = Region.wanted oi (yielded pre a.tmps) := by
          unfold Region.wanted
          cases hgu : oi.guard with
          | none => rfl
          | some gb =>
            obtain ⟨g, b⟩ := gb
            have hgl : g < pre.size := by
              have := Array.all_eq_true_iff_forall_mem.1 hg oi (Array.mem_of_getElem? k2)
              rw [hgu] at this
              simpa [Nat.blt_eq] using this
            simp only [yielded, hops g hgl]
        rw [hw]
        split
        · rename_i hww
          rw [if_pos hww] at h2
          rcases h2 with h2 | ⟨h2, h3⟩
          · exact .inl (ql_wp h2 hN)
          · exact .inr ⟨h2, ql_lets h3⟩
        · rename_i hww
          rw [if_neg hww] at h2
          exact hN _ _ h2
      · have hnil : Region.ready .any pre listed = [] := by
          apply List.eq_nil_iff_forall_not_mem.2
          intro i hi
          obtain ⟨k1, oi, k2, k3⟩ := mem_ready.1 hi
          have := hf i (Array.getElem?_eq_some_iff.1 k2).1
          rw [this] at k1; cases k1
        exact hend (fuel + 1) listed a w hl hf hnil (h0 hnil)
/-- A region that draws its order, the last operation behind all others. -/
theorem svDrawL {id : Nat} {os pre : List Oper} (E Fl : List Nat) (S : List (Nat × List Nat)) (σ : List Nat) (F : Fr a n l) (M : Mem w L) (h : PW Tryz.prog pre.toArray n (QL os.toArray o Q) E Fl S σ [] l L) (hl : lastL os = some (pre, o) := by exact rfl) (hok : drawOK pre.toArray E Fl S σ n = true := by kernel_rfl) (hla : lastOK pre.toArray o = true := by kernel_rfl)
    (hFl : FlOK Tryz.prog pre.toArray Fl := by (first | (focus ((repeat (first | exact flok_nil | (apply flok_cons; (exact rfl); (exact rfl); (exact inferInstance); (exact rfl); (exact rfl)))); done)) | fail)) : (Code.region id os.toArray true).wp Tryz.prog Q a w := by
  have he := lastL_spec os hl
  have he' : os.toArray = pre.toArray.push o := by rw [he]; simp
  rw [he'] at h ⊢
  generalize pre.toArray = ops at *
  simp only [drawOK, Bool.and_eq_true] at hok
  obtain ⟨⟨⟨⟨⟨hB, ho⟩, hlen⟩, hall⟩, hfl⟩, hds⟩ := hok
  have hn : ∀ (i : Nat) (o : Oper) (d : Nat), ops[i]? = some o → o.dst = some d → d < n := fun i o d hi hd => by
    have := Array.all_eq_true_iff_forall_mem.1 hds o (Array.mem_of_getElem? hi)
    rw [hd] at this
    exact Nat.le_of_ble_eq_true this
  have hEF : ∀ i, Fl.contains i = true → E.contains i = false := fun i hi => by
    have := List.all_eq_true.1 hfl i (by simpa using hi)
    simp only [Bool.and_eq_true, Bool.not_eq_true'] at this
    exact this.1
  have hrep : ∀ j, (Array.replicate ops.size false).getD j true = true → ops.size ≤ j := fun j hj => by
    by_cases hlt : j < ops.size
    · simp [hlt] at hj
    · omega
  obtain ⟨done', rest', l', L', ear', hp, hh⟩ := norm hB hn (listed := Array.replicate ops.size false) (a := a) (w := { w with drawn := w.drawn + 1 }) σ [] l L [] ⟨h, ho, fun i hi => .inr (by simpa using List.all_eq_true.1 hall i (List.mem_range.2 hi)), by rw [List.map_nil, List.append_nil]; exact M.drew _, by simp, by simp, fun j hj hjl => by have := hrep j hjl; omega, by simp, by simp,
    fun j o hj hjl => by have := hrep j hjl; have := (Array.getElem?_eq_some_iff.1 hj).1; omega, F.ds, F.size, fun t v ht => (F.val t v ht).1, fun t v ht => .inl (F.val t v ht).2, by simp⟩
  have h1 := pw_any hB hn hFl hEF ops.size _ a _ (by simp) (by simp [unlisted]) ⟨done', rest', l', L', ear', hp, hh⟩
  have h2 := wpAny_push hB hla ops.size _ a _ (by simp) (fun j oj hj hjl => by have := hrep j hjl; have := (Array.getElem?_eq_some_iff.1 hj).1; omega) h1
  refine wp_region_any mixed ?_
  have e1 : (Array.replicate ops.size false).push false = Array.replicate (ops.push o).size false := by
    rw [Array.size_push, ← Array.replicate_succ]
  rw [e1] at h2
  have e2 : ops.size + 1 = (ops.push o).size := by simp
  rw [e2] at h2
  exact h2
end
end Go.Proofs.YtaggjikjohamjaaGreatDoor
end
section
namespace Go.Proofs.YtaggjikjohamjaaGreatDoor
open Go.RowKit Go.Maps
set_option linter.unusedVariables false
set_option maxRecDepth 100000
set_option linter.unusedSimpArgs false
set_option maxHeartbeats 8000000
section
variable {o : Oper} {n : Nat} {l : List (Nat × Value)} {L : List Asn} {C : Value → List Asn → Prop}
theorem ac_copyMT {α : Type} {f : α → List Value} {x y : Operand} {ats : Array TypeId} {t u : TypeId} (ho : o.op = .call { callee := .builtin .copy, args := #[x, y], argTypes := ats }) (hat : ats = #[t, u]) {e : TypeId} {z : Value} {size bytes : Nat} (ht : ST t e z size bytes) (he : EL f size) {b j dl dc : Nat} (hx : evl l x = some (.slice (some ⟨b, j * size, none⟩) dl dc))
    {v : Value} (hy : evl l y = some v) {ys : List α} {m : Nat} (hg : GS L size v m (ys.flatMap f)) (hm : m = ys.length) {k' : Nat} (hk : Nat.min m dl = k') {cap : Nat} {xs : List α} {hd : SlH} {L' : List Asn} (hp : Pull L (ownT e f size (sl hd) xs) L') (hh : hd = ⟨some ⟨b, 0, none⟩, xs.length, cap⟩) (hj : j + dl ≤ xs.length)
    (h : C (.int .i64 k') (ownT e f size (sl hd) (xs.take j ++ ys.take k' ++ xs.drop (j + k')) :: L')) : AC o l L n C := by
  subst hh; subst hm
  have hk1 : k' ≤ ys.length := by rw [← hk]; exact Nat.min_le_left _ _
  have hk2 : k' ≤ dl := by rw [← hk]; exact Nat.min_le_right _ _
  have hyl : (ys.take k').length = k' := by rw [List.length_take]; omega
  refine ac_copyM ho hat ht hx hy hg (flat_one ys) hk (flat_take he.len ys k') (m := xs.length) (cap := cap) hp hj ?_
  have hl : (xs.take j ++ ys.take k' ++ xs.drop (j + k')).length = xs.length := by simp; omega
  unfold ownT at h
  rw [hl] at h
  have e1 : (xs.flatMap f).take (j * size) ++ (ys.take k').flatMap f ++ (xs.flatMap f).drop (j * size + ((ys.take k').flatMap f).length) = (xs.take j ++ ys.take k' ++ xs.drop (j + k')).flatMap f := by
    rw [flat_lenE he, hyl, ← Nat.add_mul, flat_take he.len, flat_drop he.len]
    simp
  rw [e1]; exact h
theorem rt_fromC {t : TypeId} {x y : Operand} (ho : o.op = .slice t x (some y) none none) {b m c : Nat} (hx : evl l x = some (sl ⟨some ⟨b, 0, none⟩, m, c⟩)) {k : IntKind} {j : Nat} (hy : evl l y = some (.int k (j : Int))) {e : TypeId} {z : Value} {size bytes : Nat} (ht : ST t e z size bytes) (h1 : j ≤ m) (h2 : j < c) : RT o l L n (.slice (some ⟨b, j * size, none⟩) (m - j) (c - j)) := by
  have := rt_from (L := L) (n := n) ho hx hy ht h1
  have e1 : (sl (fromH ⟨some ⟨b, 0, none⟩, m, c⟩ j size)) = .slice (some ⟨b, j * size, none⟩) (m - j) (c - j) := by
    have : ¬ c = j := by omega
    simp [sl, this, Addr.add]
    try (intro h; omega)
  rw [e1] at this
  exact this
theorem gs_toT {α : Type} {f : α → List Value} {k : Nat} {L' : List Asn} {e : TypeId} {h : SlH} {xs : List α} (hp : Pull L (ownT e f k (sl h) xs) L') (he : EL f k) {j : Nat} (hj : j ≤ xs.length) : GS L k (sl ⟨h.a, j, h.c⟩) j ((xs.take j).flatMap f) := fun w M => by
  have := ((gs_own hp) w M).to hj
  rw [flat_take he.len] at this
  exact this
end
theorem mul1_spec (m : Nat) (hm : m < 18446744073709551616) (R : List Asn) : Spec 41 [.int .u64 1, .int .u64 (m : Int)] R fun u L' => u = .tuple [.int .u64 0, .int .u64 (m : Int)].toArray ∧ L' = R := fun G w M => by
  have := Tryz.bits_Mul 1 m (by decide) hm w
  have e1 : 1 * m / 18446744073709551616 = 0 := by omega
  have e2 : 1 * m % 18446744073709551616 = m := by omega
  rw [e1, e2] at this
  refine this.mono ?_
  rintro e w' ⟨rfl, rfl⟩
  exact ⟨_, _, rfl, ⟨rfl, rfl⟩, M⟩
def repL (o : Opn) (c m : Nat) : List Opn := List.replicate c o ++ List.replicate (m - c) (oz 0)
theorem repL_len {o : Opn} {c m : Nat} (h : c ≤ m) : (repL o c m).length = m := by simp [repL]; omega
theorem repeat_spec (h : SlH) (o : Opn) (m : Nat) (hm : m ≤ 1048576) (R : List Asn) : Spec 25 [sl h, .int .i64 (m : Int)] (ownT 35 opL 4 (sl h) [o] :: R) fun u L' => ∃ h, u = sl h ∧ L' = ownT 35 opL 4 (sl h) (List.replicate m o) :: R := by
  have hmu := fun R => mul1_spec m (by omega) R
  have c1 : IntKind.u64.wrap 1 = 1 := by rw [IntKind.wrap_u64]; rfl
  have c2 : IntKind.u64.wrap (m : Int) = (m : Int) := by rw [IntKind.wrap_u64]; omega
  have c3 : IntKind.i64.wrap (m : Int) = (m : Int) := IntWalk.i64_in _ ⟨by omega, by omega⟩
  (intro G w M; refine sx_enter (vs := ([sl h, .int .i64 (m : Int)] : List Value)) Tryz.func25 (n := 48) rfl rfl rfl rfl ?_; intro a F; (try simp only [List.cons_append, List.nil_append] at M))
  (repeat' (first | ((first | refine sv1 F M (h := ?_) (hr := by ((first | (apply rt_conv; (exact rfl); (exact rfl); (exact inferInstance); (exact inferInstance); (first | exact c1 | exact c2 | exact c3))))) | refine pv1 (h := ?_) (hr := by ((first | (apply rt_conv; (exact rfl); (exact rfl); (exact inferInstance); (exact inferInstance); (first | exact c1 | exact c2 | exact c3)))))); (try (clear F a; intro a F))) | (refine sx_nil ?_; (try (replace F := F.filt [0, 1, 4, 5, 6, 7, 8, 10, 26, 37] rfl))) | (refine sv1 F M (h := ?_); clear F a; intro a F) | refine pv1 (h := ?_) | (refine sv3 F M (h := ?_); clear M; intro w M) | (refine sv2 F M (h := ?_); clear F M a; intro nb a w F M) | refine pv3 (h := ?_) | (refine pv2 (h := ?_); intro nb) | ((first | refine svC F M (h := ?_) | refine svC0 F M (h := ?_) | refine pvC (h := ?_) | refine pvC0 (h := ?_)); ((first | ((refine acW (k := 41) (hmu _) ?_); rintro u L' ⟨rfl, rfl⟩) | (refine ac_makeT (f := opL) inferInstance (oz 0) rfl rfl inferInstance rfl (m := m) rfl rfl (by omega) (by omega) ?_; intro nm))); (first | refine ⟨rvsA, ?_⟩ | (clear F M a; intro a w F M) | (clear M; intro w M))) | (refine svK F (h := ?_); clear F a; intro a F) | refine svK0 F (h := ?_) | ((refine sx_guardb F rfl (fun hg => ?_) (fun hg => ?_)) <;> (rw [hg] at F; (try (exact no hg)))) | (refine pvF (h := ?_); intro nb) | refine pvK (h := ?_) | refine pvK0 (h := ?_) | (refine pv_nil ?_; intro a w F M; (try (replace F := F.filt [0, 1, 4, 5, 6, 7, 8, 10, 26, 37] rfl))) | ((fail_if_success (with_reducible first | refine isW ?_ | refine isP ?_ | refine isL ?_)); (first | with_reducible refine sx_region ?_ | ((with_reducible refine isK ?_); (first | refine svT F (h := ?_) | refine svF F (h := ?_) | ((refine svB F (fun hc => ?_) (fun hc => ?_)) <;> (try (exact no hc))))) | ((with_reducible refine isD ?_); (first | (refine svDrawL (id := 9) [7] [] [(7, [0])] [0, 1, 2, 3, 4, 5, 6, 7, 8] F M (h := ?_); clear F M a w))) | with_reducible refine wp_scope_straight ?_ | with_reducible refine wp_label ?_ | go_step))))
  (repeat' (first | (refine sx_nil ?_; (try (replace F := F.filt [0, 1, 4, 5, 6, 7, 8, 10, 26, 37] rfl))) | (refine sv1 F M (h := ?_); clear F a; intro a F) | refine pv1 (h := ?_) | (refine sv3 F M (h := ?_); clear M; intro w M) | (refine sv2 F M (h := ?_); clear F M a; intro nb a w F M) | refine pv3 (h := ?_) | (refine pv2 (h := ?_); intro nb) | ((first | refine svC F M (h := ?_) | refine svC0 F M (h := ?_) | refine pvC (h := ?_) | refine pvC0 (h := ?_)); ((refine ac_copyMT (f := opL) rfl rfl inferInstance inferInstance (b := nm) (j := 0) (dl := m) (dc := m) rfl rfl (ys := [o]) (k' := Nat.min 1 m) gsA rfl rfl (cap := m) (xs := List.replicate m (oz 0)) (hd := ⟨some ⟨nm, 0, none⟩, m, m⟩) pullA (by simp) (by simp) ?_)); (first | refine ⟨rvsA, ?_⟩ | (clear F M a; intro a w F M) | (clear M; intro w M))) | (refine svK F (h := ?_); clear F a; intro a F) | refine svK0 F (h := ?_) | ((refine sx_guardb F rfl (fun hg => ?_) (fun hg => ?_)) <;> (rw [hg] at F; (try (exact no hg)))) | (refine pvF (h := ?_); intro nb) | refine pvK (h := ?_) | refine pvK0 (h := ?_) | (refine pv_nil ?_; intro a w F M; (try (replace F := F.filt [0, 1, 4, 5, 6, 7, 8, 10, 26, 37] rfl))) | ((fail_if_success (with_reducible first | refine isW ?_ | refine isP ?_ | refine isL ?_)); (first | with_reducible refine sx_region ?_ | ((with_reducible refine isK ?_); (first | refine svT F (h := ?_) | refine svF F (h := ?_) | ((refine svB F (fun hc => ?_) (fun hc => ?_)) <;> (try (exact no hc))))) | ((with_reducible refine isD ?_); (first | (refine svDrawL (id := 9) [7] [] [(7, [0])] [0, 1, 2, 3, 4, 5, 6, 7, 8] F M (h := ?_); clear F M a w))) | with_reducible refine wp_scope_straight ?_ | with_reducible refine wp_label ?_ | go_step))))
  have e0 : (List.replicate m (oz 0)).take 0 ++ [o].take (Nat.min 1 m) ++ (List.replicate m (oz 0)).drop (0 + Nat.min 1 m) = repL o (Nat.min 1 m) m := by
    unfold repL
    cases m with
    | zero => rfl
    | succ m => rw [show Nat.min 1 (m + 1) = 1 from Nat.min_eq_left (by omega)]; simp
  rw [e0] at M
  have hk0 : Nat.min 1 m ≤ m ∧ (Nat.min 1 m = 0 → m = 0) := by
    have : Nat.min 1 m = min 1 m := rfl
    omega
  obtain ⟨k0, hk1⟩ : ∃ k0, Nat.min 1 m = k0 := ⟨_, rfl⟩
  rw [hk1] at M hk0
  rw [hk1] at F
  refine svLoop F M k0 (fun c => [(8, .int .i64 c)]) (fun c => [ownT 35 opL 4 (sl ⟨some ⟨nm, 0, none⟩, m, m⟩) (repL o c m)]) (fun c => c ≤ m ∧ (c = 0 → m = 0)) (fun c => m - c) [] hk0 ?_ (hR := by (repeat (first | exact Pulls.nil | (apply Pulls.cons; (focus ((repeat (first | exact Pull.here | apply Pull.there)); done))))))
  (rintro c ⟨q1, q2⟩ a w F M; (try simp only [List.cons_append, List.nil_append] at F M q1 q2 ⊢))
  have hrl := repL_len (o := o) q1
  by_cases hcm : c < m
  · obtain ⟨kk, hkk⟩ : ∃ kk, Nat.min c (m - c) = kk := ⟨_, rfl⟩
    have hk2 : kk ≤ c ∧ kk ≤ m - c ∧ (0 < c → 0 < kk) := by
      have : Nat.min c (m - c) = min c (m - c) := rfl
      omega
    have hstep : (repL o c m).take c ++ ((repL o c m).take c).take kk ++ (repL o c m).drop (c + kk) = repL o (c + kk) m := by
      unfold repL
      have e1 : (List.replicate c o ++ List.replicate (m - c) (oz 0)).take c = List.replicate c o := by
        rw [List.take_append_of_le_length (by simp)]; simp
      have e2 : (List.replicate c o ++ List.replicate (m - c) (oz 0)).drop (c + kk) = List.replicate (m - (c + kk)) (oz 0) := by
        rw [List.drop_append, List.drop_of_length_le (by simp)]; simp; omega
      rw [e1, e2, List.take_replicate, Nat.min_eq_left hk2.1, List.replicate_append_replicate]
    have htl : ((repL o c m).take c).length = c := by rw [List.length_take]; omega
    (repeat' (first | (refine pv1 (h := ?_) (hr := by ((first | (refine rt_fromC (b := nm) (m := m) (c := m) (j := c) (k := .i64) rfl rfl rfl inferInstance q1 hcm) | (refine rt_to (h := ⟨some ⟨nm, 0, none⟩, m, m⟩) (k := .i64) (j := c) rfl rfl rfl inferInstance q1))))) | (refine sx_nil ?_; skip) | (refine sv1 F M (h := ?_); clear F a; intro a F) | refine pv1 (h := ?_) | (refine sv3 F M (h := ?_); clear M; intro w M) | (refine sv2 F M (h := ?_); clear F M a; intro nb a w F M) | refine pv3 (h := ?_) | (refine pv2 (h := ?_); intro nb) | ((first | refine svC F M (h := ?_) | refine svC0 F M (h := ?_) | refine pvC (h := ?_) | refine pvC0 (h := ?_)); ((refine ac_copyMT (f := opL) rfl rfl inferInstance inferInstance (b := nm) (j := c) (dl := m - c) (dc := m - c) rfl rfl (ys := (repL o c m).take c) (gs_toT pullA inferInstance (by omega)) htl.symm hkk (cap := m) (xs := repL o c m) (hd := ⟨some ⟨nm, 0, none⟩, m, m⟩) pullA (by rw [hrl]) (by rw [hrl]; omega) ?_)); (first | refine ⟨rvsA, ?_⟩ | (clear F M a; intro a w F M) | (clear M; intro w M))) | (with_reducible refine ql_open ?_) | (refine svK F (h := ?_); clear F a; intro a F) | refine svK0 F (h := ?_) | ((refine sx_guardb F rfl (fun hg => ?_) (fun hg => ?_)) <;> (rw [hg] at F; (try (exact no hg)))) | (refine pvF (h := ?_); intro nb) | refine pvK (h := ?_) | refine pvK0 (h := ?_) | (refine pv_nil ?_; intro a w F M; skip) | ((fail_if_success (with_reducible first | refine isW ?_ | refine isP ?_ | refine isL ?_)); (first | with_reducible refine sx_region ?_ | ((with_reducible refine isK ?_); (first | refine svT F (h := ?_) | refine svF F (h := ?_) | ((refine svB F (fun hc => ?_) (fun hc => ?_)) <;> (try (exact no hc))))) | ((with_reducible refine isD ?_); (first | (refine svDrawL (id := 9) [7] [] [(7, [0])] [0, 1, 2, 3, 4, 5, 6, 7, 8] F M (h := ?_); clear F M a w))) | with_reducible refine wp_scope_straight ?_ | with_reducible refine wp_label ?_ | go_step))))
    rw [hstep] at M
    have e5 : (c : Int) + (kk : Int) = ((c + kk : Nat) : Int) := by omega
    rw [e5] at F
    exact sv_again F M (c + kk) kpA permsA ⟨by omega, by omega⟩ (by omega)
  · obtain rfl : c = m := by omega
    have e6 : repL o c c = List.replicate c o := by simp [repL]
    rw [e6] at M
    rw [e6] at hrl
    (repeat' (first | (refine sx_nil ?_; (try (replace F := F.filt [0, 1, 4, 5, 6, 7, 8, 10, 26, 37] rfl))) | (refine sv1 F M (h := ?_); clear F a; intro a F) | refine pv1 (h := ?_) | (refine sv3 F M (h := ?_); clear M; intro w M) | (refine sv2 F M (h := ?_); clear F M a; intro nb a w F M) | refine pv3 (h := ?_) | (refine pv2 (h := ?_); intro nb) | ((first | refine svC F M (h := ?_) | refine svC0 F M (h := ?_) | refine pvC (h := ?_) | refine pvC0 (h := ?_)); (fail); (first | refine ⟨rvsA, ?_⟩ | (clear F M a; intro a w F M) | (clear M; intro w M))) | (refine svK F (h := ?_); clear F a; intro a F) | refine svK0 F (h := ?_) | ((refine sx_guardb F rfl (fun hg => ?_) (fun hg => ?_)) <;> (rw [hg] at F; (try (exact no hg)))) | (refine pvF (h := ?_); intro nb) | refine pvK (h := ?_) | refine pvK0 (h := ?_) | (refine pv_nil ?_; intro a w F M; (try (replace F := F.filt [0, 1, 4, 5, 6, 7, 8, 10, 26, 37] rfl))) | ((fail_if_success (with_reducible first | refine isW ?_ | refine isP ?_ | refine isL ?_)); (first | with_reducible refine sx_region ?_ | ((with_reducible refine isK ?_); (first | refine svT F (h := ?_) | refine svF F (h := ?_) | ((refine svB F (fun hc => ?_) (fun hc => ?_)) <;> (try (exact no hc))))) | ((with_reducible refine isD ?_); (first | (refine svDrawL (id := 9) [7] [] [(7, [0])] [0, 1, 2, 3, 4, 5, 6, 7, 8] F M (h := ?_); clear F M a w))) | with_reducible refine wp_scope_straight ?_ | with_reducible refine wp_label ?_ | go_step))))
    all_goals (first | refine svEnd F M ?_ | refine svRet F M ?_)
    all_goals exact ⟨_, _, rfl, ⟨_, rfl, rfl⟩, M.perms permsA⟩
def tickO : Opn := ⟨7, 0, 0, 0⟩
theorem ticks_spec (n : Int) (hn : n ≤ 1048576) (R : List Asn) : Spec 13 [.int .i64 n] R fun u L' => ∃ h, u = sl h ∧ L' = ownT 35 opL 4 (sl h) (List.replicate n.toNat tickO) :: R := by
  have hrp := fun (h : SlH) R => repeat_spec h tickO n.toNat (by omega) R
  have hmx : min (max n 0) 1048576 = (n.toNat : Int) := by omega
  have e1 : (if 0 > n then 0 else n) = (n.toNat : Int) := by split <;> omega
  have e2 : (if (1048576 : Int) < (n.toNat : Int) then 1048576 else (n.toNat : Int)) = (n.toNat : Int) := by split <;> omega
  (intro G w M; refine sx_enter (vs := ([.int .i64 n] : List Value)) Tryz.func13 (n := 9) rfl rfl rfl rfl ?_; intro a F; (try simp only [List.cons_append, List.nil_append] at M))
  (repeat' (first | ((first | refine sv1 F M (h := ?_) (hr := by ((first | (refine rt_max2 rfl rfl e1) | (refine rt_min2 rfl rfl e2)))) | refine pv1 (h := ?_) (hr := by ((first | (refine rt_max2 rfl rfl e1) | (refine rt_min2 rfl rfl e2))))); (try (clear F a; intro a F))) | (refine sx_nil ?_; (try (replace F := F.filt [0, 2] rfl))) | (refine sv1 F M (h := ?_); clear F a; intro a F) | refine pv1 (h := ?_) | (refine sv3 F M (h := ?_); clear M; intro w M) | (refine sv2 F M (h := ?_); clear F M a; intro nb a w F M) | refine pv3 (h := ?_) | (refine pv2 (h := ?_); intro nb) | ((first | refine svC F M (h := ?_) | refine svC0 F M (h := ?_) | refine pvC (h := ?_) | refine pvC0 (h := ?_)); ((refine acK (L1 := ownT 35 opL 4 (sl ⟨some ⟨nb, 0, none⟩, 1, 1⟩) [tickO] :: _) (k := 25) (hrp _ _) ?_; rintro u L' ⟨h, rfl, rfl⟩)); (first | refine ⟨rvsA, ?_⟩ | (clear F M a; intro a w F M) | (clear M; intro w M))) | (refine svK F (h := ?_); clear F a; intro a F) | refine svK0 F (h := ?_) | ((refine sx_guardb F rfl (fun hg => ?_) (fun hg => ?_)) <;> (rw [hg] at F; (try (exact no hg)))) | (refine pvF (h := ?_); intro nb) | refine pvK (h := ?_) | refine pvK0 (h := ?_) | (refine pv_nil ?_; intro a w F M; (try (replace F := F.filt [0, 2] rfl))) | ((fail_if_success (with_reducible first | refine isW ?_ | refine isP ?_ | refine isL ?_)); (first | with_reducible refine sx_region ?_ | ((with_reducible refine isK ?_); (first | refine svT F (h := ?_) | refine svF F (h := ?_) | ((refine svB F (fun hc => ?_) (fun hc => ?_)) <;> (try (exact no hc))))) | ((with_reducible refine isD ?_); fail) | with_reducible refine wp_scope_straight ?_ | with_reducible refine wp_label ?_ | go_step))))
  all_goals (first | refine svEnd F M ?_ | refine svRet F M ?_)
  all_goals exact ⟨_, _, rfl, ⟨_, rfl, rfl⟩, M.perms permsA⟩
end Go.Proofs.YtaggjikjohamjaaGreatDoor
end
section
namespace Go.Proofs.YtaggjikjohamjaaGreatDoor
open Go.RowKit Go.Maps
set_option linter.unusedVariables false
set_option maxRecDepth 100000
set_option linter.unusedSimpArgs false
set_option maxHeartbeats 8000000
theorem gv_tens {L : List Asn} (h : Gives L Laid) : Gives L Tens := fun w M => (h w M).1
/-- deposit 32, tick, exit 0, fly -/
def aTxt : List UInt8 := [100, 101, 112, 111, 115, 105, 116, 32, 51, 50, 10, 116, 105, 99, 107, 10, 101, 120, 105, 116, 32, 48, 10, 102, 108, 121]
def aOps : List Opn := [⟨1, 0, 0, 32⟩, ⟨7, 0, 0, 0⟩, ⟨2, 0, 0, 0⟩, ⟨0, 0, 0, 0⟩]
/-- partial 3 7 -/
def aLin : List UInt8 := [112, 97, 114, 116, 105, 97, 108, 32, 51, 32, 55]
theorem a_read : readM aTxt = aOps := by decide +kernel
theorem a_fmt : fmtM ⟨6, 3, 0, 7⟩ = aLin := by decide +kernel
theorem alive20_spec (R : List Asn) (hm : Gives R MxL) (hL : Gives R Laid) : Spec 4 [] R fun u L' => u = .bool true ∧ L' = R := by
  have hrd := fun R hm hL => read_spec aTxt (by decide) R hm hL
  rw [a_read] at hrd
  have hfm := fun R hT => fmt_spec ⟨6, 3, 0, 7⟩ ⟨by decide, by decide⟩ ⟨⟨by decide, by decide⟩, ⟨by decide, by decide⟩, by decide, by decide⟩ R hT
  rw [a_fmt] at hfm
  have hsm := fun (v1 v2 : Value) R g1 g2 => same_spec v1 v2 aOps aOps R g1 g2
  rw [decide_eq_true (rfl : aOps = aOps)] at hsm
  have hct := fun (v : Value) R hg => count_spec v aOps 7 R hg
  rw [show cntK aOps 7 = 1 by decide] at hct
  have htk := fun R => ticks_spec 3 (by decide) R
  (intro G w M; refine sx_enter (vs := ([] : List Value)) Tryz.func4 (n := 25) rfl rfl rfl rfl ?_; intro a F; (try simp only [List.cons_append, List.nil_append] at M))
  have hm2 : Gives (R ++ G) MxL := Gives.app hm
  have hL2 : Gives (R ++ G) Laid := Gives.app hL
  have hT2 : Gives (R ++ G) Tens := gv_tens hL2
  (repeat' (first | (refine sx_nil ?_; (try (replace F := F.filt [0, 1] rfl))) | (refine sv1 F M (h := ?_); clear F a; intro a F) | refine pv1 (h := ?_) | (refine sv3 F M (h := ?_); clear M; intro w M) | (refine sv2 F M (h := ?_); clear F M a; intro nb a w F M) | refine pv3 (h := ?_) | (refine pv2 (h := ?_); intro nb) | ((first | refine svC F M (h := ?_) | refine svC0 F M (h := ?_) | refine pvC (h := ?_) | refine pvC0 (h := ?_)); ((first | ((refine acW (k := 10) (hrd _ ?_ ?_) ?_); (exact gvA); (exact gvA); rintro u L' ⟨h, rfl, rfl⟩) | ((refine acW (k := 8) (hsm _ _ _ ?_ ?_) ?_); (exact gs_own pullA); (exact gs_own pullA); rintro u L' ⟨rfl, rfl⟩) | ((refine acW (k := 11) (hfm _ ?_) ?_); (exact gvA); rintro u L' ⟨rfl, rfl⟩) | ((refine acW (k := 12) (hct _ _ ?_) ?_); (exact gs_own pullA); rintro u L' ⟨rfl, rfl⟩) | ((refine acW (k := 13) (htk _) ?_); rintro u L' ⟨h2, rfl, rfl⟩))); (first | refine ⟨rvsA, ?_⟩ | (clear F M a; intro a w F M) | (clear M; intro w M))) | (refine svK F (h := ?_); clear F a; intro a F) | refine svK0 F (h := ?_) | ((refine sx_guardb F rfl (fun hg => ?_) (fun hg => ?_)) <;> (rw [hg] at F; (try (exact no hg)))) | (refine pvF (h := ?_); intro nb) | refine pvK (h := ?_) | refine pvK0 (h := ?_) | (refine pv_nil ?_; intro a w F M; (try (replace F := F.filt [0, 1] rfl))) | ((fail_if_success (with_reducible first | refine isW ?_ | refine isP ?_ | refine isL ?_)); (first | with_reducible refine sx_region ?_ | ((with_reducible refine isK ?_); (first | refine svT F (h := ?_) | refine svF F (h := ?_) | ((refine svB F (fun hc => ?_) (fun hc => ?_)) <;> (try (exact no hc))))) | ((with_reducible refine isD ?_); fail) | with_reducible refine wp_scope_straight ?_ | with_reducible refine wp_label ?_ | go_step))))
  all_goals (first | refine svEnd F M ?_ | refine svRet F M ?_)
  all_goals exact ⟨_, _, rfl, ⟨rfl, rfl⟩, M.perms permsA⟩
section
variable (h : SlH) (bs : List UInt8) (R : List Asn) (hg : BG R h bs) (hm : Gives R MxL) (hL : Gives R Laid)
include hg hm hL
end
end Go.Proofs.YtaggjikjohamjaaGreatDoor
end
