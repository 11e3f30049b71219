import Derived.Test.YtopbohbkhljjgaaGreatAudAc
set_option linter.unusedVariables false
set_option linter.unusedSimpArgs false
section
namespace Go.Proofs.YtopbohbkhljjgaaGreat
open Go.RowKit
set_option linter.unusedVariables false
set_option maxRecDepth 100000
set_option linter.unusedSimpArgs false
set_option maxHeartbeats 4000000
abbrev cuC (b : Nat) (at' : Nat) : Asn := pt b [.int .i64 (at' : Int)] 193
theorem cu_new (R : List Asn) : Spec 57 [] R fun u L' => ∃ b, u = ptr b ∧ L' = cuC b 0 :: R := by
  (intro G w M; refine sx_enter (vs := ([] : List Value)) Tryz.func57 (n := 3) rfl rfl rfl rfl ?_; intro a F; (try simp only [List.cons_append, List.nil_append] at M))
  (repeat' (first | (refine sx_nil ?_; (try (replace F := F.filt [0] rfl))) | (refine sv1 F M (h := ?_); clear F a; intro a F) | refine pv1 (h := ?_) | (refine sv3 F M (h := ?_); clear M; intro w M) | (refine sv2 F M (h := ?_); clear F M a; intro nb a w F M) | refine pv3 (h := ?_) | (refine pv2 (h := ?_); intro nb) | ((first | refine svC F M (h := ?_) | refine svC0 F M (h := ?_) | refine pvC (h := ?_) | refine pvC0 (h := ?_)); (fail); (first | refine ⟨rvsA, ?_⟩ | (clear F M a; intro a w F M) | (clear M; intro w M))) | (refine svK F (h := ?_); clear F a; intro a F) | refine svK0 F (h := ?_) | ((refine sx_guardb F rfl (fun hg => ?_) (fun hg => ?_)) <;> (rw [hg] at F; (try (exact no hg)))) | (refine pvF (h := ?_); intro nb) | refine pvK (h := ?_) | refine pvK0 (h := ?_) | (refine pv_nil ?_; intro a w F M; (try (replace F := F.filt [0] rfl))) | ((fail_if_success (with_reducible first | refine isW ?_ | refine isP ?_ | refine isL ?_)); (first | with_reducible refine sx_region ?_ | ((with_reducible refine isK ?_); (first | refine svT F (h := ?_) | refine svF F (h := ?_) | ((refine svB F (fun hc => ?_) (fun hc => ?_)) <;> (try (exact no hc))))) | ((with_reducible refine isD ?_); fail) | with_reducible refine wp_scope_straight ?_ | with_reducible refine wp_label ?_ | go_step))))
  (all_goals ((first | refine svEnd F M ?_ | refine svRet F M ?_); exact ⟨_, _, rfl, ⟨nb, rfl, rfl⟩, M.perms permsA⟩))
theorem cu_at (b at' : Nat) (R : List Asn) : Spec 84 [ptr b] (cuC b at' :: R) fun u L' => u = .int .i64 at' ∧ L' = cuC b at' :: R := by
  (intro G w M; refine sx_enter (vs := ([ptr b] : List Value)) Tryz.func84 (n := 9) rfl rfl rfl rfl ?_; intro a F; (try simp only [List.cons_append, List.nil_append] at M))
  (repeat' (first | (refine sx_nil ?_; (try (replace F := F.filt [0, 2, 4] rfl))) | (refine sv1 F M (h := ?_); clear F a; intro a F) | refine pv1 (h := ?_) | (refine sv3 F M (h := ?_); clear M; intro w M) | (refine sv2 F M (h := ?_); clear F M a; intro nb a w F M) | refine pv3 (h := ?_) | (refine pv2 (h := ?_); intro nb) | ((first | refine svC F M (h := ?_) | refine svC0 F M (h := ?_) | refine pvC (h := ?_) | refine pvC0 (h := ?_)); (fail); (first | refine ⟨rvsA, ?_⟩ | (clear F M a; intro a w F M) | (clear M; intro w M))) | (refine svK F (h := ?_); clear F a; intro a F) | refine svK0 F (h := ?_) | ((refine sx_guardb F rfl (fun hg => ?_) (fun hg => ?_)) <;> (rw [hg] at F; (try (exact no hg)))) | (refine pvF (h := ?_); intro nb) | refine pvK (h := ?_) | refine pvK0 (h := ?_) | (refine pv_nil ?_; intro a w F M; (try (replace F := F.filt [0, 2, 4] rfl))) | ((fail_if_success (with_reducible first | refine isW ?_ | refine isP ?_ | refine isL ?_)); (first | with_reducible refine sx_region ?_ | ((with_reducible refine isK ?_); (first | refine svT F (h := ?_) | refine svF F (h := ?_) | ((refine svB F (fun hc => ?_) (fun hc => ?_)) <;> (try (exact no hc))))) | ((with_reducible refine isD ?_); fail) | with_reducible refine wp_scope_straight ?_ | with_reducible refine wp_label ?_ | go_step))))
  (all_goals ((first | refine svEnd F M ?_ | refine svRet F M ?_); exact ⟨_, _, rfl, ⟨rfl, rfl⟩, M.perms permsA⟩))
theorem ln_new (size : Nat) (h : 1 ≤ size ∧ size ≤ 4096) (R : List Asn) : Spec 59 [.int .i64 size] R fun u L' => ∃ b r0 r1, u = ptr b ∧ L' = lnP b r0 r1 size [] [] R := by
  obtain ⟨h1, h2⟩ := h
  (intro G w M; refine sx_enter (vs := ([.int .i64 size] : List Value)) Tryz.func59 (n := 26) rfl rfl rfl rfl ?_; intro a F; (try simp only [List.cons_append, List.nil_append] at M))
  (repeat' (first | (refine sx_nil ?_; (try (replace F := F.filt [0, 2, 3, 4, 10, 13, 14] rfl))) | (refine sv1 F M (h := ?_); clear F a; intro a F) | refine pv1 (h := ?_) | (refine sv3 F M (h := ?_); clear M; intro w M) | (refine sv2 F M (h := ?_); clear F M a; intro nb a w F M) | refine pv3 (h := ?_) | (refine pv2 (h := ?_); intro nb) | ((first | refine svC F M (h := ?_) | refine svC0 F M (h := ?_) | refine pvC (h := ?_) | refine pvC0 (h := ?_)); (fail); (first | refine ⟨rvsA, ?_⟩ | (clear F M a; intro a w F M) | (clear M; intro w M))) | (refine svK F (h := ?_); clear F a; intro a F) | refine svK0 F (h := ?_) | ((refine sx_guardb F rfl (fun hg => ?_) (fun hg => ?_)) <;> (rw [hg] at F; (try (exact no hg)))) | (refine pvF (h := ?_); intro nb) | refine pvK (h := ?_) | refine pvK0 (h := ?_) | (refine pv_nil ?_; intro a w F M; (try (replace F := F.filt [0, 2, 3, 4, 10, 13, 14] rfl))) | ((fail_if_success (with_reducible first | refine isW ?_ | refine isP ?_ | refine isL ?_)); (first | with_reducible refine sx_region ?_ | ((with_reducible refine isK ?_); (first | refine svT F (h := ?_) | refine svF F (h := ?_) | ((refine svB F (fun hc => ?_) (fun hc => ?_)) <;> (try (exact no hc))))) | ((with_reducible refine isD ?_); (first | (refine svDraw (id := 7) [3, 8] [] [(3, [0, 1, 4, 5, 6])] [0, 1, 2, 4, 5, 6, 3, 7, 8] F M (h := ?_); clear F M a w))) | with_reducible refine wp_scope_straight ?_ | with_reducible refine wp_label ?_ | go_step))))
  have e1 : ¬ ((1 : Nat) ≤ 0) := by omega
  have e2 : ¬ ((2 : Nat) ≤ 0) := by omega
  have e3 : ¬ ((2 : Nat) ≤ 1) := by omega
  have e4 : (1 : Nat) ≤ 2 := by omega
  refine svLoop F M ((0, 0, 0) : Nat × Nat × Nat) (fun z => [(13, .int .i64 z.1)]) (fun z => pt nb [if 1 ≤ z.1 then ptr z.2.1 else .pointer none, if 2 ≤ z.1 then ptr z.2.2 else .pointer none] 204 :: ((if 1 ≤ z.1 then [rgnA z.2.1 size []] else []) ++ (if 2 ≤ z.1 then [rgnA z.2.2 size []] else []))) (fun z => z.1 ≤ 2) (fun z => 2 - z.1) [] (by simp) ?_ (hR := by simp only [e1, e2, if_false, List.append_nil]; (repeat (first | exact Pulls.nil | (apply Pulls.cons; (focus ((repeat (first | exact Pull.here | apply Pull.there)); done))))))
  (rintro ⟨k, r0, r1⟩ q1 a w F M; (try simp only [List.cons_append, List.nil_append] at F M q1 ⊢))
  try dsimp only at q1
  rcases (by omega : k = 0 ∨ k = 1 ∨ k = 2) with rfl | rfl | rfl
  · simp only [e1, e2, if_false, List.append_nil, List.nil_append, List.cons_append] at M
    (repeat' (first | (refine sx_nil ?_; (try (replace F := F.filt [0, 2, 3, 4, 10, 13, 14] rfl))) | (refine sv1 F M (h := ?_); clear F a; intro a F) | refine pv1 (h := ?_) | (refine sv3 F M (h := ?_); clear M; intro w M) | (refine sv2 F M (h := ?_); clear F M a; intro nb a w F M) | refine pv3 (h := ?_) | (refine pv2 (h := ?_); intro nb) | ((first | refine svC F M (h := ?_) | refine svC0 F M (h := ?_) | refine pvC (h := ?_) | refine pvC0 (h := ?_)); (((refine acW (k := 60) (rgn_new size ⟨h1, h2⟩ _) ?_); rintro u L' ⟨r, rfl, rfl⟩)); (first | refine ⟨rvsA, ?_⟩ | (clear F M a; intro a w F M) | (clear M; intro w M))) | (refine svK F (h := ?_); clear F a; intro a F) | refine svK0 F (h := ?_) | ((refine sx_guardb F rfl (fun hg => ?_) (fun hg => ?_)) <;> (rw [hg] at F; (try (exact no hg)))) | (refine pvF (h := ?_); intro nb) | refine pvK (h := ?_) | refine pvK0 (h := ?_) | (refine pv_nil ?_; intro a w F M; (try (replace F := F.filt [0, 2, 3, 4, 10, 13, 14] rfl))) | ((fail_if_success (with_reducible first | refine isW ?_ | refine isP ?_ | refine isL ?_)); (first | with_reducible refine sx_region ?_ | ((with_reducible refine isK ?_); (first | refine svT F (h := ?_) | refine svF F (h := ?_) | ((refine svB F (fun hc => ?_) (fun hc => ?_)) <;> (try (exact no hc))))) | ((with_reducible refine isD ?_); (first | (refine svDraw (id := 7) [3, 8] [] [(3, [0, 1, 4, 5, 6])] [0, 1, 2, 4, 5, 6, 3, 7, 8] F M (h := ?_); clear F M a w))) | with_reducible refine wp_scope_straight ?_ | with_reducible refine wp_label ?_ | go_step))))
    exact sv_again F M (1, r, 0) kpA (by simp only [Nat.le_refl, e3, if_true, if_false, List.cons_append, List.append_nil, List.nil_append]; exact permsA) (by dsimp only; omega) (by dsimp only; omega)
  · simp only [Nat.le_refl, e3, if_true, if_false, List.append_nil, List.nil_append, List.cons_append] at M
    (repeat' (first | (refine sx_nil ?_; (try (replace F := F.filt [0, 2, 3, 4, 10, 13, 14] rfl))) | (refine sv1 F M (h := ?_); clear F a; intro a F) | refine pv1 (h := ?_) | (refine sv3 F M (h := ?_); clear M; intro w M) | (refine sv2 F M (h := ?_); clear F M a; intro nb a w F M) | refine pv3 (h := ?_) | (refine pv2 (h := ?_); intro nb) | ((first | refine svC F M (h := ?_) | refine svC0 F M (h := ?_) | refine pvC (h := ?_) | refine pvC0 (h := ?_)); (((refine acW (k := 60) (rgn_new size ⟨h1, h2⟩ _) ?_); rintro u L' ⟨r, rfl, rfl⟩)); (first | refine ⟨rvsA, ?_⟩ | (clear F M a; intro a w F M) | (clear M; intro w M))) | (refine svK F (h := ?_); clear F a; intro a F) | refine svK0 F (h := ?_) | ((refine sx_guardb F rfl (fun hg => ?_) (fun hg => ?_)) <;> (rw [hg] at F; (try (exact no hg)))) | (refine pvF (h := ?_); intro nb) | refine pvK (h := ?_) | refine pvK0 (h := ?_) | (refine pv_nil ?_; intro a w F M; (try (replace F := F.filt [0, 2, 3, 4, 10, 13, 14] rfl))) | ((fail_if_success (with_reducible first | refine isW ?_ | refine isP ?_ | refine isL ?_)); (first | with_reducible refine sx_region ?_ | ((with_reducible refine isK ?_); (first | refine svT F (h := ?_) | refine svF F (h := ?_) | ((refine svB F (fun hc => ?_) (fun hc => ?_)) <;> (try (exact no hc))))) | ((with_reducible refine isD ?_); (first | (refine svDraw (id := 7) [3, 8] [] [(3, [0, 1, 4, 5, 6])] [0, 1, 2, 4, 5, 6, 3, 7, 8] F M (h := ?_); clear F M a w))) | with_reducible refine wp_scope_straight ?_ | with_reducible refine wp_label ?_ | go_step))))
    exact sv_again F M (2, r0, r) kpA (by simp only [Nat.le_refl, e4, if_true, if_false, List.cons_append, List.append_nil, List.nil_append]; exact permsA) (by dsimp only; omega) (by dsimp only; omega)
  · simp only [Nat.le_refl, e4, if_true, List.append_nil, List.nil_append, List.cons_append] at M
    (repeat' (first | (refine sx_nil ?_; (try (replace F := F.filt [0, 2, 3, 4, 10, 13, 14] rfl))) | (refine sv1 F M (h := ?_); clear F a; intro a F) | refine pv1 (h := ?_) | (refine sv3 F M (h := ?_); clear M; intro w M) | (refine sv2 F M (h := ?_); clear F M a; intro nb a w F M) | refine pv3 (h := ?_) | (refine pv2 (h := ?_); intro nb) | ((first | refine svC F M (h := ?_) | refine svC0 F M (h := ?_) | refine pvC (h := ?_) | refine pvC0 (h := ?_)); (fail); (first | refine ⟨rvsA, ?_⟩ | (clear F M a; intro a w F M) | (clear M; intro w M))) | (refine svK F (h := ?_); clear F a; intro a F) | refine svK0 F (h := ?_) | ((refine sx_guardb F rfl (fun hg => ?_) (fun hg => ?_)) <;> (rw [hg] at F; (try (exact no hg)))) | (refine pvF (h := ?_); intro nb) | refine pvK (h := ?_) | refine pvK0 (h := ?_) | (refine pv_nil ?_; intro a w F M; (try (replace F := F.filt [0, 2, 3, 4, 10, 13, 14] rfl))) | ((fail_if_success (with_reducible first | refine isW ?_ | refine isP ?_ | refine isL ?_)); (first | with_reducible refine sx_region ?_ | ((with_reducible refine isK ?_); (first | refine svT F (h := ?_) | refine svF F (h := ?_) | ((refine svB F (fun hc => ?_) (fun hc => ?_)) <;> (try (exact no hc))))) | ((with_reducible refine isD ?_); (first | (refine svDraw (id := 7) [3, 8] [] [(3, [0, 1, 4, 5, 6])] [0, 1, 2, 4, 5, 6, 3, 7, 8] F M (h := ?_); clear F M a w))) | with_reducible refine wp_scope_straight ?_ | with_reducible refine wp_label ?_ | go_step))))
    (all_goals ((first | refine svEnd F M ?_ | refine svRet F M ?_); exact ⟨_, _, rfl, ⟨nb, r0, r1, rfl, rfl⟩, M.perms permsA⟩))
/-- Where the parts of an engine lie. -/
structure EH where
  rg : Nat
  ck : Nat
  ld : Nat
  bo : Nat
  lv : SlH
  cu : Nat
  mt : Nat
  ln : Nat
  r0 : Nat
  r1 : Nat
  pe : Nat
  me : Nat
  pa : Nat
def engC (H : EH) (c : Cfg) : List Value := [ptr H.rg, .int .i64 c.capacity, .int .i64 c.queueSize, .int .u64 c.minDeposit, .int .u64 c.maxDeposit, .int .u64 c.supplyCap, .int .u64 c.minBalance, .int .u64 c.maxBalance, .int .u64 c.minChurn, .int .u64 c.quotient, .int .u64 c.forcedCap,
  .int .i64 c.unbonding, .int .i64 c.slashDelay, .int .i64 c.ringLen, .int .i64 c.epochLen, .int .i64 c.visits, .int .i64 c.payments, .int .i64 c.partials, .int .i64 c.merges, .int .u64 c.penNum, .int .u64 c.penDen,
  ptr H.ck, ptr H.ld, ptr H.bo, sl H.lv, ptr H.cu, ptr H.mt, ptr H.ln, ptr H.pe, ptr H.me, ptr H.pa]
abbrev qS (c : Cfg) : Nat := c.queueSize.toNat
abbrev engL (b : Nat) (H : EH) (c : Cfg) (s : St) (R : List Asn) : List Asn :=
  pt b (engC H c) 132 :: regA H.rg c.capacity s.V :: ckC H.ck s.bk c.epochLen :: ldC H.ld s.dep s.pd s.bu c.supplyCap :: bkA H.bo c.ringLen.toNat s.bo :: ownT 3 natL 1 (sl H.lv) s.lv :: cuC H.cu s.at' :: mtA H.mt s.ca ::
  lnC H.ln H.r0 H.r1 :: rgnA H.r0 (qS c) s.fo :: rgnA H.r1 (qS c) s.vo :: rgnA H.pe (qS c) s.pe :: rgpA H.me (qS c) s.me :: rgqA H.pa (qS c) s.pa :: R
theorem eng_new (c : Cfg) (hc : CfOk c) (hk : checkF c = 0) (R : List Asn) : Spec 28 [cfgV c] R fun u L' => ∃ b H, u = .tuple [ptr b, .int .i64 0].toArray ∧ L' = engL b H c St.ini R := by
  have q1 := hc.qs
  have q2 := hc.rl
  obtain ⟨qs, hqs⟩ : ∃ qs : Nat, c.queueSize = qs := ⟨c.queueSize.toNat, by omega⟩
  obtain ⟨rl, hrl⟩ : ∃ rl : Nat, c.ringLen = rl := ⟨c.ringLen.toNat, by omega⟩
  have hq : qS c = qs := by simp only [qS, hqs, Int.toNat_natCast]
  have hr : c.ringLen.toNat = rl := by rw [hrl, Int.toNat_natCast]
  have n1 : ∀ R, Spec 60 [.int .i64 c.queueSize] R fun u L' => ∃ b, u = ptr b ∧ L' = rgnA b (qS c) [] :: R := fun R => by rw [hq, hqs]; exact rgn_new qs (by omega) R
  have n2 : ∀ R, Spec 61 [.int .i64 c.queueSize] R fun u L' => ∃ b, u = ptr b ∧ L' = rgpA b (qS c) [] :: R := fun R => by rw [hq, hqs]; exact rgp_new qs (by omega) R
  have n3 : ∀ R, Spec 62 [.int .i64 c.queueSize] R fun u L' => ∃ b, u = ptr b ∧ L' = rgqA b (qS c) [] :: R := fun R => by rw [hq, hqs]; exact rgq_new qs (by omega) R
  have n4 : ∀ R, Spec 59 [.int .i64 c.queueSize] R fun u L' => ∃ b r0 r1, u = ptr b ∧ L' = lnP b r0 r1 (qS c) [] [] R := fun R => by rw [hq, hqs]; exact ln_new qs (by omega) R
  have n5 : ∀ R, Spec 56 [.int .i64 c.ringLen] R fun u L' => ∃ b, u = ptr b ∧ L' = bkA b c.ringLen.toNat [] :: R := fun R => by rw [hr, hrl]; exact bk_new rl R (by omega)
  have hv := fun R => valid_spec c R
  rw [hk] at hv
  (intro G w M; refine sx_enter (vs := ([cfgV c] : List Value)) Tryz.func28 (n := 37) rfl rfl rfl rfl ?_; intro a F; (try simp only [List.cons_append, List.nil_append] at M))
  (repeat' (first | (refine sx_nil ?_; (try (replace F := F.filt [0, 1, 2, 3, 6] rfl))) | (refine sv1 F M (h := ?_); clear F a; intro a F) | refine pv1 (h := ?_) | (refine sv3 F M (h := ?_); clear M; intro w M) | (refine sv2 F M (h := ?_); clear F M a; intro nb a w F M) | refine pv3 (h := ?_) | (refine pv2 (h := ?_); intro nb) | ((first | refine svC F M (h := ?_) | refine svC0 F M (h := ?_) | refine pvC (h := ?_) | refine pvC0 (h := ?_)); ((first | ((refine acW (k := 52) (hv _) ?_); rintro u L' ⟨rfl, rfl⟩) | ((refine acW (k := 53) (reg_new c.capacity _ hc.ca) ?_); rintro u L' ⟨rg, rfl, rfl⟩) | ((refine acW (k := 54) (clk_new c.epochLen hc.el _) ?_); rintro u L' ⟨ck, rfl, rfl⟩) | ((refine acW (k := 55) (led_new c.supplyCap _) ?_); rintro u L' ⟨ld, rfl, rfl⟩) | ((refine acW (k := 56) (n5 _) ?_); rintro u L' ⟨bo, rfl, rfl⟩) | ((refine acW (k := 57) (cu_new _) ?_); rintro u L' ⟨cu, rfl, rfl⟩) | ((refine acW (k := 58) (mt_new _) ?_); rintro u L' ⟨mt, rfl, rfl⟩) | ((refine acW (k := 59) (n4 _) ?_); rintro u L' ⟨ln, r0, r1, rfl, rfl⟩) | ((refine acW (k := 60) (n1 _) ?_); rintro u L' ⟨pe, rfl, rfl⟩) | ((refine acW (k := 61) (n2 _) ?_); rintro u L' ⟨me, rfl, rfl⟩) | ((refine acW (k := 62) (n3 _) ?_); rintro u L' ⟨pa, rfl, rfl⟩))); (first | refine ⟨rvsA, ?_⟩ | (clear F M a; intro a w F M) | (clear M; intro w M))) | (refine svK F (h := ?_); clear F a; intro a F) | refine svK0 F (h := ?_) | ((refine sx_guardb F rfl (fun hg => ?_) (fun hg => ?_)) <;> (rw [hg] at F; (try (exact no hg)))) | (refine pvF (h := ?_); intro nb) | refine pvK (h := ?_) | refine pvK0 (h := ?_) | (refine pv_nil ?_; intro a w F M; (try (replace F := F.filt [0, 1, 2, 3, 6] rfl))) | ((fail_if_success (with_reducible first | refine isW ?_ | refine isP ?_ | refine isL ?_)); (first | with_reducible refine sx_region ?_ | ((with_reducible refine isK ?_); (first | refine svT F (h := ?_) | refine svF F (h := ?_) | ((refine svB F (fun hc => ?_) (fun hc => ?_)) <;> (try (exact no hc))))) | ((with_reducible refine isD ?_); (first | (refine svDraw (id := 3) [2, 7, 10, 13, 14, 15, 18, 21, 24, 27, 29] [] [(2, [4, 5, 6, 8, 9, 11, 12, 16, 17, 19, 20, 22, 23, 25, 26]), (7, [4, 8, 9, 11, 12, 16, 17, 19, 20, 22, 23, 25, 26, 3]), (10, [4, 11, 12, 16, 17, 19, 20, 22, 23, 25, 26, 3]), (13, [4, 16, 17, 19, 20, 22, 23, 25, 26, 3]), (14, [4, 16, 17, 19, 20, 22, 23, 25, 26, 3]), (15, [4, 16, 17, 19, 20, 22, 23, 25, 26, 3]), (18, [4, 19, 20, 22, 23, 25, 26, 3]), (21, [4, 22, 23, 25, 26, 3]), (24, [4, 25, 26, 3]), (27, [4, 3])] [0, 1, 4, 5, 6, 8, 9, 11, 12, 16, 17, 19, 20, 22, 23, 25, 26, 2, 3, 7, 10, 13, 14, 15, 18, 21, 24, 27, 28, 29, 30, 31] F M (h := ?_); clear F M a w))) | with_reducible refine wp_scope_straight ?_ | with_reducible refine wp_label ?_ | go_step))))
  all_goals (first | refine svEnd F M ?_ | refine svRet F M ?_)
  replace M := M.own_nil 3 1
  exact ⟨_, _, rfl, ⟨nb, ⟨rg, ck, ld, bo, nilH, cu, mt, ln, r0, r1, pe, me, pa⟩, rfl, rfl⟩, M.perms permsA⟩
end Go.Proofs.YtopbohbkhljjgaaGreat
end
section
namespace Go.Proofs.YtopbohbkhljjgaaGreat
open Go.RowKit
set_option linter.unusedVariables false
set_option maxRecDepth 100000
set_option linter.unusedSimpArgs false
set_option maxHeartbeats 4000000
/-- A snapshot's numbers; its slices' words. -/
structure Sn where
  bk : Int
  ep : Int
  dep : Int
  pd : Int
  bu : Int
  ac : Int
  at' : Int
  ca : Int
  un : Int
  hV : SlH
  hP : SlH
  hF : SlH
  hO : SlH
  hM : SlH
  hQ : SlH
def snL (x : Sn) : List Value := [.int .i64 x.bk, .int .i64 x.ep, sl x.hV, .int .u64 x.dep, .int .u64 x.pd, .int .u64 x.bu, .int .u64 x.ac, sl x.hP, sl x.hF, sl x.hO, sl x.hM, sl x.hQ, .int .i64 x.at', .int .u64 x.ca, .int .i64 x.un]
abbrev snV (x : Sn) : Value := .agg (snL x).toArray
/-- The numbers of a state's snapshot. -/
def snOf (c : Cfg) (s : St) (hV hP hF hO hM hQ : SlH) : Sn := ⟨s.bk, epo c s, s.dep, s.pd, s.bu, actv s.V, s.at', s.ca, s.bo.length, hV, hP, hF, hO, hM, hQ⟩
theorem actv_le : ∀ (V : List Val), (∀ x ∈ bals V, 0 ≤ x) → 0 ≤ actv V ∧ actv V ≤ (bals V).sum
  | [], _ => by simp [actv, bals]
  | v :: V, h => by
    have h1 : ∀ x ∈ bals V, 0 ≤ x := fun x hx => h x (List.mem_cons_of_mem _ hx)
    have := actv_le V h1
    have h0 : 0 ≤ v.bal := h v.bal (List.mem_cons_self ..)
    have e1 : (bals (v :: V)).sum = v.bal + (bals V).sum := rfl
    have e2 : actv (v :: V) = if v.live = true then v.bal + actv V else actv V := by
      unfold actv bals; rw [List.filter_cons]; split <;> rfl
    rw [e1, e2]; split <;> omega
theorem snap_spec (b : Nat) (H : EH) (c : Cfg) (s : St) (hc : CfOk c) (hi : Inv c s) (R : List Asn) : Spec 33 [ptr b] (engL b H c s R) fun u L' => ∃ hV hP hF hO hM hQ, u = snV (snOf c s hV hP hF hO hM hQ) ∧ L' = ownT 48 valL 7 (sl hV) s.V :: ownT 3 natL 1 (sl hP) s.pe :: ownT 3 natL 1 (sl hF) s.fo :: ownT 3 natL 1 (sl hO) s.vo :: ownT 89 prL 2 (sl hM) s.me :: ownT 91 rqL 2 (sl hQ) s.pa :: engL b H c s R := by
  have hcap := hi.cap
  have hca := hc.ca
  have hqs := hc.qs
  obtain ⟨l1, l2, l3, l4, l5⟩ := hi.ql
  have hac := actv_le s.V hi.bal0
  have hsup := hi.sup
  have hsc := hc.sc
  have hbk := hi.bk
  (intro G w M; refine sx_enter (vs := ([ptr b] : List Value)) Tryz.func33 (n := 81) rfl rfl rfl rfl ?_; intro a F; (try simp only [List.cons_append, List.nil_append] at M))
  (repeat' (first | (refine sx_nil ?_; (try (replace F := F.filt [0, 2, 3, 5] rfl))) | (refine sv1 F M (h := ?_); clear F a; intro a F) | refine pv1 (h := ?_) | (refine sv3 F M (h := ?_); clear M; intro w M) | (refine sv2 F M (h := ?_); clear F M a; intro nb a w F M) | refine pv3 (h := ?_) | (refine pv2 (h := ?_); intro nb) | ((first | refine svC F M (h := ?_) | refine svC0 F M (h := ?_) | refine pvC (h := ?_) | refine pvC0 (h := ?_)); ((first | ((refine acK (k := 77) (led_totals H.ld s.dep s.pd s.bu c.supplyCap _) ?_); rintro u L' ⟨rfl, rfl⟩) | ((refine acK (k := 73) (clk_block H.ck s.bk c.epochLen _) ?_); rintro u L' ⟨rfl, rfl⟩) | ((refine acK (k := 74) (clk_epoch H.ck s.bk c.epochLen hc.el (by omega) _) ?_); rintro u L' ⟨rfl, rfl⟩) | ((refine acK (k := 78) (reg_all H.rg c.capacity s.V (by omega) _) ?_); rintro u L' ⟨hV, rfl, rfl⟩) | ((refine acK (k := 79) (reg_active H.rg c.capacity s.V _ ⟨by omega, by omega⟩) ?_); rintro u L' ⟨rfl, rfl⟩) | ((refine acK (k := 80) (rgn_all H.pe (qS c) s.pe (by omega) _) ?_); rintro u L' ⟨hP, rfl, rfl⟩) | ((refine acK (k := 81) (lall0 H.ln H.r0 H.r1 (qS c) s.fo s.vo _ (by omega)) ?_); rintro u L' ⟨hF, rfl, rfl⟩) | ((refine acK (k := 81) (lall1 H.ln H.r0 H.r1 (qS c) s.fo s.vo _ (by omega)) ?_); rintro u L' ⟨hO, rfl, rfl⟩) | ((refine acK (k := 82) (rgp_all H.me (qS c) s.me (by omega) _) ?_); rintro u L' ⟨hM, rfl, rfl⟩) | ((refine acK (k := 83) (rgq_all H.pa (qS c) s.pa (by omega) _) ?_); rintro u L' ⟨hQ, rfl, rfl⟩) | ((refine acK (k := 84) (cu_at H.cu s.at' _) ?_); rintro u L' ⟨rfl, rfl⟩) | ((refine acK (k := 85) (mt_bal H.mt s.ca _ hi.ca) ?_); rintro u L' ⟨rfl, rfl⟩) | ((refine acK (k := 86) (bk_len H.bo c.ringLen.toNat s.bo _) ?_); rintro u L' ⟨rfl, rfl⟩))); (first | refine ⟨rvsA, ?_⟩ | (clear F M a; intro a w F M) | (clear M; intro w M))) | (refine svK F (h := ?_); clear F a; intro a F) | refine svK0 F (h := ?_) | ((refine sx_guardb F rfl (fun hg => ?_) (fun hg => ?_)) <;> (rw [hg] at F; (try (exact no hg)))) | (refine pvF (h := ?_); intro nb) | refine pvK (h := ?_) | refine pvK0 (h := ?_) | (refine pv_nil ?_; intro a w F M; (try (replace F := F.filt [0, 2, 3, 5] rfl))) | ((fail_if_success (with_reducible first | refine isW ?_ | refine isP ?_ | refine isL ?_)); (first | with_reducible refine sx_region ?_ | ((with_reducible refine isK ?_); (first | refine svT F (h := ?_) | refine svF F (h := ?_) | ((refine svB F (fun hc => ?_) (fun hc => ?_)) <;> (try (exact no hc))))) | ((with_reducible refine isD ?_); (first | (refine svDraw (id := 4) [4, 9, 15, 27, 32, 37, 42, 47, 52, 57, 62, 67, 69] [] [(4, [5, 6, 7, 8, 10, 11, 12, 13, 14, 16, 17, 18, 19, 20, 21, 22, 23, 24, 25, 26, 28, 29, 30, 31, 33, 34, 35, 36, 38, 39, 40, 41, 43, 44, 45, 46, 48, 49, 50, 51, 53, 54, 55, 56, 58, 59, 60, 61, 63, 64, 65, 66]), (9, [10, 11, 12, 13, 14, 16, 17, 18, 19, 20, 21, 22, 23, 24, 25, 26, 28, 29, 30, 31, 33, 34, 35, 36, 38, 39, 40, 41, 43, 44, 45, 46, 48, 49, 50, 51, 53, 54, 55, 56, 58, 59, 60, 61, 63, 64, 65, 66]), (15, [16, 17, 18, 19, 20, 21, 22, 23, 24, 25, 26, 28, 29, 30, 31, 33, 34, 35, 36, 38, 39, 40, 41, 43, 44, 45, 46, 48, 49, 50, 51, 53, 54, 55, 56, 58, 59, 60, 61, 63, 64, 65, 66]), (27, [16, 17, 18, 19, 20, 21, 28, 29, 30, 31, 33, 34, 35, 36, 38, 39, 40, 41, 43, 44, 45, 46, 48, 49, 50, 51, 53, 54, 55, 56, 58, 59, 60, 61, 63, 64, 65, 66]), (32, [16, 17, 18, 19, 20, 21, 33, 34, 35, 36, 38, 39, 40, 41, 43, 44, 45, 46, 48, 49, 50, 51, 53, 54, 55, 56, 58, 59, 60, 61, 63, 64, 65, 66]), (37, [16, 17, 18, 19, 20, 21, 38, 39, 40, 41, 43, 44, 45, 46, 48, 49, 50, 51, 53, 54, 55, 56, 58, 59, 60, 61, 63, 64, 65, 66]), (42, [16, 17, 18, 19, 20, 21, 43, 44, 45, 46, 48, 49, 50, 51, 53, 54, 55, 56, 58, 59, 60, 61, 63, 64, 65, 66]), (47, [16, 17, 18, 19, 20, 21, 48, 49, 50, 51, 53, 54, 55, 56, 58, 59, 60, 61, 63, 64, 65, 66]), (52, [16, 17, 18, 19, 20, 21, 53, 54, 55, 56, 58, 59, 60, 61, 63, 64, 65, 66]), (57, [16, 17, 18, 19, 20, 21, 58, 59, 60, 61, 63, 64, 65, 66]), (62, [16, 17, 18, 19, 20, 21, 63, 64, 65, 66]), (67, [16, 17, 18, 19, 20, 21])] [0, 1, 2, 3, 5, 6, 7, 8, 10, 11, 12, 13, 14, 16, 17, 18, 19, 20, 21, 22, 23, 24, 25, 26, 28, 29, 30, 31, 33, 34, 35, 36, 38, 39, 40, 41, 43, 44, 45, 46, 48, 49, 50, 51, 53, 54, 55, 56, 58, 59, 60, 61, 63, 64, 65, 66, 4, 9, 15, 27, 32, 37, 42, 47, 52, 57, 62, 67, 68, 69] F M (h := ?_); clear F M a w))) | with_reducible refine wp_scope_straight ?_ | with_reducible refine wp_label ?_ | go_step))))
  all_goals (first | refine svEnd F M ?_ | refine svRet F M ?_)
  all_goals exact ⟨_, _, rfl, ⟨hV, hP, hF, hO, hM, hQ, rfl, rfl⟩, M.perms permsA⟩
end Go.Proofs.YtopbohbkhljjgaaGreat
end
section
namespace Go.Proofs.YtopbohbkhljjgaaGreat
open Go.RowKit
set_option linter.unusedVariables false
set_option maxRecDepth 100000
set_option linter.unusedSimpArgs false
set_option maxHeartbeats 4000000
/-- What a snapshot's slices hold. -/
structure SnD where
  V : List Val
  pe : List Int
  fo : List Int
  vo : List Int
  nM : Nat
  nQ : Nat
structure AuOK (R : List Asn) (x : Sn) (d : SnD) (c : Cfg) : Prop where
  gV : GS R 7 (sl x.hV) d.V.length (d.V.flatMap valL)
  gP : GS R 1 (sl x.hP) d.pe.length (d.pe.flatMap intL)
  gF : GS R 1 (sl x.hF) d.fo.length (d.fo.flatMap intL)
  gO : GS R 1 (sl x.hO) d.vo.length (d.vo.flatMap intL)
  gM : ∃ cs, GS R 2 (sl x.hM) d.nM cs
  gQ : ∃ cs, GS R 2 (sl x.hQ) d.nQ cs
  lV : d.V.length ≤ 1000000
  lP : d.pe.length ≤ 400000
  lF : d.fo.length ≤ 400000
  lO : d.vo.length ≤ 400000
  bal : ∀ v ∈ d.V, U64 v.bal
  ep : ∀ v ∈ d.V, epR v
  iP : ∀ z ∈ d.pe, I64 z
  iF : ∀ z ∈ d.fo, I64 z
  iO : ∀ z ∈ d.vo, I64 z
  pd : U64 x.pd
  bu : U64 x.bu
  bk : I64 x.bk
  el : 1 ≤ c.epochLen
theorem AuOK.app {R : List Asn} {x : Sn} {d : SnD} {c : Cfg} (h : AuOK R x d c) (G : List Asn) : AuOK (R ++ G) x d c :=
  { h with gV := Gives.app h.gV, gP := Gives.app h.gP, gF := Gives.app h.gF, gO := Gives.app h.gO, gM := h.gM.imp fun _ h => Gives.app h, gQ := h.gQ.imp fun _ h => Gives.app h }
theorem AuOK.tail {R : List Asn} {x : Sn} {d : SnD} {c : Cfg} (h : AuOK R x d c) (A : Asn) : AuOK (A :: R) x d c :=
  { h with gV := GS.tail h.gV, gP := GS.tail h.gP, gF := GS.tail h.gF, gO := GS.tail h.gO, gM := h.gM.imp fun _ h => GS.tail h, gQ := h.gQ.imp fun _ h => GS.tail h }
def mxI (x y : Int) : Int := if y > x then y else x
def isR (l : List Int) (x : Int) : Bool := (addR l).2 && decide ((addR l).1 = x)
def rule1 (x : Sn) (d : SnD) (c : Cfg) : Bool := decide ((d.V.length : Int) ≤ c.capacity)
def rule2 (x : Sn) (d : SnD) (c : Cfg) : Bool := isR ([x.pd, x.bu] ++ bals d.V) x.dep
def rule3 (x : Sn) (d : SnD) (c : Cfg) : Bool := (addR (bals d.V)).2 && decide ((addR (bals d.V)).1 ≤ c.supplyCap)
def rule4 (x : Sn) (d : SnD) (c : Cfg) : Bool := isR (bals (d.V.filter Val.live)) x.ac
def rule5 (x : Sn) (d : SnD) (c : Cfg) : Bool := onceGo pPend d.V 0 d.pe
def rule6 (x : Sn) (d : SnD) (c : Cfg) : Bool := onceGo pExit d.V 0 (d.fo ++ d.vo)
def rule7 (x : Sn) (d : SnD) (c : Cfg) : Bool := d.V.all (pEpo c.unbonding)
def rule8 (x : Sn) (d : SnD) (c : Cfg) : Bool := d.V.all pEmp
def rule9 (x : Sn) (d : SnD) (c : Cfg) : Bool := decide (((d.V.filter pBond).length : Int) = x.un)
def rule10 (x : Sn) (d : SnD) (c : Cfg) : Bool := decide (mxI (mxI (mxI (mxI d.pe.length d.fo.length) d.vo.length) d.nM) d.nQ ≤ c.queueSize)
def rule11 (x : Sn) (d : SnD) (c : Cfg) : Bool := decide (0 ≤ x.bk) && decide (x.ep = x.bk / c.epochLen)
def rule12 (x : Sn) (d : SnD) (c : Cfg) : Bool := d.V.all pSla
theorem filter_true (V : List Val) : V.filter (fun _ => true) = V := by simp
section
variable (x : Sn) (d : SnD) (c : Cfg) (R : List Asn) (h : AuOK R x d c)
include h in
theorem rule1_spec : Spec 104 [snV x, cfgV c] R fun u L' => u = .bool (rule1 x d c) ∧ L' = R := by
  (intro G w M; refine sx_enter (vs := ([snV x, cfgV c] : List Value)) Tryz.func104 (n := 11) rfl rfl rfl rfl ?_; intro a F; (try simp only [List.cons_append, List.nil_append] at M))
  (have hh := h.app G; have gV := hh.gV; have gP := hh.gP; have gF := hh.gF; have gO := hh.gO; have gM := hh.gM; have gQ := hh.gQ; obtain ⟨cM, gM⟩ := gM; obtain ⟨cQ, gQ⟩ := gQ)
  (repeat' (first | (refine sx_nil ?_; (try (replace F := F.filt [0, 1, 2, 3, 4] rfl))) | (refine sv1 F M (h := ?_); clear F a; intro a F) | refine pv1 (h := ?_) | (refine sv3 F M (h := ?_); clear M; intro w M) | (refine sv2 F M (h := ?_); clear F M a; intro nb a w F M) | refine pv3 (h := ?_) | (refine pv2 (h := ?_); intro nb) | ((first | refine svC F M (h := ?_) | refine svC0 F M (h := ?_) | refine pvC (h := ?_) | refine pvC0 (h := ?_)); (fail); (first | refine ⟨rvsA, ?_⟩ | (clear F M a; intro a w F M) | (clear M; intro w M))) | (refine svK F (h := ?_); clear F a; intro a F) | refine svK0 F (h := ?_) | ((refine sx_guardb F rfl (fun hg => ?_) (fun hg => ?_)) <;> (rw [hg] at F; (try (exact no hg)))) | (refine pvF (h := ?_); intro nb) | refine pvK (h := ?_) | refine pvK0 (h := ?_) | (refine pv_nil ?_; intro a w F M; (try (replace F := F.filt [0, 1, 2, 3, 4] rfl))) | ((fail_if_success (with_reducible first | refine isW ?_ | refine isP ?_ | refine isL ?_)); (first | with_reducible refine sx_region ?_ | ((with_reducible refine isK ?_); (first | refine svT F (h := ?_) | refine svF F (h := ?_) | ((refine svB F (fun hc => ?_) (fun hc => ?_)) <;> (try (exact no hc))))) | ((with_reducible refine isD ?_); fail) | with_reducible refine wp_scope_straight ?_ | with_reducible refine wp_label ?_ | go_step))))
  (all_goals ((first | refine svEnd F M ?_ | refine svRet F M ?_); exact ⟨_, _, rfl, ⟨rfl, rfl⟩, M.perms permsA⟩))
include h in
theorem rule2_spec : Spec 105 [snV x, cfgV c] R fun u L' => u = .bool (rule2 x d c) ∧ L' = R := by
  (intro G w M; refine sx_enter (vs := ([snV x, cfgV c] : List Value)) Tryz.func105 (n := 25) rfl rfl rfl rfl ?_; intro a F; (try simp only [List.cons_append, List.nil_append] at M))
  (have hh := h.app G; have gV := hh.gV; have gP := hh.gP; have gF := hh.gF; have gO := hh.gO; have gM := hh.gM; have gQ := hh.gQ; obtain ⟨cM, gM⟩ := gM; obtain ⟨cQ, gQ⟩ := gQ)
  have hs := fun (R : List Asn) hg hh => sum_spec 107 (fun _ => true) d.V (sl x.hV) R hg h.lV (fun y _ R => each_spec y R) h.bal hh [x.pd, x.bu] (by simp; exact ⟨h.pd, h.bu⟩) (by simp)
  simp only [filter_true] at hs
  (repeat' (first | (refine sx_nil ?_; (try (replace F := F.filt [0, 1, 2, 4, 5, 6] rfl))) | (refine sv1 F M (h := ?_); clear F a; intro a F) | refine pv1 (h := ?_) | (refine sv3 F M (h := ?_); clear M; intro w M) | (refine sv2 F M (h := ?_); clear F M a; intro nb a w F M) | refine pv3 (h := ?_) | (refine pv2 (h := ?_); intro nb) | ((first | refine svC F M (h := ?_) | refine svC0 F M (h := ?_) | refine pvC (h := ?_) | refine pvC0 (h := ?_)); (((refine acK (k := 106) (hs _ ?_ ⟨some ⟨nb, 0, none⟩, 2, 2⟩) ?_); (exact gsA); rintro u L' ⟨rfl, rfl⟩)); (first | refine ⟨rvsA, ?_⟩ | (clear F M a; intro a w F M) | (clear M; intro w M))) | (refine svK F (h := ?_); clear F a; intro a F) | refine svK0 F (h := ?_) | ((refine sx_guardb F rfl (fun hg => ?_) (fun hg => ?_)) <;> (rw [hg] at F; (try (exact no hg)))) | (refine pvF (h := ?_); intro nb) | refine pvK (h := ?_) | refine pvK0 (h := ?_) | (refine pv_nil ?_; intro a w F M; (try (replace F := F.filt [0, 1, 2, 4, 5, 6] rfl))) | ((fail_if_success (with_reducible first | refine isW ?_ | refine isP ?_ | refine isL ?_)); (first | with_reducible refine sx_region ?_ | ((with_reducible refine isK ?_); (first | refine svT F (h := ?_) | refine svF F (h := ?_) | ((refine svB F (fun hc => ?_) (fun hc => ?_)) <;> (try (exact no hc))))) | ((with_reducible refine isD ?_); fail) | with_reducible refine wp_scope_straight ?_ | with_reducible refine wp_label ?_ | go_step))))
  all_goals (first | refine svEnd F M ?_ | refine svRet F M ?_)
  all_goals exact ⟨_, _, rfl, ⟨by unfold rule2 isR bals; rw [hg]; rfl, rfl⟩, M.perms permsA⟩
include h in
theorem sumN_spec (f : FuncId) [FK f] (p : Val → Bool) (hcl : ∀ x ∈ d.V, ∀ R, Spec f [valV x] R fun u L' => u = .bool (p x) ∧ L' = R) : Spec 106 [sl x.hV, .func (.func f) #[] #[], .slice none 0 0] R fun u L' => u = .tuple [.int .u64 (addR ((d.V.filter p).map (·.bal))).1, .bool (addR ((d.V.filter p).map (·.bal))).2].toArray ∧ L' = R := fun G w M => by
  refine (sum_spec f p d.V (sl x.hV) R h.gV h.lV hcl h.bal ⟨none, 0, 0⟩ [] (by simp) (by simp) G w (M.own_nil 23 1)).mono ?_
  rintro e w' ⟨u, L', h1, ⟨h2, h3⟩, h4⟩
  exact ⟨u, L', h1, ⟨by simpa using h2, h3⟩, h4⟩
include h in
theorem rule3_spec : Spec 108 [snV x, cfgV c] R fun u L' => u = .bool (rule3 x d c) ∧ L' = R := by
  (intro G w M; refine sx_enter (vs := ([snV x, cfgV c] : List Value)) Tryz.func108 (n := 20) rfl rfl rfl rfl ?_; intro a F; (try simp only [List.cons_append, List.nil_append] at M))
  have hh := h.app G
  have hs := fun (R : List Asn) (h : AuOK R x d c) => sumN_spec x d c R h 107 (fun _ => true) (fun y _ R => each_spec y R)
  simp only [filter_true] at hs
  (repeat' (first | (refine sx_nil ?_; (try (replace F := F.filt [0, 1, 2, 3, 4, 5, 6] rfl))) | (refine sv1 F M (h := ?_); clear F a; intro a F) | refine pv1 (h := ?_) | (refine sv3 F M (h := ?_); clear M; intro w M) | (refine sv2 F M (h := ?_); clear F M a; intro nb a w F M) | refine pv3 (h := ?_) | (refine pv2 (h := ?_); intro nb) | ((first | refine svC F M (h := ?_) | refine svC0 F M (h := ?_) | refine pvC (h := ?_) | refine pvC0 (h := ?_)); (((refine acW (k := 106) (hs _ ?_) ?_); (exact (hh.tail _).tail _); rintro u L' ⟨rfl, rfl⟩)); (first | refine ⟨rvsA, ?_⟩ | (clear F M a; intro a w F M) | (clear M; intro w M))) | (refine svK F (h := ?_); clear F a; intro a F) | refine svK0 F (h := ?_) | ((refine sx_guardb F rfl (fun hg => ?_) (fun hg => ?_)) <;> (rw [hg] at F; (try (exact no hg)))) | (refine pvF (h := ?_); intro nb) | refine pvK (h := ?_) | refine pvK0 (h := ?_) | (refine pv_nil ?_; intro a w F M; (try (replace F := F.filt [0, 1, 2, 3, 4, 5, 6] rfl))) | ((fail_if_success (with_reducible first | refine isW ?_ | refine isP ?_ | refine isL ?_)); (first | with_reducible refine sx_region ?_ | ((with_reducible refine isK ?_); (first | refine svT F (h := ?_) | refine svF F (h := ?_) | ((refine svB F (fun hc => ?_) (fun hc => ?_)) <;> (try (exact no hc))))) | ((with_reducible refine isD ?_); fail) | with_reducible refine wp_scope_straight ?_ | with_reducible refine wp_label ?_ | go_step))))
  all_goals (first | refine svEnd F M ?_ | refine svRet F M ?_)
  all_goals exact ⟨_, _, rfl, ⟨by unfold rule3 bals; rw [hg]; rfl, rfl⟩, M.perms permsA⟩
include h in
theorem rule4_spec : Spec 109 [snV x, cfgV c] R fun u L' => u = .bool (rule4 x d c) ∧ L' = R := by
  (intro G w M; refine sx_enter (vs := ([snV x, cfgV c] : List Value)) Tryz.func109 (n := 20) rfl rfl rfl rfl ?_; intro a F; (try simp only [List.cons_append, List.nil_append] at M))
  have hh := h.app G
  have hs := fun (R : List Asn) (h : AuOK R x d c) => sumN_spec x d c R h 110 Val.live (fun y _ R => cLive_spec y R)
  (repeat' (first | (refine sx_nil ?_; (try (replace F := F.filt [0, 1, 2, 4, 5, 6] rfl))) | (refine sv1 F M (h := ?_); clear F a; intro a F) | refine pv1 (h := ?_) | (refine sv3 F M (h := ?_); clear M; intro w M) | (refine sv2 F M (h := ?_); clear F M a; intro nb a w F M) | refine pv3 (h := ?_) | (refine pv2 (h := ?_); intro nb) | ((first | refine svC F M (h := ?_) | refine svC0 F M (h := ?_) | refine pvC (h := ?_) | refine pvC0 (h := ?_)); (((refine acW (k := 106) (hs _ ?_) ?_); (exact (hh.tail _).tail _); rintro u L' ⟨rfl, rfl⟩)); (first | refine ⟨rvsA, ?_⟩ | (clear F M a; intro a w F M) | (clear M; intro w M))) | (refine svK F (h := ?_); clear F a; intro a F) | refine svK0 F (h := ?_) | ((refine sx_guardb F rfl (fun hg => ?_) (fun hg => ?_)) <;> (rw [hg] at F; (try (exact no hg)))) | (refine pvF (h := ?_); intro nb) | refine pvK (h := ?_) | refine pvK0 (h := ?_) | (refine pv_nil ?_; intro a w F M; (try (replace F := F.filt [0, 1, 2, 4, 5, 6] rfl))) | ((fail_if_success (with_reducible first | refine isW ?_ | refine isP ?_ | refine isL ?_)); (first | with_reducible refine sx_region ?_ | ((with_reducible refine isK ?_); (first | refine svT F (h := ?_) | refine svF F (h := ?_) | ((refine svB F (fun hc => ?_) (fun hc => ?_)) <;> (try (exact no hc))))) | ((with_reducible refine isD ?_); fail) | with_reducible refine wp_scope_straight ?_ | with_reducible refine wp_label ?_ | go_step))))
  all_goals (first | refine svEnd F M ?_ | refine svRet F M ?_)
  all_goals exact ⟨_, _, rfl, ⟨by unfold rule4 isR bals; rw [hg]; rfl, rfl⟩, M.perms permsA⟩
include h in
theorem rule5_spec : Spec 112 [snV x, cfgV c] R fun u L' => u = .bool (rule5 x d c) ∧ L' = R := by
  (intro G w M; refine sx_enter (vs := ([snV x, cfgV c] : List Value)) Tryz.func112 (n := 11) rfl rfl rfl rfl ?_; intro a F; (try simp only [List.cons_append, List.nil_append] at M))
  have hh := h.app G
  have hs := fun (R : List Asn) (h : AuOK R x d c) hq => once_spec 114 pPend d.V (sl x.hV) R h.gV h.lV (fun y _ R => cPend_spec y R) hq [(x.hP, d.pe)] (by simp [catQ]; have := h.lP; omega) (by simp) (by simp [catQ]; exact h.iP) (by simp; exact h.gP)
  (repeat' (first | (refine sx_nil ?_; (try (replace F := F.filt [0, 1, 2, 4] rfl))) | (refine sv1 F M (h := ?_); clear F a; intro a F) | refine pv1 (h := ?_) | (refine sv3 F M (h := ?_); clear M; intro w M) | (refine sv2 F M (h := ?_); clear F M a; intro nb a w F M) | refine pv3 (h := ?_) | (refine pv2 (h := ?_); intro nb) | ((first | refine svC F M (h := ?_) | refine svC0 F M (h := ?_) | refine pvC (h := ?_) | refine pvC0 (h := ?_)); (((refine acK (k := 113) (hs _ ?_ ⟨some ⟨nb, 0, none⟩, 1, 1⟩) ?_); (exact (hh.tail _).tail _); rintro u L' ⟨rfl, rfl⟩)); (first | refine ⟨rvsA, ?_⟩ | (clear F M a; intro a w F M) | (clear M; intro w M))) | (refine svK F (h := ?_); clear F a; intro a F) | refine svK0 F (h := ?_) | ((refine sx_guardb F rfl (fun hg => ?_) (fun hg => ?_)) <;> (rw [hg] at F; (try (exact no hg)))) | (refine pvF (h := ?_); intro nb) | refine pvK (h := ?_) | refine pvK0 (h := ?_) | (refine pv_nil ?_; intro a w F M; (try (replace F := F.filt [0, 1, 2, 4] rfl))) | ((fail_if_success (with_reducible first | refine isW ?_ | refine isP ?_ | refine isL ?_)); (first | with_reducible refine sx_region ?_ | ((with_reducible refine isK ?_); (first | refine svT F (h := ?_) | refine svF F (h := ?_) | ((refine svB F (fun hc => ?_) (fun hc => ?_)) <;> (try (exact no hc))))) | ((with_reducible refine isD ?_); fail) | with_reducible refine wp_scope_straight ?_ | with_reducible refine wp_label ?_ | go_step))))
  all_goals (first | refine svEnd F M ?_ | refine svRet F M ?_)
  all_goals exact ⟨_, _, rfl, ⟨by simp [tupOf, rule5, catQ], rfl⟩, M.perms permsA⟩
include h in
theorem rule6_spec : Spec 115 [snV x, cfgV c] R fun u L' => u = .bool (rule6 x d c) ∧ L' = R := by
  (intro G w M; refine sx_enter (vs := ([snV x, cfgV c] : List Value)) Tryz.func115 (n := 13) rfl rfl rfl rfl ?_; intro a F; (try simp only [List.cons_append, List.nil_append] at M))
  have hh := h.app G
  have hs := fun (R : List Asn) (h : AuOK R x d c) hq => once_spec 116 pExit d.V (sl x.hV) R h.gV h.lV (fun y _ R => cExit_spec y R) hq [(x.hF, d.fo), (x.hO, d.vo)] (by simp [catQ]; have := h.lF; have := h.lO; omega) (by simp) (by simp [catQ]; rintro z (hz | hz); exact h.iF z hz; exact h.iO z hz) (by simp; exact ⟨h.gF, h.gO⟩)
  (repeat' (first | (refine sx_nil ?_; (try (replace F := F.filt [0, 1, 2, 4] rfl))) | (refine sv1 F M (h := ?_); clear F a; intro a F) | refine pv1 (h := ?_) | (refine sv3 F M (h := ?_); clear M; intro w M) | (refine sv2 F M (h := ?_); clear F M a; intro nb a w F M) | refine pv3 (h := ?_) | (refine pv2 (h := ?_); intro nb) | ((first | refine svC F M (h := ?_) | refine svC0 F M (h := ?_) | refine pvC (h := ?_) | refine pvC0 (h := ?_)); (((refine acK (k := 113) (hs _ ?_ ⟨some ⟨nb, 0, none⟩, 2, 2⟩) ?_); (exact (hh.tail _).tail _); rintro u L' ⟨rfl, rfl⟩)); (first | refine ⟨rvsA, ?_⟩ | (clear F M a; intro a w F M) | (clear M; intro w M))) | (refine svK F (h := ?_); clear F a; intro a F) | refine svK0 F (h := ?_) | ((refine sx_guardb F rfl (fun hg => ?_) (fun hg => ?_)) <;> (rw [hg] at F; (try (exact no hg)))) | (refine pvF (h := ?_); intro nb) | refine pvK (h := ?_) | refine pvK0 (h := ?_) | (refine pv_nil ?_; intro a w F M; (try (replace F := F.filt [0, 1, 2, 4] rfl))) | ((fail_if_success (with_reducible first | refine isW ?_ | refine isP ?_ | refine isL ?_)); (first | with_reducible refine sx_region ?_ | ((with_reducible refine isK ?_); (first | refine svT F (h := ?_) | refine svF F (h := ?_) | ((refine svB F (fun hc => ?_) (fun hc => ?_)) <;> (try (exact no hc))))) | ((with_reducible refine isD ?_); fail) | with_reducible refine wp_scope_straight ?_ | with_reducible refine wp_label ?_ | go_step))))
  all_goals (first | refine svEnd F M ?_ | refine svRet F M ?_)
  all_goals exact ⟨_, _, rfl, ⟨by simp [tupOf, rule6, catQ], rfl⟩, M.perms permsA⟩
end
end Go.Proofs.YtopbohbkhljjgaaGreat
end
section
namespace Go.Proofs.YtopbohbkhljjgaaGreat
open Go.RowKit
set_option linter.unusedVariables false
set_option maxRecDepth 100000
set_option linter.unusedSimpArgs false
set_option maxHeartbeats 4000000
section
variable (x : Sn) (d : SnD) (c : Cfg) (R : List Asn) (h : AuOK R x d c)
include h in
theorem rule7_spec : Spec 117 [snV x, cfgV c] R fun u L' => u = .bool (rule7 x d c) ∧ L' = R := by
  (intro G w M; refine sx_enter (vs := ([snV x, cfgV c] : List Value)) Tryz.func117 (n := 9) rfl rfl rfl rfl ?_; intro a F; (try simp only [List.cons_append, List.nil_append] at M))
  have hh := h.app G
  have hs := fun (R : List Asn) (h : AuOK R x d c) b => all_spec 119 (pEpo c.unbonding) d.V (sl x.hV) R h.gV h.lV #[ptr b] (pt b (cfgL c) 30) (fun y hy R => cEpo_spec y c b (h.ep y hy) R)
  (repeat' (first | (refine sx_nil ?_; (try (replace F := F.filt [0, 1, 2, 3, 4] rfl))) | (refine sv1 F M (h := ?_); clear F a; intro a F) | refine pv1 (h := ?_) | (refine sv3 F M (h := ?_); clear M; intro w M) | (refine sv2 F M (h := ?_); clear F M a; intro nb a w F M) | refine pv3 (h := ?_) | (refine pv2 (h := ?_); intro nb) | ((first | refine svC F M (h := ?_) | refine svC0 F M (h := ?_) | refine pvC (h := ?_) | refine pvC0 (h := ?_)); (((refine acK (k := 118) (hs _ ?_ nb) ?_); (exact hh.tail _); rintro u L' ⟨rfl, rfl⟩)); (first | refine ⟨rvsA, ?_⟩ | (clear F M a; intro a w F M) | (clear M; intro w M))) | (refine svK F (h := ?_); clear F a; intro a F) | refine svK0 F (h := ?_) | ((refine sx_guardb F rfl (fun hg => ?_) (fun hg => ?_)) <;> (rw [hg] at F; (try (exact no hg)))) | (refine pvF (h := ?_); intro nb) | refine pvK (h := ?_) | refine pvK0 (h := ?_) | (refine pv_nil ?_; intro a w F M; (try (replace F := F.filt [0, 1, 2, 3, 4] rfl))) | ((fail_if_success (with_reducible first | refine isW ?_ | refine isP ?_ | refine isL ?_)); (first | with_reducible refine sx_region ?_ | ((with_reducible refine isK ?_); (first | refine svT F (h := ?_) | refine svF F (h := ?_) | ((refine svB F (fun hc => ?_) (fun hc => ?_)) <;> (try (exact no hc))))) | ((with_reducible refine isD ?_); fail) | with_reducible refine wp_scope_straight ?_ | with_reducible refine wp_label ?_ | go_step))))
  (all_goals ((first | refine svEnd F M ?_ | refine svRet F M ?_); exact ⟨_, _, rfl, ⟨rfl, rfl⟩, M.perms permsA⟩))
include h in
theorem allF_spec (f : FuncId) [FK f] (p : Val → Bool) (hcl : ∀ x ∈ d.V, ∀ R, Spec f [valV x] R fun u L' => u = .bool (p x) ∧ L' = R) : Spec 118 [sl x.hV, .func (.func f) #[] #[]] R fun u L' => u = .bool (d.V.all p) ∧ L' = R := fun G w M => by
  refine (all_spec f p d.V (sl x.hV) R h.gV h.lV #[] (factA True) (fun y hy R => hcl y hy _) G w (M.fact trivial)).mono ?_
  rintro e w' ⟨u, L', h1, ⟨h2, rfl⟩, h4⟩
  exact ⟨u, _, h1, ⟨h2, rfl⟩, h4.factO.2⟩
include h in
theorem rule8_spec : Spec 121 [snV x, cfgV c] R fun u L' => u = .bool (rule8 x d c) ∧ L' = R := by
  (intro G w M; refine sx_enter (vs := ([snV x, cfgV c] : List Value)) Tryz.func121 (n := 8) rfl rfl rfl rfl ?_; intro a F; (try simp only [List.cons_append, List.nil_append] at M))
  have hh := h.app G
  have hs := fun (R : List Asn) (h : AuOK R x d c) => allF_spec x d c R h 122 pEmp (fun y _ R => cEmp_spec y R)
  (repeat' (first | (refine sx_nil ?_; (try (replace F := F.filt [0, 1, 2, 4] rfl))) | (refine sv1 F M (h := ?_); clear F a; intro a F) | refine pv1 (h := ?_) | (refine sv3 F M (h := ?_); clear M; intro w M) | (refine sv2 F M (h := ?_); clear F M a; intro nb a w F M) | refine pv3 (h := ?_) | (refine pv2 (h := ?_); intro nb) | ((first | refine svC F M (h := ?_) | refine svC0 F M (h := ?_) | refine pvC (h := ?_) | refine pvC0 (h := ?_)); (((refine acW (k := 118) (hs _ ?_) ?_); (exact (hh.tail _).tail _); rintro u L' ⟨rfl, rfl⟩)); (first | refine ⟨rvsA, ?_⟩ | (clear F M a; intro a w F M) | (clear M; intro w M))) | (refine svK F (h := ?_); clear F a; intro a F) | refine svK0 F (h := ?_) | ((refine sx_guardb F rfl (fun hg => ?_) (fun hg => ?_)) <;> (rw [hg] at F; (try (exact no hg)))) | (refine pvF (h := ?_); intro nb) | refine pvK (h := ?_) | refine pvK0 (h := ?_) | (refine pv_nil ?_; intro a w F M; (try (replace F := F.filt [0, 1, 2, 4] rfl))) | ((fail_if_success (with_reducible first | refine isW ?_ | refine isP ?_ | refine isL ?_)); (first | with_reducible refine sx_region ?_ | ((with_reducible refine isK ?_); (first | refine svT F (h := ?_) | refine svF F (h := ?_) | ((refine svB F (fun hc => ?_) (fun hc => ?_)) <;> (try (exact no hc))))) | ((with_reducible refine isD ?_); fail) | with_reducible refine wp_scope_straight ?_ | with_reducible refine wp_label ?_ | go_step))))
  (all_goals ((first | refine svEnd F M ?_ | refine svRet F M ?_); exact ⟨_, _, rfl, ⟨rfl, rfl⟩, M.perms permsA⟩))
include h in
theorem rule12_spec : Spec 128 [snV x, cfgV c] R fun u L' => u = .bool (rule12 x d c) ∧ L' = R := by
  (intro G w M; refine sx_enter (vs := ([snV x, cfgV c] : List Value)) Tryz.func128 (n := 8) rfl rfl rfl rfl ?_; intro a F; (try simp only [List.cons_append, List.nil_append] at M))
  have hh := h.app G
  have hs := fun (R : List Asn) (h : AuOK R x d c) => allF_spec x d c R h 129 pSla (fun y _ R => cSla_spec y R)
  (repeat' (first | (refine sx_nil ?_; (try (replace F := F.filt [0, 1, 2, 4] rfl))) | (refine sv1 F M (h := ?_); clear F a; intro a F) | refine pv1 (h := ?_) | (refine sv3 F M (h := ?_); clear M; intro w M) | (refine sv2 F M (h := ?_); clear F M a; intro nb a w F M) | refine pv3 (h := ?_) | (refine pv2 (h := ?_); intro nb) | ((first | refine svC F M (h := ?_) | refine svC0 F M (h := ?_) | refine pvC (h := ?_) | refine pvC0 (h := ?_)); (((refine acW (k := 118) (hs _ ?_) ?_); (exact (hh.tail _).tail _); rintro u L' ⟨rfl, rfl⟩)); (first | refine ⟨rvsA, ?_⟩ | (clear F M a; intro a w F M) | (clear M; intro w M))) | (refine svK F (h := ?_); clear F a; intro a F) | refine svK0 F (h := ?_) | ((refine sx_guardb F rfl (fun hg => ?_) (fun hg => ?_)) <;> (rw [hg] at F; (try (exact no hg)))) | (refine pvF (h := ?_); intro nb) | refine pvK (h := ?_) | refine pvK0 (h := ?_) | (refine pv_nil ?_; intro a w F M; (try (replace F := F.filt [0, 1, 2, 4] rfl))) | ((fail_if_success (with_reducible first | refine isW ?_ | refine isP ?_ | refine isL ?_)); (first | with_reducible refine sx_region ?_ | ((with_reducible refine isK ?_); (first | refine svT F (h := ?_) | refine svF F (h := ?_) | ((refine svB F (fun hc => ?_) (fun hc => ?_)) <;> (try (exact no hc))))) | ((with_reducible refine isD ?_); fail) | with_reducible refine wp_scope_straight ?_ | with_reducible refine wp_label ?_ | go_step))))
  (all_goals ((first | refine svEnd F M ?_ | refine svRet F M ?_); exact ⟨_, _, rfl, ⟨rfl, rfl⟩, M.perms permsA⟩))
include h in
theorem rule10_spec : Spec 126 [snV x, cfgV c] R fun u L' => u = .bool (rule10 x d c) ∧ L' = R := by
  (intro G w M; refine sx_enter (vs := ([snV x, cfgV c] : List Value)) Tryz.func126 (n := 24) rfl rfl rfl rfl ?_; intro a F; (try simp only [List.cons_append, List.nil_append] at M))
  (have hh := h.app G; have gV := hh.gV; have gP := hh.gP; have gF := hh.gF; have gO := hh.gO; have gM := hh.gM; have gQ := hh.gQ; obtain ⟨cM, gM⟩ := gM; obtain ⟨cQ, gQ⟩ := gQ)
  (repeat' (first | ((first | refine sv1 F M (h := ?_) (hr := by ((apply rt_max; (exact rfl); (exact rfl); (exact rfl)))) | refine pv1 (h := ?_) (hr := by ((apply rt_max; (exact rfl); (exact rfl); (exact rfl))))); (try (clear F a; intro a F))) | (refine sx_nil ?_; (try (replace F := F.filt [0, 1, 2, 3, 4] rfl))) | (refine sv1 F M (h := ?_); clear F a; intro a F) | refine pv1 (h := ?_) | (refine sv3 F M (h := ?_); clear M; intro w M) | (refine sv2 F M (h := ?_); clear F M a; intro nb a w F M) | refine pv3 (h := ?_) | (refine pv2 (h := ?_); intro nb) | ((first | refine svC F M (h := ?_) | refine svC0 F M (h := ?_) | refine pvC (h := ?_) | refine pvC0 (h := ?_)); (fail); (first | refine ⟨rvsA, ?_⟩ | (clear F M a; intro a w F M) | (clear M; intro w M))) | (refine svK F (h := ?_); clear F a; intro a F) | refine svK0 F (h := ?_) | ((refine sx_guardb F rfl (fun hg => ?_) (fun hg => ?_)) <;> (rw [hg] at F; (try (exact no hg)))) | (refine pvF (h := ?_); intro nb) | refine pvK (h := ?_) | refine pvK0 (h := ?_) | (refine pv_nil ?_; intro a w F M; (try (replace F := F.filt [0, 1, 2, 3, 4] rfl))) | ((fail_if_success (with_reducible first | refine isW ?_ | refine isP ?_ | refine isL ?_)); (first | with_reducible refine sx_region ?_ | ((with_reducible refine isK ?_); (first | refine svT F (h := ?_) | refine svF F (h := ?_) | ((refine svB F (fun hc => ?_) (fun hc => ?_)) <;> (try (exact no hc))))) | ((with_reducible refine isD ?_); fail) | with_reducible refine wp_scope_straight ?_ | with_reducible refine wp_label ?_ | go_step))))
  (all_goals ((first | refine svEnd F M ?_ | refine svRet F M ?_); exact ⟨_, _, rfl, ⟨rfl, rfl⟩, M.perms permsA⟩))
include h in
theorem rule11_spec : Spec 127 [snV x, cfgV c] R fun u L' => u = .bool (rule11 x d c) ∧ L' = R := by
  have hbk := h.bk
  have hel := h.el
  by_cases h0 : 0 ≤ x.bk
  · have hd0 : 0 ≤ x.bk / c.epochLen := Int.ediv_nonneg (by omega) (by omega)
    have hd1 : x.bk / c.epochLen ≤ x.bk := Int.ediv_le_self _ (by omega)
    have hw : IntKind.i64.wrap (x.bk / c.epochLen) = x.bk / c.epochLen := IntWalk.i64_in _ ⟨by have := hbk.1; omega, by have := hbk.2; omega⟩
    (intro G w M; refine sx_enter (vs := ([snV x, cfgV c] : List Value)) Tryz.func127 (n := 18) rfl rfl rfl rfl ?_; intro a F; (try simp only [List.cons_append, List.nil_append] at M))
    have hb : decide (0 ≤ x.bk) = true := by simp [h0]
    (repeat' (first | (refine sx_nil ?_; (try (replace F := F.filt [0, 1, 2, 3, 4] rfl))) | (refine sv1 F M (h := ?_); clear F a; intro a F) | refine pv1 (h := ?_) | (refine sv3 F M (h := ?_); clear M; intro w M) | (refine sv2 F M (h := ?_); clear F M a; intro nb a w F M) | refine pv3 (h := ?_) | (refine pv2 (h := ?_); intro nb) | ((first | refine svC F M (h := ?_) | refine svC0 F M (h := ?_) | refine pvC (h := ?_) | refine pvC0 (h := ?_)); (fail); (first | refine ⟨rvsA, ?_⟩ | (clear F M a; intro a w F M) | (clear M; intro w M))) | (refine svK F (h := ?_); clear F a; intro a F) | refine svK0 F (h := ?_) | ((refine sx_guardb F rfl (fun hg => ?_) (fun hg => ?_)) <;> (rw [hg] at F; (try (exact no hg)))) | (refine pvF (h := ?_); intro nb) | refine pvK (h := ?_) | refine pvK0 (h := ?_) | (refine pv_nil ?_; intro a w F M; (try (replace F := F.filt [0, 1, 2, 3, 4] rfl))) | ((fail_if_success (with_reducible first | refine isW ?_ | refine isP ?_ | refine isL ?_)); (first | with_reducible refine sx_region ?_ | ((with_reducible refine isK ?_); (first | refine svT F (h := ?_) | refine svF F (h := ?_) | ((refine svB F (fun hc => ?_) (fun hc => ?_)) <;> (try (exact no hc))))) | ((with_reducible refine isD ?_); (first | (refine svDraw (id := 1) [] [] [] [0, 1, 2, 3, 4, 5, 6, 7, 8, 9, 10, 11, 12, 13] F M (h := ?_); clear F M a w))) | with_reducible refine wp_scope_straight ?_ | with_reducible refine wp_label ?_ | go_step))))
    rw [hb]
    (repeat' (first | (refine sx_nil ?_; (try (replace F := F.filt [0, 1, 2, 3, 4] rfl))) | (refine sv1 F M (h := ?_); clear F a; intro a F) | refine pv1 (h := ?_) | (refine sv3 F M (h := ?_); clear M; intro w M) | (refine sv2 F M (h := ?_); clear F M a; intro nb a w F M) | refine pv3 (h := ?_) | (refine pv2 (h := ?_); intro nb) | ((first | refine svC F M (h := ?_) | refine svC0 F M (h := ?_) | refine pvC (h := ?_) | refine pvC0 (h := ?_)); (fail); (first | refine ⟨rvsA, ?_⟩ | (clear F M a; intro a w F M) | (clear M; intro w M))) | (refine svK F (h := ?_); clear F a; intro a F) | refine svK0 F (h := ?_) | ((refine sx_guardb F rfl (fun hg => ?_) (fun hg => ?_)) <;> (rw [hg] at F; (try (exact no hg)))) | (refine pvF (h := ?_); intro nb) | refine pvK (h := ?_) | refine pvK0 (h := ?_) | (refine pv_nil ?_; intro a w F M; (try (replace F := F.filt [0, 1, 2, 3, 4] rfl))) | ((fail_if_success (with_reducible first | refine isW ?_ | refine isP ?_ | refine isL ?_)); (first | with_reducible refine sx_region ?_ | ((with_reducible refine isK ?_); (first | refine svT F (h := ?_) | refine svF F (h := ?_) | ((refine svB F (fun hc => ?_) (fun hc => ?_)) <;> (try (exact no hc))))) | ((with_reducible refine isD ?_); (first | (refine svDraw (id := 1) [] [] [] [0, 1, 2, 3, 4, 5, 6, 7, 8, 9, 10, 11, 12, 13] F M (h := ?_); clear F M a w))) | with_reducible refine wp_scope_straight ?_ | with_reducible refine wp_label ?_ | go_step))))
    (all_goals ((first | refine svEnd F M ?_ | refine svRet F M ?_); exact ⟨_, _, rfl, ⟨by unfold rule11; rw [hb]; rfl, rfl⟩, M.perms permsA⟩))
  · (intro G w M; refine sx_enter (vs := ([snV x, cfgV c] : List Value)) Tryz.func127 (n := 18) rfl rfl rfl rfl ?_; intro a F; (try simp only [List.cons_append, List.nil_append] at M))
    have hb : decide (0 ≤ x.bk) = false := by simp [h0]
    (repeat' (first | (refine sx_nil ?_; (try (replace F := F.filt [0, 1, 2, 3, 4] rfl))) | (refine sv1 F M (h := ?_); clear F a; intro a F) | refine pv1 (h := ?_) | (refine sv3 F M (h := ?_); clear M; intro w M) | (refine sv2 F M (h := ?_); clear F M a; intro nb a w F M) | refine pv3 (h := ?_) | (refine pv2 (h := ?_); intro nb) | ((first | refine svC F M (h := ?_) | refine svC0 F M (h := ?_) | refine pvC (h := ?_) | refine pvC0 (h := ?_)); (fail); (first | refine ⟨rvsA, ?_⟩ | (clear F M a; intro a w F M) | (clear M; intro w M))) | (refine svK F (h := ?_); clear F a; intro a F) | refine svK0 F (h := ?_) | ((refine sx_guardb F rfl (fun hg => ?_) (fun hg => ?_)) <;> (rw [hg] at F; (try (exact no hg)))) | (refine pvF (h := ?_); intro nb) | refine pvK (h := ?_) | refine pvK0 (h := ?_) | (refine pv_nil ?_; intro a w F M; (try (replace F := F.filt [0, 1, 2, 3, 4] rfl))) | ((fail_if_success (with_reducible first | refine isW ?_ | refine isP ?_ | refine isL ?_)); (first | with_reducible refine sx_region ?_ | ((with_reducible refine isK ?_); (first | refine svT F (h := ?_) | refine svF F (h := ?_) | ((refine svB F (fun hc => ?_) (fun hc => ?_)) <;> (try (exact no hc))))) | ((with_reducible refine isD ?_); (first | (refine svDraw (id := 1) [] [] [] [0, 1, 2, 3, 4, 5, 6, 7, 8, 9, 10, 11, 12, 13] F M (h := ?_); clear F M a w))) | with_reducible refine wp_scope_straight ?_ | with_reducible refine wp_label ?_ | go_step))))
    rw [hb]
    (repeat' (first | (refine sx_nil ?_; (try (replace F := F.filt [0, 1, 2, 3, 4] rfl))) | (refine sv1 F M (h := ?_); clear F a; intro a F) | refine pv1 (h := ?_) | (refine sv3 F M (h := ?_); clear M; intro w M) | (refine sv2 F M (h := ?_); clear F M a; intro nb a w F M) | refine pv3 (h := ?_) | (refine pv2 (h := ?_); intro nb) | ((first | refine svC F M (h := ?_) | refine svC0 F M (h := ?_) | refine pvC (h := ?_) | refine pvC0 (h := ?_)); (fail); (first | refine ⟨rvsA, ?_⟩ | (clear F M a; intro a w F M) | (clear M; intro w M))) | (refine svK F (h := ?_); clear F a; intro a F) | refine svK0 F (h := ?_) | ((refine sx_guardb F rfl (fun hg => ?_) (fun hg => ?_)) <;> (rw [hg] at F; (try (exact no hg)))) | (refine pvF (h := ?_); intro nb) | refine pvK (h := ?_) | refine pvK0 (h := ?_) | (refine pv_nil ?_; intro a w F M; (try (replace F := F.filt [0, 1, 2, 3, 4] rfl))) | ((fail_if_success (with_reducible first | refine isW ?_ | refine isP ?_ | refine isL ?_)); (first | with_reducible refine sx_region ?_ | ((with_reducible refine isK ?_); (first | refine svT F (h := ?_) | refine svF F (h := ?_) | ((refine svB F (fun hc => ?_) (fun hc => ?_)) <;> (try (exact no hc))))) | ((with_reducible refine isD ?_); (first | (refine svDraw (id := 1) [] [] [] [0, 1, 2, 3, 4, 5, 6, 7, 8, 9, 10, 11, 12, 13] F M (h := ?_); clear F M a w))) | with_reducible refine wp_scope_straight ?_ | with_reducible refine wp_label ?_ | go_step))))
    (all_goals ((first | refine svEnd F M ?_ | refine svRet F M ?_); exact ⟨_, _, rfl, ⟨by unfold rule11; rw [hb]; rfl, rfl⟩, M.perms permsA⟩))
include h in
theorem rule9_spec : Spec 124 [snV x, cfgV c] R fun u L' => u = .bool (rule9 x d c) ∧ L' = R := by
  (intro G w M; refine sx_enter (vs := ([snV x, cfgV c] : List Value)) Tryz.func124 (n := 24) rfl rfl rfl rfl ?_; intro a F; (try simp only [List.cons_append, List.nil_append] at M))
  (have hh := h.app G; have gV := hh.gV; have gP := hh.gP; have gF := hh.gF; have gO := hh.gO; have gM := hh.gM; have gQ := hh.gQ; obtain ⟨cM, gM⟩ := gM; obtain ⟨cQ, gQ⟩ := gQ)
  have hlV := h.lV
  (repeat' (first | (refine sx_nil ?_; (try (replace F := F.filt [0, 1, 2, 4, 5, 7, 9, 10, 11, 12, 16] rfl))) | (refine sv1 F M (h := ?_); clear F a; intro a F) | refine pv1 (h := ?_) | (refine sv3 F M (h := ?_); clear M; intro w M) | (refine sv2 F M (h := ?_); clear F M a; intro nb a w F M) | refine pv3 (h := ?_) | (refine pv2 (h := ?_); intro nb) | ((first | refine svC F M (h := ?_) | refine svC0 F M (h := ?_) | refine pvC (h := ?_) | refine pvC0 (h := ?_)); (((refine acW (k := 125) (bonded_spec y _) ?_); rintro u L' ⟨rfl, rfl⟩)); (first | refine ⟨rvsA, ?_⟩ | (clear F M a; intro a w F M) | (clear M; intro w M))) | (refine svK F (h := ?_); clear F a; intro a F) | refine svK0 F (h := ?_) | ((refine sx_guardb F rfl (fun hg => ?_) (fun hg => ?_)) <;> (rw [hg] at F; (try (exact no hg)))) | (refine pvF (h := ?_); intro nb) | refine pvK (h := ?_) | refine pvK0 (h := ?_) | (refine pv_nil ?_; intro a w F M; (try (replace F := F.filt [0, 1, 2, 4, 5, 7, 9, 10, 11, 12, 16] rfl))) | ((fail_if_success (with_reducible first | refine isW ?_ | refine isP ?_ | refine isL ?_)); (first | with_reducible refine sx_region ?_ | ((with_reducible refine isK ?_); (first | refine svT F (h := ?_) | refine svF F (h := ?_) | ((refine svB F (fun hc => ?_) (fun hc => ?_)) <;> (try (exact no hc))))) | ((with_reducible refine isD ?_); fail) | with_reducible refine wp_scope_straight ?_ | with_reducible refine wp_label ?_ | go_step))))
  refine svLoop F M (0 : Nat) (fun k => [(11, .int .i64 k), (5, .int .i64 ((d.V.take k).filter pBond).length)]) (fun _ => []) (fun k => k ≤ d.V.length) (fun k => d.V.length - k) [7] (Nat.zero_le _) ?_
  (rintro k q1 a w F M; (try simp only [List.cons_append, List.nil_append] at F M q1 ⊢))
  have hfl : ((d.V.take k).filter pBond).length ≤ d.V.length := Nat.le_trans (List.length_filter_le _ _) (by rw [List.length_take]; omega)
  by_cases hlt : k < d.V.length
  · obtain ⟨y, hy⟩ : ∃ y, d.V[k]? = some y := ⟨d.V[k], by simp [hlt]⟩
    have ht : ((d.V.take (k + 1)).filter pBond).length = ((d.V.take k).filter pBond).length + (if pBond y = true then 1 else 0) := by
      rw [List.take_add_one, hy, List.filter_append]; cases hp : pBond y <;> simp [hp]
    (repeat' (first | (refine sx_nil ?_; (try (replace F := F.filt [0, 1, 2, 4, 5, 7, 9, 10, 11, 12, 16] rfl))) | (refine sv1 F M (h := ?_); clear F a; intro a F) | refine pv1 (h := ?_) | (refine sv3 F M (h := ?_); clear M; intro w M) | (refine sv2 F M (h := ?_); clear F M a; intro nb a w F M) | refine pv3 (h := ?_) | (refine pv2 (h := ?_); intro nb) | ((first | refine svC F M (h := ?_) | refine svC0 F M (h := ?_) | refine pvC (h := ?_) | refine pvC0 (h := ?_)); (((refine acW (k := 125) (bonded_spec y _) ?_); rintro u L' ⟨rfl, rfl⟩)); (first | refine ⟨rvsA, ?_⟩ | (clear F M a; intro a w F M) | (clear M; intro w M))) | (refine svK F (h := ?_); clear F a; intro a F) | refine svK0 F (h := ?_) | ((refine sx_guardb F rfl (fun hg => ?_) (fun hg => ?_)) <;> (rw [hg] at F; (try (exact no hg)))) | (refine pvF (h := ?_); intro nb) | refine pvK (h := ?_) | refine pvK0 (h := ?_) | (refine pv_nil ?_; intro a w F M; (try (replace F := F.filt [0, 1, 2, 4, 5, 7, 9, 10, 11, 12, 16] rfl))) | ((fail_if_success (with_reducible first | refine isW ?_ | refine isP ?_ | refine isL ?_)); (first | with_reducible refine sx_region ?_ | ((with_reducible refine isK ?_); (first | refine svT F (h := ?_) | refine svF F (h := ?_) | ((refine svB F (fun hc => ?_) (fun hc => ?_)) <;> (try (exact no hc))))) | ((with_reducible refine isD ?_); fail) | with_reducible refine wp_scope_straight ?_ | with_reducible refine wp_label ?_ | go_step))))
    · rw [hc, if_pos rfl] at ht
      have e1 : (((d.V.take k).filter pBond).length : Int) + 1 = (((d.V.take (k + 1)).filter pBond).length : Nat) := by omega
      rw [e1] at F
      exact sv_again F M (k + 1) kpA permsA (by omega) (by omega)
    · rw [hc, if_neg (by decide)] at ht
      have e1 : ((d.V.take k).filter pBond).length = ((d.V.take (k + 1)).filter pBond).length := by omega
      rw [e1] at F
      exact sv_again F M (k + 1) kpA permsA (by omega) (by omega)
  · obtain rfl : k = d.V.length := by omega
    rw [List.take_length] at F
    (repeat' (first | (refine sx_nil ?_; (try (replace F := F.filt [0, 1, 2, 4, 5, 7, 9, 10, 11, 12, 16] rfl))) | (refine sv1 F M (h := ?_); clear F a; intro a F) | refine pv1 (h := ?_) | (refine sv3 F M (h := ?_); clear M; intro w M) | (refine sv2 F M (h := ?_); clear F M a; intro nb a w F M) | refine pv3 (h := ?_) | (refine pv2 (h := ?_); intro nb) | ((first | refine svC F M (h := ?_) | refine svC0 F M (h := ?_) | refine pvC (h := ?_) | refine pvC0 (h := ?_)); (((refine acW (k := 125) (bonded_spec y _) ?_); rintro u L' ⟨rfl, rfl⟩)); (first | refine ⟨rvsA, ?_⟩ | (clear F M a; intro a w F M) | (clear M; intro w M))) | (refine svK F (h := ?_); clear F a; intro a F) | refine svK0 F (h := ?_) | ((refine sx_guardb F rfl (fun hg => ?_) (fun hg => ?_)) <;> (rw [hg] at F; (try (exact no hg)))) | (refine pvF (h := ?_); intro nb) | refine pvK (h := ?_) | refine pvK0 (h := ?_) | (refine pv_nil ?_; intro a w F M; (try (replace F := F.filt [0, 1, 2, 4, 5, 7, 9, 10, 11, 12, 16] rfl))) | ((fail_if_success (with_reducible first | refine isW ?_ | refine isP ?_ | refine isL ?_)); (first | with_reducible refine sx_region ?_ | ((with_reducible refine isK ?_); (first | refine svT F (h := ?_) | refine svF F (h := ?_) | ((refine svB F (fun hc => ?_) (fun hc => ?_)) <;> (try (exact no hc))))) | ((with_reducible refine isD ?_); fail) | with_reducible refine wp_scope_straight ?_ | with_reducible refine wp_label ?_ | go_step))))
    (all_goals ((first | refine svEnd F M ?_ | refine svRet F M ?_); exact ⟨_, _, rfl, ⟨rfl, rfl⟩, M.perms permsA⟩))
end
end Go.Proofs.YtopbohbkhljjgaaGreat
end
section
namespace Go.Proofs.YtopbohbkhljjgaaGreat
open Go.RowKit
set_option linter.unusedVariables false
set_option maxRecDepth 100000
set_option linter.unusedSimpArgs false
set_option maxHeartbeats 4000000
section
variable {o : Oper} {n : Nat} {l : List (Nat × Value)} {L : List Asn}
/-- A field of a struct's value. -/
theorem rt_fieldV {t : TypeId} {x : Operand} {f : Nat} (ho : o.op = .field t x f) {cs : List Value} (hx : evl l x = some (.agg cs.toArray)) {ft off : Nat} (hu : (match Tryz.prog.underlying t with | some (.struct fs) => (fs[f]?).map (fun f => (f.type, f.offset)) | _ => none) = some (ft, off)) (hkt : KT ft none) {v : Value} (hv : cs[off]? = some v) : RT o l L n v := fun a w F M => by
  unfold execOp
  rw [ho]
  split at hu
  · rename_i fs hus
    cases hfs : fs[f]? with
    | none => rw [hfs] at hu; cases hu
    | some fd =>
      rw [hfs] at hu
      have h2 := Option.some.inj hu
      simp only [Prod.mk.injEq] at h2
      obtain ⟨h2, h3⟩ := h2
      subst h2; subst h3
      have hv' : cs.toArray[fd.offset]? = some v := by simpa using hv
      simp [F.eval hx, Instr.field, run_underlying hus w, hfs, asAgg, part, (run_isAgg (h := hkt) w).1, hv, hv']
  · cases hu
end
def auNs : List (List UInt8) := [[99, 97, 112, 97, 99, 105, 116, 121], [115, 117, 109], [115, 117, 112, 112, 108, 121], [97, 99, 116, 105, 118, 101], [112, 101, 110, 100, 105, 110, 103], [101, 120, 105, 116, 115], [101, 112, 111, 99, 104, 115], [101, 109, 112, 116, 121], [117, 110, 98, 111, 110, 100, 105, 110, 103], [113, 117, 101, 117, 101, 115], [99, 108, 111, 99, 107], [115, 108, 97, 115, 104, 101, 100]]
def auFs : List Nat := [104, 105, 108, 109, 112, 115, 117, 121, 124, 126, 127, 128]
def auCs : List Value := (auNs.zip auFs).flatMap fun p => [str p.1, fnV p.2]
theorem table_spec (R : List Asn) : Spec 50 [] R fun u L' => u = .agg auCs.toArray ∧ L' = R := by
  (intro G w M; refine sx_enter (vs := ([] : List Value)) Tryz.func50 (n := 14) rfl rfl rfl rfl ?_; intro a F; (try simp only [List.cons_append, List.nil_append] at M))
  (repeat' (first | (refine sx_nil ?_; (try (replace F := F.filt [0] rfl))) | (refine sv1 F M (h := ?_); clear F a; intro a F) | refine pv1 (h := ?_) | (refine sv3 F M (h := ?_); clear M; intro w M) | (refine sv2 F M (h := ?_); clear F M a; intro nb a w F M) | refine pv3 (h := ?_) | (refine pv2 (h := ?_); intro nb) | ((first | refine svC F M (h := ?_) | refine svC0 F M (h := ?_) | refine pvC (h := ?_) | refine pvC0 (h := ?_)); (fail); (first | refine ⟨rvsA, ?_⟩ | (clear F M a; intro a w F M) | (clear M; intro w M))) | (refine svK F (h := ?_); clear F a; intro a F) | refine svK0 F (h := ?_) | ((refine sx_guardb F rfl (fun hg => ?_) (fun hg => ?_)) <;> (rw [hg] at F; (try (exact no hg)))) | (refine pvF (h := ?_); intro nb) | refine pvK (h := ?_) | refine pvK0 (h := ?_) | (refine pv_nil ?_; intro a w F M; (try (replace F := F.filt [0] rfl))) | ((fail_if_success (with_reducible first | refine isW ?_ | refine isP ?_ | refine isL ?_)); (first | with_reducible refine sx_region ?_ | ((with_reducible refine isK ?_); (first | refine svT F (h := ?_) | refine svF F (h := ?_) | ((refine svB F (fun hc => ?_) (fun hc => ?_)) <;> (try (exact no hc))))) | ((with_reducible refine isD ?_); fail) | with_reducible refine wp_scope_straight ?_ | with_reducible refine wp_label ?_ | go_step))))
  all_goals (first | refine svEnd F M ?_ | refine svRet F M ?_)
  all_goals exact ⟨_, _, rfl, ⟨rfl, rfl⟩, M.perms permsA⟩
def ruleN (x : Sn) (d : SnD) (c : Cfg) (k : Nat) : Bool :=
  if k = 1 then rule1 x d c else if k = 2 then rule2 x d c else if k = 3 then rule3 x d c else if k = 4 then rule4 x d c else if k = 5 then rule5 x d c else if k = 6 then rule6 x d c else if k = 7 then rule7 x d c else if k = 8 then rule8 x d c else if k = 9 then rule9 x d c else if k = 10 then rule10 x d c else if k = 11 then rule11 x d c else rule12 x d c
theorem rule_at (x : Sn) (d : SnD) (c : Cfg) (k : Nat) (hk : k < 12) : ∃ f nm, FK f ∧ (auCs.drop ((k : Int).toNat * 2)).take 2 = [str nm, .func (.func f) #[] #[]] ∧ ∀ R, AuOK R x d c → Spec f [snV x, cfgV c] R fun u L' => u = .bool (ruleN x d c (k + 1)) ∧ L' = R := by
  rcases (by omega : k = 0 ∨ k = 1 ∨ k = 2 ∨ k = 3 ∨ k = 4 ∨ k = 5 ∨ k = 6 ∨ k = 7 ∨ k = 8 ∨ k = 9 ∨ k = 10 ∨ k = 11) with rfl | rfl | rfl | rfl | rfl | rfl | rfl | rfl | rfl | rfl | rfl | rfl
  · exact ⟨_, _, inferInstance, rfl, rule1_spec x d c⟩
  · exact ⟨_, _, inferInstance, rfl, rule2_spec x d c⟩
  · exact ⟨_, _, inferInstance, rfl, rule3_spec x d c⟩
  · exact ⟨_, _, inferInstance, rfl, rule4_spec x d c⟩
  · exact ⟨_, _, inferInstance, rfl, rule5_spec x d c⟩
  · exact ⟨_, _, inferInstance, rfl, rule6_spec x d c⟩
  · exact ⟨_, _, inferInstance, rfl, rule7_spec x d c⟩
  · exact ⟨_, _, inferInstance, rfl, rule8_spec x d c⟩
  · exact ⟨_, _, inferInstance, rfl, rule9_spec x d c⟩
  · exact ⟨_, _, inferInstance, rfl, rule10_spec x d c⟩
  · exact ⟨_, _, inferInstance, rfl, rule11_spec x d c⟩
  · exact ⟨_, _, inferInstance, rfl, rule12_spec x d c⟩
/-- The rules that are violated, of those from a number on. -/
def allGo (x : Sn) (d : SnD) (c : Cfg) : Nat → Nat → List Int
  | 0, _ => []
  | n + 1, k => (if ruleN x d c k = true then [] else [(k : Int)]) ++ allGo x d c n (k + 1)
def allR (x : Sn) (d : SnD) (c : Cfg) : List Int := allGo x d c 12 1
theorem allGo_len (x : Sn) (d : SnD) (c : Cfg) : ∀ n k, (allGo x d c n k).length ≤ n
  | 0, k => by simp [allGo]
  | n + 1, k => by
    have := allGo_len x d c n (k + 1)
    rw [allGo, List.length_append]
    split <;> simp <;> omega
section
variable (x : Sn) (d : SnD) (c : Cfg) (R : List Asn) (h : AuOK R x d c)
include h in
theorem aall_spec : Spec 19 [snV x, cfgV c] R fun u L' => ∃ r, u = sl r ∧ L' = ownT 3 intL 1 (sl r) (allR x d c) :: R := by
  generalize hX : allR x d c = X
  (intro G w M; refine sx_enter (vs := ([snV x, cfgV c] : List Value)) Tryz.func19 (n := 26) rfl rfl rfl rfl ?_; intro a F; (try simp only [List.cons_append, List.nil_append] at M))
  have hh := h.app G
  have M := M.own_nil 3 1
  (repeat' (first | (refine sx_nil ?_; (try (replace F := F.filt [0, 1, 2, 3, 4, 5, 6, 7, 8, 9, 10, 18] rfl))) | (refine sv1 F M (h := ?_); clear F a; intro a F) | refine pv1 (h := ?_) | (refine sv3 F M (h := ?_); clear M; intro w M) | (refine sv2 F M (h := ?_); clear F M a; intro nb a w F M) | refine pv3 (h := ?_) | (refine pv2 (h := ?_); intro nb) | ((first | refine svC F M (h := ?_) | refine svC0 F M (h := ?_) | refine pvC (h := ?_) | refine pvC0 (h := ?_)); (((refine acW (k := 50) (table_spec _) ?_); rintro u L' ⟨rfl, rfl⟩)); (first | refine ⟨rvsA, ?_⟩ | (clear F M a; intro a w F M) | (clear M; intro w M))) | (refine svK F (h := ?_); clear F a; intro a F) | refine svK0 F (h := ?_) | ((refine sx_guardb F rfl (fun hg => ?_) (fun hg => ?_)) <;> (rw [hg] at F; (try (exact no hg)))) | (refine pvF (h := ?_); intro nb) | refine pvK (h := ?_) | refine pvK0 (h := ?_) | (refine pv_nil ?_; intro a w F M; (try (replace F := F.filt [0, 1, 2, 3, 4, 5, 6, 7, 8, 9, 10, 18] rfl))) | ((fail_if_success (with_reducible first | refine isW ?_ | refine isP ?_ | refine isL ?_)); (first | with_reducible refine sx_region ?_ | ((with_reducible refine isK ?_); (first | refine svT F (h := ?_) | refine svF F (h := ?_) | ((refine svB F (fun hc => ?_) (fun hc => ?_)) <;> (try (exact no hc))))) | ((with_reducible refine isD ?_); fail) | with_reducible refine wp_scope_straight ?_ | with_reducible refine wp_label ?_ | go_step))))
  refine svLoop F M ((0, ⟨none, 0, 0⟩, []) : Nat × SlH × List Int) (fun s => [(9, .int .i64 s.1), (5, sl s.2.1)]) (fun s => [ownT 3 intL 1 (sl s.2.1) s.2.2]) (fun s => s.1 ≤ 12 ∧ s.2.2 ++ allGo x d c (12 - s.1) (s.1 + 1) = X ∧ s.2.2.length ≤ s.1) (fun s => 12 - s.1) [6, 7] ⟨Nat.zero_le _, hX, Nat.zero_le _⟩ ?_ (hR := .cons (.there (.there .here)) .nil)
  (rintro ⟨k, h1, out⟩ ⟨q1, q2, q3⟩ a w F M; (try simp only [List.cons_append, List.nil_append] at F M q1 q2 q3 ⊢))
  by_cases hk : k < 12
  · obtain ⟨f, nm, hf, hd, hs⟩ := rule_at x d c k hk
    have hk2 : 12 - k = (12 - (k + 1)) + 1 := by omega
    rw [hk2, allGo] at q2
    cases hb : ruleN x d c (k + 1)
    all_goals rw [hb] at q2 hs
    · (repeat' (first | ((first | refine sv1 F M (h := ?_) (hr := by ((apply rt_idxA; (exact rfl); (exact rfl); (exact rfl); (exact inferInstance); (exact inferInstance); omega; omega; (exact hd)))) | refine pv1 (h := ?_) (hr := by ((apply rt_idxA; (exact rfl); (exact rfl); (exact rfl); (exact inferInstance); (exact inferInstance); omega; omega; (exact hd))))); (try (clear F a; intro a F))) | (refine sx_nil ?_; (try (replace F := F.filt [0, 1, 2, 3, 4, 5, 6, 7, 8, 9, 10, 18] rfl))) | (refine sv1 F M (h := ?_); clear F a; intro a F) | refine pv1 (h := ?_) | (refine sv3 F M (h := ?_); clear M; intro w M) | (refine sv2 F M (h := ?_); clear F M a; intro nb a w F M) | refine pv3 (h := ?_) | (refine pv2 (h := ?_); intro nb) | ((first | refine svC F M (h := ?_) | refine svC0 F M (h := ?_) | refine pvC (h := ?_) | refine pvC0 (h := ?_)); ((first | ((refine acW (k := f) (hs _ ?_) ?_); (focus ((repeat (first | exact hh | apply AuOK.tail)); done)); rintro u L' ⟨rfl, rfl⟩) | (refine ac_appendH rfl rfl inferInstance rfl rfl pullA inferInstance (ys := [(k : Int) + 1]) gsA rfl rfl (by simp; omega) ?_; intro nv))); (first | refine ⟨rvsA, ?_⟩ | (clear F M a; intro a w F M) | (clear M; intro w M))) | (refine svK F (h := ?_); clear F a; intro a F) | refine svK0 F (h := ?_) | ((refine sx_guardb F rfl (fun hg => ?_) (fun hg => ?_)) <;> (rw [hg] at F; (try (exact no hg)))) | (refine pvF (h := ?_); intro nb) | refine pvK (h := ?_) | refine pvK0 (h := ?_) | (refine pv_nil ?_; intro a w F M; (try (replace F := F.filt [0, 1, 2, 3, 4, 5, 6, 7, 8, 9, 10, 18] rfl))) | ((fail_if_success (with_reducible first | refine isW ?_ | refine isP ?_ | refine isL ?_)); (first | with_reducible refine sx_region ?_ | ((with_reducible refine isK ?_); (first | refine svT F (h := ?_) | refine svF F (h := ?_) | ((refine svB F (fun hc => ?_) (fun hc => ?_)) <;> (try (exact no hc))))) | ((with_reducible refine isD ?_); fail) | with_reducible refine wp_scope_straight ?_ | with_reducible refine wp_label ?_ | go_step))))
      refine sv_again F M (k + 1, nv, out ++ [(k : Int) + 1]) kpA permsA ⟨by simp only; omega, by simpa using q2, by simp; omega⟩ (by simp only; omega)
    · (repeat' (first | ((first | refine sv1 F M (h := ?_) (hr := by ((apply rt_idxA; (exact rfl); (exact rfl); (exact rfl); (exact inferInstance); (exact inferInstance); omega; omega; (exact hd)))) | refine pv1 (h := ?_) (hr := by ((apply rt_idxA; (exact rfl); (exact rfl); (exact rfl); (exact inferInstance); (exact inferInstance); omega; omega; (exact hd))))); (try (clear F a; intro a F))) | (refine sx_nil ?_; (try (replace F := F.filt [0, 1, 2, 3, 4, 5, 6, 7, 8, 9, 10, 18] rfl))) | (refine sv1 F M (h := ?_); clear F a; intro a F) | refine pv1 (h := ?_) | (refine sv3 F M (h := ?_); clear M; intro w M) | (refine sv2 F M (h := ?_); clear F M a; intro nb a w F M) | refine pv3 (h := ?_) | (refine pv2 (h := ?_); intro nb) | ((first | refine svC F M (h := ?_) | refine svC0 F M (h := ?_) | refine pvC (h := ?_) | refine pvC0 (h := ?_)); ((first | ((refine acW (k := f) (hs _ ?_) ?_); (focus ((repeat (first | exact hh | apply AuOK.tail)); done)); rintro u L' ⟨rfl, rfl⟩) | (refine ac_appendH rfl rfl inferInstance rfl rfl pullA inferInstance (ys := [(k : Int) + 1]) gsA rfl rfl (by simp; omega) ?_; intro nv))); (first | refine ⟨rvsA, ?_⟩ | (clear F M a; intro a w F M) | (clear M; intro w M))) | (refine svK F (h := ?_); clear F a; intro a F) | refine svK0 F (h := ?_) | ((refine sx_guardb F rfl (fun hg => ?_) (fun hg => ?_)) <;> (rw [hg] at F; (try (exact no hg)))) | (refine pvF (h := ?_); intro nb) | refine pvK (h := ?_) | refine pvK0 (h := ?_) | (refine pv_nil ?_; intro a w F M; (try (replace F := F.filt [0, 1, 2, 3, 4, 5, 6, 7, 8, 9, 10, 18] rfl))) | ((fail_if_success (with_reducible first | refine isW ?_ | refine isP ?_ | refine isL ?_)); (first | with_reducible refine sx_region ?_ | ((with_reducible refine isK ?_); (first | refine svT F (h := ?_) | refine svF F (h := ?_) | ((refine svB F (fun hc => ?_) (fun hc => ?_)) <;> (try (exact no hc))))) | ((with_reducible refine isD ?_); fail) | with_reducible refine wp_scope_straight ?_ | with_reducible refine wp_label ?_ | go_step))))
      refine sv_again F M (k + 1, h1, out) kpA permsA ⟨by simp only; omega, by simpa using q2, by simp only; omega⟩ (by simp only; omega)
  · obtain rfl : k = 12 := by omega
    (repeat' (first | (refine sx_nil ?_; (try (replace F := F.filt [0, 1, 2, 3, 4, 5, 6, 7, 8, 9, 10, 18] rfl))) | (refine sv1 F M (h := ?_); clear F a; intro a F) | refine pv1 (h := ?_) | (refine sv3 F M (h := ?_); clear M; intro w M) | (refine sv2 F M (h := ?_); clear F M a; intro nb a w F M) | refine pv3 (h := ?_) | (refine pv2 (h := ?_); intro nb) | ((first | refine svC F M (h := ?_) | refine svC0 F M (h := ?_) | refine pvC (h := ?_) | refine pvC0 (h := ?_)); (fail); (first | refine ⟨rvsA, ?_⟩ | (clear F M a; intro a w F M) | (clear M; intro w M))) | (refine svK F (h := ?_); clear F a; intro a F) | refine svK0 F (h := ?_) | ((refine sx_guardb F rfl (fun hg => ?_) (fun hg => ?_)) <;> (rw [hg] at F; (try (exact no hg)))) | (refine pvF (h := ?_); intro nb) | refine pvK (h := ?_) | refine pvK0 (h := ?_) | (refine pv_nil ?_; intro a w F M; (try (replace F := F.filt [0, 1, 2, 3, 4, 5, 6, 7, 8, 9, 10, 18] rfl))) | ((fail_if_success (with_reducible first | refine isW ?_ | refine isP ?_ | refine isL ?_)); (first | with_reducible refine sx_region ?_ | ((with_reducible refine isK ?_); (first | refine svT F (h := ?_) | refine svF F (h := ?_) | ((refine svB F (fun hc => ?_) (fun hc => ?_)) <;> (try (exact no hc))))) | ((with_reducible refine isD ?_); fail) | with_reducible refine wp_scope_straight ?_ | with_reducible refine wp_label ?_ | go_step))))
    all_goals (first | refine svEnd F M ?_ | refine svRet F M ?_)
    refine ⟨_, _, rfl, ⟨h1, rfl, rfl⟩, ?_⟩
    rw [← q2]
    simp only [Nat.sub_self, allGo, List.append_nil]
    exact M.perms permsA
/-- The first of the rules that are violated. -/
def chkR : List Int → Int
  | [] => 0
  | k :: _ => k
include h in
theorem acheck_spec : Spec 22 [snV x, cfgV c] R fun u L' => u = .int .i64 (chkR (allR x d c)) ∧ L' = R := by
  have hs := aall_spec x d c
  generalize allR x d c = X at hs ⊢
  (intro G w M; refine sx_enter (vs := ([snV x, cfgV c] : List Value)) Tryz.func22 (n := 15) rfl rfl rfl rfl ?_; intro a F; (try simp only [List.cons_append, List.nil_append] at M))
  have hh := h.app G
  cases X with
  | nil =>
    (repeat' (first | (refine sx_nil ?_; (try (replace F := F.filt [0, 1, 2, 3, 4, 5, 11] rfl))) | (refine sv1 F M (h := ?_); clear F a; intro a F) | refine pv1 (h := ?_) | (refine sv3 F M (h := ?_); clear M; intro w M) | (refine sv2 F M (h := ?_); clear F M a; intro nb a w F M) | refine pv3 (h := ?_) | (refine pv2 (h := ?_); intro nb) | ((first | refine svC F M (h := ?_) | refine svC0 F M (h := ?_) | refine pvC (h := ?_) | refine pvC0 (h := ?_)); (((refine acW (k := 19) (hs _ ((hh.tail _).tail _)) ?_); rintro u L' ⟨r, rfl, rfl⟩)); (first | refine ⟨rvsA, ?_⟩ | (clear F M a; intro a w F M) | (clear M; intro w M))) | (refine svK F (h := ?_); clear F a; intro a F) | refine svK0 F (h := ?_) | ((refine sx_guardb F rfl (fun hg => ?_) (fun hg => ?_)) <;> (rw [hg] at F; (try (exact no hg)))) | (refine pvF (h := ?_); intro nb) | refine pvK (h := ?_) | refine pvK0 (h := ?_) | (refine pv_nil ?_; intro a w F M; (try (replace F := F.filt [0, 1, 2, 3, 4, 5, 11] rfl))) | ((fail_if_success (with_reducible first | refine isW ?_ | refine isP ?_ | refine isL ?_)); (first | with_reducible refine sx_region ?_ | ((with_reducible refine isK ?_); (first | refine svT F (h := ?_) | refine svF F (h := ?_) | ((refine svB F (fun hc => ?_) (fun hc => ?_)) <;> (try (exact no hc))))) | ((with_reducible refine isD ?_); fail) | with_reducible refine wp_scope_straight ?_ | with_reducible refine wp_label ?_ | go_step))))
    (all_goals ((first | refine svEnd F M ?_ | refine svRet F M ?_); exact ⟨_, _, rfl, ⟨rfl, rfl⟩, M.perms permsA⟩))
  | cons z X =>
    have hz : (z :: X)[Int.toNat 0]? = some z := rfl
    (repeat' (first | (refine sx_nil ?_; (try (replace F := F.filt [0, 1, 2, 3, 4, 5, 11] rfl))) | (refine sv1 F M (h := ?_); clear F a; intro a F) | refine pv1 (h := ?_) | (refine sv3 F M (h := ?_); clear M; intro w M) | (refine sv2 F M (h := ?_); clear F M a; intro nb a w F M) | refine pv3 (h := ?_) | (refine pv2 (h := ?_); intro nb) | ((first | refine svC F M (h := ?_) | refine svC0 F M (h := ?_) | refine pvC (h := ?_) | refine pvC0 (h := ?_)); (((refine acW (k := 19) (hs _ ((hh.tail _).tail _)) ?_); rintro u L' ⟨r, rfl, rfl⟩)); (first | refine ⟨rvsA, ?_⟩ | (clear F M a; intro a w F M) | (clear M; intro w M))) | (refine svK F (h := ?_); clear F a; intro a F) | refine svK0 F (h := ?_) | ((refine sx_guardb F rfl (fun hg => ?_) (fun hg => ?_)) <;> (rw [hg] at F; (try (exact no hg)))) | (refine pvF (h := ?_); intro nb) | refine pvK (h := ?_) | refine pvK0 (h := ?_) | (refine pv_nil ?_; intro a w F M; (try (replace F := F.filt [0, 1, 2, 3, 4, 5, 11] rfl))) | ((fail_if_success (with_reducible first | refine isW ?_ | refine isP ?_ | refine isL ?_)); (first | with_reducible refine sx_region ?_ | ((with_reducible refine isK ?_); (first | refine svT F (h := ?_) | refine svF F (h := ?_) | ((refine svB F (fun hc => ?_) (fun hc => ?_)) <;> (try (exact no hc))))) | ((with_reducible refine isD ?_); fail) | with_reducible refine wp_scope_straight ?_ | with_reducible refine wp_label ?_ | go_step))))
    (all_goals ((first | refine svEnd F M ?_ | refine svRet F M ?_); exact ⟨_, _, rfl, ⟨rfl, rfl⟩, M.perms permsA⟩))
end
theorem arules_spec (R : List Asn) : Spec 24 [] R fun u L' => u = .int .i64 12 ∧ L' = R := by
  (intro G w M; refine sx_enter (vs := ([] : List Value)) Tryz.func24 (n := 1) rfl rfl rfl rfl ?_; intro a F; (try simp only [List.cons_append, List.nil_append] at M))
  (repeat' (first | (refine sx_nil ?_; (try (replace F := F.filt [0] rfl))) | (refine sv1 F M (h := ?_); clear F a; intro a F) | refine pv1 (h := ?_) | (refine sv3 F M (h := ?_); clear M; intro w M) | (refine sv2 F M (h := ?_); clear F M a; intro nb a w F M) | refine pv3 (h := ?_) | (refine pv2 (h := ?_); intro nb) | ((first | refine svC F M (h := ?_) | refine svC0 F M (h := ?_) | refine pvC (h := ?_) | refine pvC0 (h := ?_)); (fail); (first | refine ⟨rvsA, ?_⟩ | (clear F M a; intro a w F M) | (clear M; intro w M))) | (refine svK F (h := ?_); clear F a; intro a F) | refine svK0 F (h := ?_) | ((refine sx_guardb F rfl (fun hg => ?_) (fun hg => ?_)) <;> (rw [hg] at F; (try (exact no hg)))) | (refine pvF (h := ?_); intro nb) | refine pvK (h := ?_) | refine pvK0 (h := ?_) | (refine pv_nil ?_; intro a w F M; (try (replace F := F.filt [0] rfl))) | ((fail_if_success (with_reducible first | refine isW ?_ | refine isP ?_ | refine isL ?_)); (first | with_reducible refine sx_region ?_ | ((with_reducible refine isK ?_); (first | refine svT F (h := ?_) | refine svF F (h := ?_) | ((refine svB F (fun hc => ?_) (fun hc => ?_)) <;> (try (exact no hc))))) | ((with_reducible refine isD ?_); fail) | with_reducible refine wp_scope_straight ?_ | with_reducible refine wp_label ?_ | go_step))))
  (all_goals ((first | refine svEnd F M ?_ | refine svRet F M ?_); exact ⟨_, _, rfl, ⟨rfl, rfl⟩, M.perms permsA⟩))
def auNm (k : Int) : List UInt8 := if k < 1 ∨ 12 < k then [] else (auNs[(k - 1).toNat]?).getD []
theorem name_at (k : Nat) (hk : k < 12) : ∃ f, (auCs.drop ((k : Int).toNat * 2)).take 2 = [str (auNm (k + 1)), .func (.func f) #[] #[]] := by
  rcases (by omega : k = 0 ∨ k = 1 ∨ k = 2 ∨ k = 3 ∨ k = 4 ∨ k = 5 ∨ k = 6 ∨ k = 7 ∨ k = 8 ∨ k = 9 ∨ k = 10 ∨ k = 11) with rfl | rfl | rfl | rfl | rfl | rfl | rfl | rfl | rfl | rfl | rfl | rfl <;> exact ⟨_, rfl⟩
theorem aname_spec (k : Int) (hk : I64 k) (R : List Asn) : Spec 23 [.int .i64 k] R fun u L' => u = str (auNm k) ∧ L' = R := by
  (intro G w M; refine sx_enter (vs := ([.int .i64 k] : List Value)) Tryz.func23 (n := 14) rfl rfl rfl rfl ?_; intro a F; (try simp only [List.cons_append, List.nil_append] at M))
  by_cases h1 : 1 ≤ k ∧ k ≤ 12
  · obtain ⟨h1, h2⟩ := h1
    obtain ⟨m, rfl⟩ : ∃ m : Nat, k = m + 1 := ⟨(k - 1).toNat, by omega⟩
    obtain ⟨f, hd⟩ := name_at m (by omega)
    have em : (m : Int) + 1 - 1 = m := by omega
    (repeat' (first | ((first | refine sv1 F M (h := ?_) (hr := by ((first | (apply rt_idxA; (exact rfl); (exact rfl); (rw [em]; exact rfl); (exact inferInstance); (exact inferInstance); omega; omega; (exact hd)) | (exact rt_fieldV (ft := 9) (off := 0) rfl rfl (by kernel_rfl) inferInstance rfl)))) | refine pv1 (h := ?_) (hr := by ((first | (apply rt_idxA; (exact rfl); (exact rfl); (rw [em]; exact rfl); (exact inferInstance); (exact inferInstance); omega; omega; (exact hd)) | (exact rt_fieldV (ft := 9) (off := 0) rfl rfl (by kernel_rfl) inferInstance rfl))))); (try (clear F a; intro a F))) | (refine sx_nil ?_; (try (replace F := F.filt [0, 2, 8] rfl))) | (refine sv1 F M (h := ?_); clear F a; intro a F) | refine pv1 (h := ?_) | (refine sv3 F M (h := ?_); clear M; intro w M) | (refine sv2 F M (h := ?_); clear F M a; intro nb a w F M) | refine pv3 (h := ?_) | (refine pv2 (h := ?_); intro nb) | ((first | refine svC F M (h := ?_) | refine svC0 F M (h := ?_) | refine pvC (h := ?_) | refine pvC0 (h := ?_)); (((refine acW (k := 50) (table_spec _) ?_); rintro u L' ⟨rfl, rfl⟩)); (first | refine ⟨rvsA, ?_⟩ | (clear F M a; intro a w F M) | (clear M; intro w M))) | (refine svK F (h := ?_); clear F a; intro a F) | refine svK0 F (h := ?_) | ((refine sx_guardb F rfl (fun hg => ?_) (fun hg => ?_)) <;> (rw [hg] at F; (try (exact no hg)))) | (refine pvF (h := ?_); intro nb) | refine pvK (h := ?_) | refine pvK0 (h := ?_) | (refine pv_nil ?_; intro a w F M; (try (replace F := F.filt [0, 2, 8] rfl))) | ((fail_if_success (with_reducible first | refine isW ?_ | refine isP ?_ | refine isL ?_)); (first | with_reducible refine sx_region ?_ | ((with_reducible refine isK ?_); (first | refine svT F (h := ?_) | refine svF F (h := ?_) | ((refine svB F (fun hc => ?_) (fun hc => ?_)) <;> (try (exact no hc))))) | ((with_reducible refine isD ?_); fail) | with_reducible refine wp_scope_straight ?_ | with_reducible refine wp_label ?_ | go_step))))
    (all_goals ((first | refine svEnd F M ?_ | refine svRet F M ?_); exact ⟨_, _, rfl, ⟨rfl, rfl⟩, M.perms permsA⟩))
  · have hn : auNm k = [] := by rw [auNm, if_pos (by omega)]
    by_cases h3 : k < 1
    · (repeat' (first | (refine sx_nil ?_; (try (replace F := F.filt [0, 2, 8] rfl))) | (refine sv1 F M (h := ?_); clear F a; intro a F) | refine pv1 (h := ?_) | (refine sv3 F M (h := ?_); clear M; intro w M) | (refine sv2 F M (h := ?_); clear F M a; intro nb a w F M) | refine pv3 (h := ?_) | (refine pv2 (h := ?_); intro nb) | ((first | refine svC F M (h := ?_) | refine svC0 F M (h := ?_) | refine pvC (h := ?_) | refine pvC0 (h := ?_)); (((refine acW (k := 50) (table_spec _) ?_); rintro u L' ⟨rfl, rfl⟩)); (first | refine ⟨rvsA, ?_⟩ | (clear F M a; intro a w F M) | (clear M; intro w M))) | (refine svK F (h := ?_); clear F a; intro a F) | refine svK0 F (h := ?_) | ((refine sx_guardb F rfl (fun hg => ?_) (fun hg => ?_)) <;> (rw [hg] at F; (try (exact no hg)))) | (refine pvF (h := ?_); intro nb) | refine pvK (h := ?_) | refine pvK0 (h := ?_) | (refine pv_nil ?_; intro a w F M; (try (replace F := F.filt [0, 2, 8] rfl))) | ((fail_if_success (with_reducible first | refine isW ?_ | refine isP ?_ | refine isL ?_)); (first | with_reducible refine sx_region ?_ | ((with_reducible refine isK ?_); (first | refine svT F (h := ?_) | refine svF F (h := ?_) | ((refine svB F (fun hc => ?_) (fun hc => ?_)) <;> (try (exact no hc))))) | ((with_reducible refine isD ?_); fail) | with_reducible refine wp_scope_straight ?_ | with_reducible refine wp_label ?_ | go_step))))
      (all_goals ((first | refine svEnd F M ?_ | refine svRet F M ?_); exact ⟨_, _, rfl, ⟨by rw [hn]; rfl, rfl⟩, M.perms permsA⟩))
    · have h4 : 12 < k := by omega
      (repeat' (first | (refine sx_nil ?_; (try (replace F := F.filt [0, 2, 8] rfl))) | (refine sv1 F M (h := ?_); clear F a; intro a F) | refine pv1 (h := ?_) | (refine sv3 F M (h := ?_); clear M; intro w M) | (refine sv2 F M (h := ?_); clear F M a; intro nb a w F M) | refine pv3 (h := ?_) | (refine pv2 (h := ?_); intro nb) | ((first | refine svC F M (h := ?_) | refine svC0 F M (h := ?_) | refine pvC (h := ?_) | refine pvC0 (h := ?_)); (((refine acW (k := 50) (table_spec _) ?_); rintro u L' ⟨rfl, rfl⟩)); (first | refine ⟨rvsA, ?_⟩ | (clear F M a; intro a w F M) | (clear M; intro w M))) | (refine svK F (h := ?_); clear F a; intro a F) | refine svK0 F (h := ?_) | ((refine sx_guardb F rfl (fun hg => ?_) (fun hg => ?_)) <;> (rw [hg] at F; (try (exact no hg)))) | (refine pvF (h := ?_); intro nb) | refine pvK (h := ?_) | refine pvK0 (h := ?_) | (refine pv_nil ?_; intro a w F M; (try (replace F := F.filt [0, 2, 8] rfl))) | ((fail_if_success (with_reducible first | refine isW ?_ | refine isP ?_ | refine isL ?_)); (first | with_reducible refine sx_region ?_ | ((with_reducible refine isK ?_); (first | refine svT F (h := ?_) | refine svF F (h := ?_) | ((refine svB F (fun hc => ?_) (fun hc => ?_)) <;> (try (exact no hc))))) | ((with_reducible refine isD ?_); fail) | with_reducible refine wp_scope_straight ?_ | with_reducible refine wp_label ?_ | go_step))))
      (all_goals ((first | refine svEnd F M ?_ | refine svRet F M ?_); exact ⟨_, _, rfl, ⟨by rw [hn]; rfl, rfl⟩, M.perms permsA⟩))
end Go.Proofs.YtopbohbkhljjgaaGreat
end
section
namespace Go.Proofs.YtopbohbkhljjgaaGreat
open Go.RowKit
set_option linter.unusedVariables false
set_option maxRecDepth 100000
set_option linter.unusedSimpArgs false
set_option maxHeartbeats 2000000
instance : DecidableEq Val := fun a b => decidable_of_iff (a.bal = b.bal ∧ a.st = b.st ∧ a.sl = b.sl ∧ a.rq = b.rq ∧ a.ex = b.ex ∧ a.wd = b.wd ∧ a.dl = b.dl) (by cases a; cases b; simp)
/-- slices.Equal: eqs_int the name, slices.Equal[[]int,int] the instance, intL the elements' cells, 1 so many cells, Int the elements. -/
theorem eqs_int (u v : Value) (xs ys : List Int) {L : List Asn} (hu : GS L 1 u xs.length (xs.flatMap intL)) (hv : GS L 1 v ys.length (ys.flatMap intL)) :
    Reads 20 [u, v] (.bool (decide (xs = ys))) L := by
  (intro K hK w M; refine sx_enter Tryz.func20 (n := 26) rfl rfl rfl rfl ?_; intro a F)
  replace hu := hu.imp hK
  replace hv := hv.imp hK
  have hlu := hu.len_le M
  have hlv := hv.len_le M
  by_cases hl : xs.length = ys.length
  · have hR : decide (xs = ys) = decide (xs.drop 0 = ys.drop 0) := by simp
    generalize decide (xs = ys) = R at *
    (repeat' (first | (first | (refine sx_nil ?_; (try (replace F := F.filt [0, 1, 4, 5, 10, 12, 13, 14, 24] rfl))) | (refine sv1 F M (h := ?_) (hr := by (apply (rt_neqT (f := intL)); (exact rfl); (exact rfl); (exact rfl); (exact inferInstance); (exact inferInstance))); clear F a; intro a F) | (refine sv1 F M (h := ?_); clear F a; intro a F) | (refine sv3 F M (h := ?_); clear M; intro w M) | (refine sv2 F M (h := ?_); clear F M a; intro b a w F M) | (refine svC F M (h := ?_); fail; (clear F M a; intro a w F M)) | (refine svC0 F M (h := ?_); fail; (clear M; intro w M)) | (refine sv1 F M (h := ?_) (hr := by fail); clear F a; intro a F) | (refine svK F (h := ?_); clear F a; intro a F) | (refine svK0 F (h := ?_)) | ((refine sx_guardb F rfl (fun hg => ?_) (fun hg => ?_)) <;> (rw [hg] at F; (try (exact no hg))))) | (first | (refine pv1 (h := ?_) (hr := by (apply (rt_neqT (f := intL)); (exact rfl); (exact rfl); (exact rfl); (exact inferInstance); (exact inferInstance)))) | (refine pv1 (h := ?_)) | (refine pv3 (h := ?_)) | (refine pv2 (h := ?_); intro b) | (refine pvC (h := ?_); fail; (refine ⟨?_, ?_⟩; (exact rvsA))) | (refine pvC0 (h := ?_); fail; (refine ⟨?_, ?_⟩; (exact rvsA))) | (refine pv1 (h := ?_) (hr := by fail)) | (refine pvF (h := ?_); intro b) | (refine pvK (h := ?_)) | (refine pvK0 (h := ?_)) | (refine pv_nil ?_; intro a w F M; refine ql_open ?_) | (refine pv_nil ?_; intro a w F M; (try (replace F := F.filt [0, 1, 4, 5, 10, 12, 13, 14, 24] rfl)))) | ((fail_if_success (with_reducible show wpList _ _ _ _ _ _)); (fail_if_success (with_reducible show PW _ _ _ _ _ _ _ _ _ _)); (fail_if_success (with_reducible show Code.wp _ (Code.loop _) _ _ _)); (first | ((with_reducible show Code.wp _ (Code.region _ _ false) _ _ _); (refine sx_region ?_)) | ((with_reducible show Code.wp _ (Code.cond _ _ _) _ _ _); (first | (refine svT F (h := ?_)) | (refine svF F (h := ?_)) | ((refine svB F (fun hc => ?_) (fun hc => ?_)) <;> (try (exact no hc))))) | ((with_reducible show Code.wp _ (Code.region _ _ true) _ _ _); (first | (refine svDraw (id := 6) [] [] [] [0, 1, 2, 3, 4, 5, 6, 7, 8] F M (h := ?_); clear F M a w))) | go_step))))
    refine sv_loop (σ := Nat) (fun s => [(0, u), (1, v), (12, .int .i64 xs.length), (13, .int .i64 s)]) (fun _ => K) (fun s => s ≤ xs.length ∧ R = decide (xs.drop s = ys.drop s)) (fun s => xs.length - s) F M 0 kpA permsA ⟨by omega, hR⟩ ?_
    rintro k ⟨h1, h2⟩ a w F M
    try simp only at h1 h2 F ⊢
    by_cases hlt : k < xs.length
    · obtain ⟨x, hx⟩ : ∃ x, xs[k]? = some x := ⟨xs[k], by simp [hlt]⟩
      obtain ⟨y, hy⟩ : ∃ y, ys[k]? = some y := ⟨ys[k]'(by omega), by rw [List.getElem?_eq_getElem (by omega)]⟩
      rw [drop_cons hx, drop_cons hy] at h2
      by_cases he : x = y
      · subst he
        (repeat' (first | (first | (refine sx_nil ?_; (try (replace F := F.filt [0, 1, 4, 5, 10, 12, 13, 14, 24] rfl))) | (refine sv1 F M (h := ?_) (hr := by (apply (rt_neqT (f := intL)); (exact rfl); (exact rfl); (exact rfl); (exact inferInstance); (exact inferInstance))); clear F a; intro a F) | (refine sv1 F M (h := ?_); clear F a; intro a F) | (refine sv3 F M (h := ?_); clear M; intro w M) | (refine sv2 F M (h := ?_); clear F M a; intro b a w F M) | (refine svC F M (h := ?_); fail; (clear F M a; intro a w F M)) | (refine svC0 F M (h := ?_); fail; (clear M; intro w M)) | (refine sv1 F M (h := ?_) (hr := by fail); clear F a; intro a F) | (refine svK F (h := ?_); clear F a; intro a F) | (refine svK0 F (h := ?_)) | ((refine sx_guardb F rfl (fun hg => ?_) (fun hg => ?_)) <;> (rw [hg] at F; (try (exact no hg))))) | (first | (refine pv1 (h := ?_) (hr := by (apply (rt_neqT (f := intL)); (exact rfl); (exact rfl); (exact rfl); (exact inferInstance); (exact inferInstance)))) | (refine pv1 (h := ?_)) | (refine pv3 (h := ?_)) | (refine pv2 (h := ?_); intro b) | (refine pvC (h := ?_); fail; (refine ⟨?_, ?_⟩; (exact rvsA))) | (refine pvC0 (h := ?_); fail; (refine ⟨?_, ?_⟩; (exact rvsA))) | (refine pv1 (h := ?_) (hr := by fail)) | (refine pvF (h := ?_); intro b) | (refine pvK (h := ?_)) | (refine pvK0 (h := ?_)) | (refine pv_nil ?_; intro a w F M; refine ql_open ?_) | (refine pv_nil ?_; intro a w F M; (try (replace F := F.filt [0, 1, 4, 5, 10, 12, 13, 14, 24] rfl)))) | ((fail_if_success (with_reducible show wpList _ _ _ _ _ _)); (fail_if_success (with_reducible show PW _ _ _ _ _ _ _ _ _ _)); (fail_if_success (with_reducible show Code.wp _ (Code.loop _) _ _ _)); (first | ((with_reducible show Code.wp _ (Code.region _ _ false) _ _ _); (refine sx_region ?_)) | ((with_reducible show Code.wp _ (Code.cond _ _ _) _ _ _); (first | (refine svT F (h := ?_)) | (refine svF F (h := ?_)) | ((refine svB F (fun hc => ?_) (fun hc => ?_)) <;> (try (exact no hc))))) | ((with_reducible show Code.wp _ (Code.region _ _ true) _ _ _); (first | (refine svDraw (id := 6) [] [] [] [0, 1, 2, 3, 4, 5, 6, 7, 8] F M (h := ?_); clear F M a w))) | go_step))))
        (refine sv_again F M (k + 1) kpA permsA ?_ ?_)
        · exact ⟨by omega, by rw [h2]; simp⟩
        · omega
      · (repeat' (first | (first | (refine sx_nil ?_; (try (replace F := F.filt [0, 1, 4, 5, 10, 12, 13, 14, 24] rfl))) | (refine sv1 F M (h := ?_) (hr := by (apply (rt_neqT (f := intL)); (exact rfl); (exact rfl); (exact rfl); (exact inferInstance); (exact inferInstance))); clear F a; intro a F) | (refine sv1 F M (h := ?_); clear F a; intro a F) | (refine sv3 F M (h := ?_); clear M; intro w M) | (refine sv2 F M (h := ?_); clear F M a; intro b a w F M) | (refine svC F M (h := ?_); fail; (clear F M a; intro a w F M)) | (refine svC0 F M (h := ?_); fail; (clear M; intro w M)) | (refine sv1 F M (h := ?_) (hr := by fail); clear F a; intro a F) | (refine svK F (h := ?_); clear F a; intro a F) | (refine svK0 F (h := ?_)) | ((refine sx_guardb F rfl (fun hg => ?_) (fun hg => ?_)) <;> (rw [hg] at F; (try (exact no hg))))) | (first | (refine pv1 (h := ?_) (hr := by (apply (rt_neqT (f := intL)); (exact rfl); (exact rfl); (exact rfl); (exact inferInstance); (exact inferInstance)))) | (refine pv1 (h := ?_)) | (refine pv3 (h := ?_)) | (refine pv2 (h := ?_); intro b) | (refine pvC (h := ?_); fail; (refine ⟨?_, ?_⟩; (exact rvsA))) | (refine pvC0 (h := ?_); fail; (refine ⟨?_, ?_⟩; (exact rvsA))) | (refine pv1 (h := ?_) (hr := by fail)) | (refine pvF (h := ?_); intro b) | (refine pvK (h := ?_)) | (refine pvK0 (h := ?_)) | (refine pv_nil ?_; intro a w F M; refine ql_open ?_) | (refine pv_nil ?_; intro a w F M; (try (replace F := F.filt [0, 1, 4, 5, 10, 12, 13, 14, 24] rfl)))) | ((fail_if_success (with_reducible show wpList _ _ _ _ _ _)); (fail_if_success (with_reducible show PW _ _ _ _ _ _ _ _ _ _)); (fail_if_success (with_reducible show Code.wp _ (Code.loop _) _ _ _)); (first | ((with_reducible show Code.wp _ (Code.region _ _ false) _ _ _); (refine sx_region ?_)) | ((with_reducible show Code.wp _ (Code.cond _ _ _) _ _ _); (first | (refine svT F (h := ?_)) | (refine svF F (h := ?_)) | ((refine svB F (fun hc => ?_) (fun hc => ?_)) <;> (try (exact no hc))))) | ((with_reducible show Code.wp _ (Code.region _ _ true) _ _ _); (first | (refine svDraw (id := 6) [] [] [] [0, 1, 2, 3, 4, 5, 6, 7, 8] F M (h := ?_); clear F M a w))) | go_step))))
        (all_goals ((first | (refine svEnd F M ?_) | (refine svRet F M ?_)); refine ⟨?_, M.perms permsA⟩))
        rw [h2]; simp [tupOf, he]
    · (repeat' (first | (first | (refine sx_nil ?_; (try (replace F := F.filt [0, 1, 4, 5, 10, 12, 13, 14, 24] rfl))) | (refine sv1 F M (h := ?_) (hr := by (apply (rt_neqT (f := intL)); (exact rfl); (exact rfl); (exact rfl); (exact inferInstance); (exact inferInstance))); clear F a; intro a F) | (refine sv1 F M (h := ?_); clear F a; intro a F) | (refine sv3 F M (h := ?_); clear M; intro w M) | (refine sv2 F M (h := ?_); clear F M a; intro b a w F M) | (refine svC F M (h := ?_); fail; (clear F M a; intro a w F M)) | (refine svC0 F M (h := ?_); fail; (clear M; intro w M)) | (refine sv1 F M (h := ?_) (hr := by fail); clear F a; intro a F) | (refine svK F (h := ?_); clear F a; intro a F) | (refine svK0 F (h := ?_)) | ((refine sx_guardb F rfl (fun hg => ?_) (fun hg => ?_)) <;> (rw [hg] at F; (try (exact no hg))))) | (first | (refine pv1 (h := ?_) (hr := by (apply (rt_neqT (f := intL)); (exact rfl); (exact rfl); (exact rfl); (exact inferInstance); (exact inferInstance)))) | (refine pv1 (h := ?_)) | (refine pv3 (h := ?_)) | (refine pv2 (h := ?_); intro b) | (refine pvC (h := ?_); fail; (refine ⟨?_, ?_⟩; (exact rvsA))) | (refine pvC0 (h := ?_); fail; (refine ⟨?_, ?_⟩; (exact rvsA))) | (refine pv1 (h := ?_) (hr := by fail)) | (refine pvF (h := ?_); intro b) | (refine pvK (h := ?_)) | (refine pvK0 (h := ?_)) | (refine pv_nil ?_; intro a w F M; refine ql_open ?_) | (refine pv_nil ?_; intro a w F M; (try (replace F := F.filt [0, 1, 4, 5, 10, 12, 13, 14, 24] rfl)))) | ((fail_if_success (with_reducible show wpList _ _ _ _ _ _)); (fail_if_success (with_reducible show PW _ _ _ _ _ _ _ _ _ _)); (fail_if_success (with_reducible show Code.wp _ (Code.loop _) _ _ _)); (first | ((with_reducible show Code.wp _ (Code.region _ _ false) _ _ _); (refine sx_region ?_)) | ((with_reducible show Code.wp _ (Code.cond _ _ _) _ _ _); (first | (refine svT F (h := ?_)) | (refine svF F (h := ?_)) | ((refine svB F (fun hc => ?_) (fun hc => ?_)) <;> (try (exact no hc))))) | ((with_reducible show Code.wp _ (Code.region _ _ true) _ _ _); (first | (refine svDraw (id := 6) [] [] [] [0, 1, 2, 3, 4, 5, 6, 7, 8] F M (h := ?_); clear F M a w))) | go_step))))
      (all_goals ((first | (refine svEnd F M ?_) | (refine svRet F M ?_)); refine ⟨?_, M.perms permsA⟩))
      rw [h2, List.drop_of_length_le (by omega), List.drop_of_length_le (by omega)]; rfl
  · have hne : xs ≠ ys := fun e => hl (by rw [e])
    have hl' : ¬ ((xs.length : Int) = (ys.length : Int)) := by omega
    (repeat' (first | (first | (refine sx_nil ?_; (try (replace F := F.filt [0, 1, 4, 5, 10, 12, 13, 14, 24] rfl))) | (refine sv1 F M (h := ?_) (hr := by (apply (rt_neqT (f := intL)); (exact rfl); (exact rfl); (exact rfl); (exact inferInstance); (exact inferInstance))); clear F a; intro a F) | (refine sv1 F M (h := ?_); clear F a; intro a F) | (refine sv3 F M (h := ?_); clear M; intro w M) | (refine sv2 F M (h := ?_); clear F M a; intro b a w F M) | (refine svC F M (h := ?_); fail; (clear F M a; intro a w F M)) | (refine svC0 F M (h := ?_); fail; (clear M; intro w M)) | (refine sv1 F M (h := ?_) (hr := by fail); clear F a; intro a F) | (refine svK F (h := ?_); clear F a; intro a F) | (refine svK0 F (h := ?_)) | ((refine sx_guardb F rfl (fun hg => ?_) (fun hg => ?_)) <;> (rw [hg] at F; (try (exact no hg))))) | (first | (refine pv1 (h := ?_) (hr := by (apply (rt_neqT (f := intL)); (exact rfl); (exact rfl); (exact rfl); (exact inferInstance); (exact inferInstance)))) | (refine pv1 (h := ?_)) | (refine pv3 (h := ?_)) | (refine pv2 (h := ?_); intro b) | (refine pvC (h := ?_); fail; (refine ⟨?_, ?_⟩; (exact rvsA))) | (refine pvC0 (h := ?_); fail; (refine ⟨?_, ?_⟩; (exact rvsA))) | (refine pv1 (h := ?_) (hr := by fail)) | (refine pvF (h := ?_); intro b) | (refine pvK (h := ?_)) | (refine pvK0 (h := ?_)) | (refine pv_nil ?_; intro a w F M; refine ql_open ?_) | (refine pv_nil ?_; intro a w F M; (try (replace F := F.filt [0, 1, 4, 5, 10, 12, 13, 14, 24] rfl)))) | ((fail_if_success (with_reducible show wpList _ _ _ _ _ _)); (fail_if_success (with_reducible show PW _ _ _ _ _ _ _ _ _ _)); (fail_if_success (with_reducible show Code.wp _ (Code.loop _) _ _ _)); (first | ((with_reducible show Code.wp _ (Code.region _ _ false) _ _ _); (refine sx_region ?_)) | ((with_reducible show Code.wp _ (Code.cond _ _ _) _ _ _); (first | (refine svT F (h := ?_)) | (refine svF F (h := ?_)) | ((refine svB F (fun hc => ?_) (fun hc => ?_)) <;> (try (exact no hc))))) | ((with_reducible show Code.wp _ (Code.region _ _ true) _ _ _); (first | (refine svDraw (id := 6) [] [] [] [0, 1, 2, 3, 4, 5, 6, 7, 8] F M (h := ?_); clear F M a w))) | go_step))))
    (all_goals ((first | (refine svEnd F M ?_) | (refine svRet F M ?_)); refine ⟨?_, M.perms permsA⟩))
    simp [tupOf, hne]
/-- slices.Equal: eqs_val the name, slices.Equal[[]egress/api.Validator,egress/api.Validator] the instance, valL the elements' cells, 7 so many cells, Val the elements. -/
theorem eqs_val (u v : Value) (xs ys : List Val) {L : List Asn} (hu : GS L 7 u xs.length (xs.flatMap valL)) (hv : GS L 7 v ys.length (ys.flatMap valL)) :
    Reads 27 [u, v] (.bool (decide (xs = ys))) L := by
  (intro K hK w M; refine sx_enter Tryz.func27 (n := 26) rfl rfl rfl rfl ?_; intro a F)
  replace hu := hu.imp hK
  replace hv := hv.imp hK
  have hlu := hu.len_le M
  have hlv := hv.len_le M
  by_cases hl : xs.length = ys.length
  · have hR : decide (xs = ys) = decide (xs.drop 0 = ys.drop 0) := by simp
    generalize decide (xs = ys) = R at *
    (repeat' (first | (first | (refine sx_nil ?_; (try (replace F := F.filt [0, 1, 4, 5, 10, 12, 13, 14, 24] rfl))) | (refine sv1 F M (h := ?_) (hr := by (apply (rt_neqT (f := valL)); (exact rfl); (exact rfl); (exact rfl); (exact inferInstance); (exact inferInstance))); clear F a; intro a F) | (refine sv1 F M (h := ?_); clear F a; intro a F) | (refine sv3 F M (h := ?_); clear M; intro w M) | (refine sv2 F M (h := ?_); clear F M a; intro b a w F M) | (refine svC F M (h := ?_); fail; (clear F M a; intro a w F M)) | (refine svC0 F M (h := ?_); fail; (clear M; intro w M)) | (refine sv1 F M (h := ?_) (hr := by fail); clear F a; intro a F) | (refine svK F (h := ?_); clear F a; intro a F) | (refine svK0 F (h := ?_)) | ((refine sx_guardb F rfl (fun hg => ?_) (fun hg => ?_)) <;> (rw [hg] at F; (try (exact no hg))))) | (first | (refine pv1 (h := ?_) (hr := by (apply (rt_neqT (f := valL)); (exact rfl); (exact rfl); (exact rfl); (exact inferInstance); (exact inferInstance)))) | (refine pv1 (h := ?_)) | (refine pv3 (h := ?_)) | (refine pv2 (h := ?_); intro b) | (refine pvC (h := ?_); fail; (refine ⟨?_, ?_⟩; (exact rvsA))) | (refine pvC0 (h := ?_); fail; (refine ⟨?_, ?_⟩; (exact rvsA))) | (refine pv1 (h := ?_) (hr := by fail)) | (refine pvF (h := ?_); intro b) | (refine pvK (h := ?_)) | (refine pvK0 (h := ?_)) | (refine pv_nil ?_; intro a w F M; refine ql_open ?_) | (refine pv_nil ?_; intro a w F M; (try (replace F := F.filt [0, 1, 4, 5, 10, 12, 13, 14, 24] rfl)))) | ((fail_if_success (with_reducible show wpList _ _ _ _ _ _)); (fail_if_success (with_reducible show PW _ _ _ _ _ _ _ _ _ _)); (fail_if_success (with_reducible show Code.wp _ (Code.loop _) _ _ _)); (first | ((with_reducible show Code.wp _ (Code.region _ _ false) _ _ _); (refine sx_region ?_)) | ((with_reducible show Code.wp _ (Code.cond _ _ _) _ _ _); (first | (refine svT F (h := ?_)) | (refine svF F (h := ?_)) | ((refine svB F (fun hc => ?_) (fun hc => ?_)) <;> (try (exact no hc))))) | ((with_reducible show Code.wp _ (Code.region _ _ true) _ _ _); (first | (refine svDraw (id := 6) [] [] [] [0, 1, 2, 3, 4, 5, 6, 7, 8] F M (h := ?_); clear F M a w))) | go_step))))
    refine sv_loop (σ := Nat) (fun s => [(0, u), (1, v), (12, .int .i64 xs.length), (13, .int .i64 s)]) (fun _ => K) (fun s => s ≤ xs.length ∧ R = decide (xs.drop s = ys.drop s)) (fun s => xs.length - s) F M 0 kpA permsA ⟨by omega, hR⟩ ?_
    rintro k ⟨h1, h2⟩ a w F M
    try simp only at h1 h2 F ⊢
    by_cases hlt : k < xs.length
    · obtain ⟨x, hx⟩ : ∃ x, xs[k]? = some x := ⟨xs[k], by simp [hlt]⟩
      obtain ⟨y, hy⟩ : ∃ y, ys[k]? = some y := ⟨ys[k]'(by omega), by rw [List.getElem?_eq_getElem (by omega)]⟩
      rw [drop_cons hx, drop_cons hy] at h2
      by_cases he : x = y
      · subst he
        (repeat' (first | (first | (refine sx_nil ?_; (try (replace F := F.filt [0, 1, 4, 5, 10, 12, 13, 14, 24] rfl))) | (refine sv1 F M (h := ?_) (hr := by (apply (rt_neqT (f := valL)); (exact rfl); (exact rfl); (exact rfl); (exact inferInstance); (exact inferInstance))); clear F a; intro a F) | (refine sv1 F M (h := ?_); clear F a; intro a F) | (refine sv3 F M (h := ?_); clear M; intro w M) | (refine sv2 F M (h := ?_); clear F M a; intro b a w F M) | (refine svC F M (h := ?_); fail; (clear F M a; intro a w F M)) | (refine svC0 F M (h := ?_); fail; (clear M; intro w M)) | (refine sv1 F M (h := ?_) (hr := by fail); clear F a; intro a F) | (refine svK F (h := ?_); clear F a; intro a F) | (refine svK0 F (h := ?_)) | ((refine sx_guardb F rfl (fun hg => ?_) (fun hg => ?_)) <;> (rw [hg] at F; (try (exact no hg))))) | (first | (refine pv1 (h := ?_) (hr := by (apply (rt_neqT (f := valL)); (exact rfl); (exact rfl); (exact rfl); (exact inferInstance); (exact inferInstance)))) | (refine pv1 (h := ?_)) | (refine pv3 (h := ?_)) | (refine pv2 (h := ?_); intro b) | (refine pvC (h := ?_); fail; (refine ⟨?_, ?_⟩; (exact rvsA))) | (refine pvC0 (h := ?_); fail; (refine ⟨?_, ?_⟩; (exact rvsA))) | (refine pv1 (h := ?_) (hr := by fail)) | (refine pvF (h := ?_); intro b) | (refine pvK (h := ?_)) | (refine pvK0 (h := ?_)) | (refine pv_nil ?_; intro a w F M; refine ql_open ?_) | (refine pv_nil ?_; intro a w F M; (try (replace F := F.filt [0, 1, 4, 5, 10, 12, 13, 14, 24] rfl)))) | ((fail_if_success (with_reducible show wpList _ _ _ _ _ _)); (fail_if_success (with_reducible show PW _ _ _ _ _ _ _ _ _ _)); (fail_if_success (with_reducible show Code.wp _ (Code.loop _) _ _ _)); (first | ((with_reducible show Code.wp _ (Code.region _ _ false) _ _ _); (refine sx_region ?_)) | ((with_reducible show Code.wp _ (Code.cond _ _ _) _ _ _); (first | (refine svT F (h := ?_)) | (refine svF F (h := ?_)) | ((refine svB F (fun hc => ?_) (fun hc => ?_)) <;> (try (exact no hc))))) | ((with_reducible show Code.wp _ (Code.region _ _ true) _ _ _); (first | (refine svDraw (id := 6) [] [] [] [0, 1, 2, 3, 4, 5, 6, 7, 8] F M (h := ?_); clear F M a w))) | go_step))))
        (refine sv_again F M (k + 1) kpA permsA ?_ ?_)
        · exact ⟨by omega, by rw [h2]; simp⟩
        · omega
      · (repeat' (first | (first | (refine sx_nil ?_; (try (replace F := F.filt [0, 1, 4, 5, 10, 12, 13, 14, 24] rfl))) | (refine sv1 F M (h := ?_) (hr := by (apply (rt_neqT (f := valL)); (exact rfl); (exact rfl); (exact rfl); (exact inferInstance); (exact inferInstance))); clear F a; intro a F) | (refine sv1 F M (h := ?_); clear F a; intro a F) | (refine sv3 F M (h := ?_); clear M; intro w M) | (refine sv2 F M (h := ?_); clear F M a; intro b a w F M) | (refine svC F M (h := ?_); fail; (clear F M a; intro a w F M)) | (refine svC0 F M (h := ?_); fail; (clear M; intro w M)) | (refine sv1 F M (h := ?_) (hr := by fail); clear F a; intro a F) | (refine svK F (h := ?_); clear F a; intro a F) | (refine svK0 F (h := ?_)) | ((refine sx_guardb F rfl (fun hg => ?_) (fun hg => ?_)) <;> (rw [hg] at F; (try (exact no hg))))) | (first | (refine pv1 (h := ?_) (hr := by (apply (rt_neqT (f := valL)); (exact rfl); (exact rfl); (exact rfl); (exact inferInstance); (exact inferInstance)))) | (refine pv1 (h := ?_)) | (refine pv3 (h := ?_)) | (refine pv2 (h := ?_); intro b) | (refine pvC (h := ?_); fail; (refine ⟨?_, ?_⟩; (exact rvsA))) | (refine pvC0 (h := ?_); fail; (refine ⟨?_, ?_⟩; (exact rvsA))) | (refine pv1 (h := ?_) (hr := by fail)) | (refine pvF (h := ?_); intro b) | (refine pvK (h := ?_)) | (refine pvK0 (h := ?_)) | (refine pv_nil ?_; intro a w F M; refine ql_open ?_) | (refine pv_nil ?_; intro a w F M; (try (replace F := F.filt [0, 1, 4, 5, 10, 12, 13, 14, 24] rfl)))) | ((fail_if_success (with_reducible show wpList _ _ _ _ _ _)); (fail_if_success (with_reducible show PW _ _ _ _ _ _ _ _ _ _)); (fail_if_success (with_reducible show Code.wp _ (Code.loop _) _ _ _)); (first | ((with_reducible show Code.wp _ (Code.region _ _ false) _ _ _); (refine sx_region ?_)) | ((with_reducible show Code.wp _ (Code.cond _ _ _) _ _ _); (first | (refine svT F (h := ?_)) | (refine svF F (h := ?_)) | ((refine svB F (fun hc => ?_) (fun hc => ?_)) <;> (try (exact no hc))))) | ((with_reducible show Code.wp _ (Code.region _ _ true) _ _ _); (first | (refine svDraw (id := 6) [] [] [] [0, 1, 2, 3, 4, 5, 6, 7, 8] F M (h := ?_); clear F M a w))) | go_step))))
        (all_goals ((first | (refine svEnd F M ?_) | (refine svRet F M ?_)); refine ⟨?_, M.perms permsA⟩))
        rw [h2]; simp [tupOf, he]
    · (repeat' (first | (first | (refine sx_nil ?_; (try (replace F := F.filt [0, 1, 4, 5, 10, 12, 13, 14, 24] rfl))) | (refine sv1 F M (h := ?_) (hr := by (apply (rt_neqT (f := valL)); (exact rfl); (exact rfl); (exact rfl); (exact inferInstance); (exact inferInstance))); clear F a; intro a F) | (refine sv1 F M (h := ?_); clear F a; intro a F) | (refine sv3 F M (h := ?_); clear M; intro w M) | (refine sv2 F M (h := ?_); clear F M a; intro b a w F M) | (refine svC F M (h := ?_); fail; (clear F M a; intro a w F M)) | (refine svC0 F M (h := ?_); fail; (clear M; intro w M)) | (refine sv1 F M (h := ?_) (hr := by fail); clear F a; intro a F) | (refine svK F (h := ?_); clear F a; intro a F) | (refine svK0 F (h := ?_)) | ((refine sx_guardb F rfl (fun hg => ?_) (fun hg => ?_)) <;> (rw [hg] at F; (try (exact no hg))))) | (first | (refine pv1 (h := ?_) (hr := by (apply (rt_neqT (f := valL)); (exact rfl); (exact rfl); (exact rfl); (exact inferInstance); (exact inferInstance)))) | (refine pv1 (h := ?_)) | (refine pv3 (h := ?_)) | (refine pv2 (h := ?_); intro b) | (refine pvC (h := ?_); fail; (refine ⟨?_, ?_⟩; (exact rvsA))) | (refine pvC0 (h := ?_); fail; (refine ⟨?_, ?_⟩; (exact rvsA))) | (refine pv1 (h := ?_) (hr := by fail)) | (refine pvF (h := ?_); intro b) | (refine pvK (h := ?_)) | (refine pvK0 (h := ?_)) | (refine pv_nil ?_; intro a w F M; refine ql_open ?_) | (refine pv_nil ?_; intro a w F M; (try (replace F := F.filt [0, 1, 4, 5, 10, 12, 13, 14, 24] rfl)))) | ((fail_if_success (with_reducible show wpList _ _ _ _ _ _)); (fail_if_success (with_reducible show PW _ _ _ _ _ _ _ _ _ _)); (fail_if_success (with_reducible show Code.wp _ (Code.loop _) _ _ _)); (first | ((with_reducible show Code.wp _ (Code.region _ _ false) _ _ _); (refine sx_region ?_)) | ((with_reducible show Code.wp _ (Code.cond _ _ _) _ _ _); (first | (refine svT F (h := ?_)) | (refine svF F (h := ?_)) | ((refine svB F (fun hc => ?_) (fun hc => ?_)) <;> (try (exact no hc))))) | ((with_reducible show Code.wp _ (Code.region _ _ true) _ _ _); (first | (refine svDraw (id := 6) [] [] [] [0, 1, 2, 3, 4, 5, 6, 7, 8] F M (h := ?_); clear F M a w))) | go_step))))
      (all_goals ((first | (refine svEnd F M ?_) | (refine svRet F M ?_)); refine ⟨?_, M.perms permsA⟩))
      rw [h2, List.drop_of_length_le (by omega), List.drop_of_length_le (by omega)]; rfl
  · have hne : xs ≠ ys := fun e => hl (by rw [e])
    have hl' : ¬ ((xs.length : Int) = (ys.length : Int)) := by omega
    (repeat' (first | (first | (refine sx_nil ?_; (try (replace F := F.filt [0, 1, 4, 5, 10, 12, 13, 14, 24] rfl))) | (refine sv1 F M (h := ?_) (hr := by (apply (rt_neqT (f := valL)); (exact rfl); (exact rfl); (exact rfl); (exact inferInstance); (exact inferInstance))); clear F a; intro a F) | (refine sv1 F M (h := ?_); clear F a; intro a F) | (refine sv3 F M (h := ?_); clear M; intro w M) | (refine sv2 F M (h := ?_); clear F M a; intro b a w F M) | (refine svC F M (h := ?_); fail; (clear F M a; intro a w F M)) | (refine svC0 F M (h := ?_); fail; (clear M; intro w M)) | (refine sv1 F M (h := ?_) (hr := by fail); clear F a; intro a F) | (refine svK F (h := ?_); clear F a; intro a F) | (refine svK0 F (h := ?_)) | ((refine sx_guardb F rfl (fun hg => ?_) (fun hg => ?_)) <;> (rw [hg] at F; (try (exact no hg))))) | (first | (refine pv1 (h := ?_) (hr := by (apply (rt_neqT (f := valL)); (exact rfl); (exact rfl); (exact rfl); (exact inferInstance); (exact inferInstance)))) | (refine pv1 (h := ?_)) | (refine pv3 (h := ?_)) | (refine pv2 (h := ?_); intro b) | (refine pvC (h := ?_); fail; (refine ⟨?_, ?_⟩; (exact rvsA))) | (refine pvC0 (h := ?_); fail; (refine ⟨?_, ?_⟩; (exact rvsA))) | (refine pv1 (h := ?_) (hr := by fail)) | (refine pvF (h := ?_); intro b) | (refine pvK (h := ?_)) | (refine pvK0 (h := ?_)) | (refine pv_nil ?_; intro a w F M; refine ql_open ?_) | (refine pv_nil ?_; intro a w F M; (try (replace F := F.filt [0, 1, 4, 5, 10, 12, 13, 14, 24] rfl)))) | ((fail_if_success (with_reducible show wpList _ _ _ _ _ _)); (fail_if_success (with_reducible show PW _ _ _ _ _ _ _ _ _ _)); (fail_if_success (with_reducible show Code.wp _ (Code.loop _) _ _ _)); (first | ((with_reducible show Code.wp _ (Code.region _ _ false) _ _ _); (refine sx_region ?_)) | ((with_reducible show Code.wp _ (Code.cond _ _ _) _ _ _); (first | (refine svT F (h := ?_)) | (refine svF F (h := ?_)) | ((refine svB F (fun hc => ?_) (fun hc => ?_)) <;> (try (exact no hc))))) | ((with_reducible show Code.wp _ (Code.region _ _ true) _ _ _); (first | (refine svDraw (id := 6) [] [] [] [0, 1, 2, 3, 4, 5, 6, 7, 8] F M (h := ?_); clear F M a w))) | go_step))))
    (all_goals ((first | (refine svEnd F M ?_) | (refine svRet F M ?_)); refine ⟨?_, M.perms permsA⟩))
    simp [tupOf, hne]
end Go.Proofs.YtopbohbkhljjgaaGreat
end
section
namespace Go.Proofs.YtopbohbkhljjgaaGreat
open Go.RowKit
set_option linter.unusedVariables false
set_option maxRecDepth 100000
inductive Tr where
  | nil
  | cons (i : Nat) (js : List Nat) (r : Tr)
  | alt (l r : Tr)
/-- The first acts of a tree. -/
def firstsT (E : List Nat) : Tr → List Nat
  | .nil => []
  | .cons i _ r => cond (E.contains i) [i] (firstsT E r)
  | .alt l r => firstsT E l ++ firstsT E r
def startsT (E : List Nat) : Tr → Bool
  | .nil => false
  | .cons i _ _ => E.contains i
  | .alt l r => startsT E l && startsT E r
def memT (i : Nat) : Tr → Bool
  | .nil => false
  | .cons j _ r => Nat.beq j i || memT i r
  | .alt l r => memT i l && memT i r
def chkT (B : Array Nat) (E Fl done : List Nat) (i : Nat) : Bool :=
  ((done.takeWhile fun e => !E.contains e).all fun e => !Fl.contains e || (B.getD i 0).testBit e) && (E.contains i || match done.find? (fun e => E.contains e) with | none => true | some m => (B.getD i 0).testBit m)
def complT (B : Array Nat) (E done : List Nat) (t : Tr) : Bool :=
  E.all fun i => done.contains i || (firstsT E t).contains i || E.any fun e => !done.contains e && (B.getD i 0).testBit e
def ordT (ops : Array Oper) (B : Array Nat) (E Fl : List Nat) : List Nat → Tr → Bool
  | _, .nil => true
  | done, .cons i js r =>
    (match ops[i]? with
     | none => false
     | some o => o.after.all fun e => !Region.binds .any e || done.contains e.on) &&
    (Fl.contains i || chkT B E Fl done i) && !done.contains i && (!E.contains i || done.all fun j => E.contains j || Fl.contains j || (B.getD i 0).testBit j || js.contains j) && complT B E (i :: done) r && ordT ops B E Fl (i :: done) r
  | done, .alt l r => startsT E l && startsT E r && ordT ops B E Fl done l && ordT ops B E Fl done r
def drawT (ops : Array Oper) (E Fl : List Nat) (t : Tr) (n : Nat) : Bool :=
  fixB ops && ordT ops (Region.before ops) E Fl [] t && ((List.range ops.size).all fun i => memT i t) && (Fl.all fun i => !E.contains i && (match ops[i]? with | some o => (match o.op, o.guard, o.dst with | .alloc _, none, some _ => true | _, _, _ => false) | none => false)) && (ops.all fun o => match o.dst with | none => true | some d => Nat.ble (d + 1) n) && (E.all fun i => Nat.ble (i + 1) ops.size) && complT (Region.before ops) E [] t
section
variable {P : Program} {ops : Array Oper} {Q : Exit → Act → World → Prop} {n : Nat} {E Fl : List Nat}
def PV (P : Program) (ops : Array Oper) (n : Nat) (Q : Exit → Act → World → Prop) (E Fl : List Nat) : Tr → List (Nat × Value) → List Asn → Prop
  | .nil, l, L => ∀ a w, Fr a n l → Mem w L → Q .normal a w
  | .alt t1 t2, l, L => PV P ops n Q E Fl t1 l L ∧ PV P ops n Q E Fl t2 l L
  | .cons i js rest, l, L =>
    match ops[i]? with
    | none => False
    | some o =>
      if Fl.contains i then
        ∃ cs t, News P o cs t ∧ ∀ b, PV P ops n Q E Fl rest (putL o.dst (.pointer (some ⟨b, 0, none⟩)) l) (pt b cs t :: L)
      else if E.contains i then
        (Wanted o ops l = some true ∧ Acts P o l L n fun v L' => Rvs P ops n js (putL o.dst v l) L' ∧ PV P ops n Q E Fl rest (putL o.dst v l) L') ∨
        (Wanted o ops l = some false ∧ PV P ops n Q E Fl rest (putL o.dst undef l) L)
      else ∃ v, RdV P ops n o v l L ∧ PV P ops n Q E Fl rest (putL o.dst v l) L
structure PreT (P : Program) (ops : Array Oper) (n : Nat) (Q : Exit → Act → World → Prop) (E Fl : List Nat) (listed : Array Bool) (a : Act) (w : World) (done : List Nat) (rest : Tr) (l : List (Nat × Value)) (L : List Asn) (ear : List (Nat × Nat × Asn)) : Prop where
  pw : PV P ops n Q E Fl rest l L
  ord : ordT ops (Region.before ops) E Fl done rest = true
  perm : ∀ i, i < ops.size → i ∈ done ∨ memT i rest = true
  mem : Mem w (L ++ ear.map (·.2.2))
  early : ∀ x ∈ ear, ∃ o cs t d, ops[x.1]? = some o ∧ News P o cs t ∧ x.2.2 = pt x.2.1 cs t ∧ o.dst = some d ∧ a.tmps.getD d undef = .pointer (some ⟨x.2.1, 0, none⟩) ∧ Fl.contains x.1 = true ∧ listed.getD x.1 true = true ∧ x.1 ∉ done
  once : (ear.map (·.1)).Nodup
  sub : ∀ j, j < ops.size → listed.getD j true = true → j ∈ done ∨ j ∈ ear.map (·.1)
  effs : ∀ j ∈ done, (E.contains j = true ∨ Fl.contains j = true) → listed.getD j true = true
  dcl : ∀ j ∈ done, ∀ oj, ops[j]? = some oj → ∀ e ∈ oj.after, Region.binds .any e = true → e.on ∈ done
  closed : ∀ (j : Nat) (o : Oper), ops[j]? = some o → listed.getD j true = true → ∀ e ∈ o.after, Region.binds .any e = true → listed.getD e.on true = true
  ds : a.defers = []
  size : a.tmps.size = n
  lt : ∀ t v, look l t = some v → t < n
  slots : ∀ t v, look l t = some v → a.tmps.getD t undef = v ∨ (∃ j o, ops[j]? = some o ∧ listed.getD j true = false ∧ o.dst = some t) ∨ ∃ x ∈ ear, ∃ o, ops[x.1]? = some o ∧ o.dst = some t
  valid : ∀ j ∈ done, listed.getD j true = false → Valid P ops n l L j
def HeadT (E Fl : List Nat) (listed : Array Bool) : Tr → Prop
  | .nil => True
  | .cons i _ _ => Fl.contains i = false ∧ E.contains i = true ∨ Fl.contains i = true ∧ listed.getD i true = false
  | .alt l r => startsT E l = true ∧ startsT E r = true
/-- What comes next and only reads, or has been made already, is taken. -/
theorem normT (hB : fixB ops = true) (hn : ∀ (i : Nat) (o : Oper) (d : Nat), ops[i]? = some o → o.dst = some d → d < n) {listed : Array Bool} {a : Act} {w : World} :
    ∀ (rest : Tr) (done : List Nat) (l : List (Nat × Value)) (L : List Asn) (ear : List (Nat × Nat × Asn)), PreT P ops n Q E Fl listed a w done rest l L ear → complT (Region.before ops) E done rest = true → ∃ done' rest' l' L' ear', PreT P ops n Q E Fl listed a w done' rest' l' L' ear' ∧ HeadT E Fl listed rest' ∧ complT (Region.before ops) E done' rest' = true := by
  intro rest
  induction rest with
  | nil => exact fun done l L ear I hcm => ⟨done, .nil, l, L, ear, I, trivial, hcm⟩
  | alt t1 t2 _ _ =>
    intro done l L ear I hcm
    have ho := I.ord
    rw [ordT] at ho
    simp only [Bool.and_eq_true] at ho
    exact ⟨done, .alt t1 t2, l, L, ear, I, ⟨ho.1.1.1, ho.1.1.2⟩, hcm⟩
  | cons i js rest ih =>
    intro done l L ear I hcm
    have ho := I.ord
    rw [ordT] at ho
    simp only [Bool.and_eq_true] at ho
    obtain ⟨⟨⟨⟨⟨ho1, ho2⟩, ho3⟩, ho5⟩, ho6⟩, ho4⟩ := ho
    have hni : i ∉ done := by simpa using ho3
    have h := I.pw
    rw [PV] at h
    cases hoi : ops[i]? with
    | none => rw [hoi] at h; exact h.elim
    | some o =>
      rw [hoi] at h ho1
      simp only at h
      have hlo : i < ops.size := (Array.getElem?_eq_some_iff.1 hoi).1
      have hedges : ∀ e ∈ o.after, Region.binds .any e = true → e.on ∈ done := fun e hem heb => by
        have := Array.all_eq_true_iff_forall_mem.1 ho1 e hem
        simpa [heb] using this
      have hcl' : ∀ j ∈ i :: done, ∀ oj, ops[j]? = some oj → ∀ e ∈ oj.after, Region.binds .any e = true → e.on ∈ i :: done := fun j hj oj hoj e hem heb => by
        rcases List.mem_cons.1 hj with rfl | hj
        · rw [hoi] at hoj; cases hoj
          exact List.mem_cons_of_mem _ (hedges e hem heb)
        · exact List.mem_cons_of_mem _ (I.dcl j hj oj hoj e hem heb)
      have hperm' : ∀ k, k < ops.size → k ∈ i :: done ∨ memT k rest = true := fun k hk => by
        rcases I.perm k hk with h | h
        · exact .inl (List.mem_cons_of_mem _ h)
        · rw [memT, Bool.or_eq_true] at h
          rcases h with h | h
          · exact .inl (by rw [Nat.eq_of_beq_eq_true h]; simp)
          · exact .inr h
      by_cases hf : Fl.contains i = true
      ·
        by_cases hli : listed.getD i true = true
        · have hear := (I.sub i hlo hli).resolve_left hni
          obtain ⟨x, hx, hxi⟩ := List.mem_map.1 hear
          obtain ⟨e1, e2, rfl⟩ := List.append_of_mem hx
          obtain ⟨j, b, A⟩ := x
          simp only at hxi
          subst hxi
          obtain ⟨o', cs', t', d, q1, q2, q3, q4, q5, q6, q7, q8⟩ := I.early (j, b, A) hx
          simp only at q1 q3 q5 q6 q7 q8
          rw [hoi] at q1; cases q1
          simp only [hf, if_true] at h
          obtain ⟨cs, t, hnew, hpw⟩ := h
          obtain ⟨rfl, rfl⟩ := hnew.uniq q2
          subst q3
          have honce := I.once
          simp only [List.map_append, List.map_cons, List.nodup_append, List.nodup_cons, List.mem_cons] at honce
          obtain ⟨n1, ⟨n2, n3⟩, n4⟩ := honce
          have hjne : ∀ y ∈ e1 ++ e2, y.1 ≠ j := fun y hy e => by
            rcases List.mem_append.1 hy with hy | hy
            · exact n4 y.1 (List.mem_map.2 ⟨y, hy, rfl⟩) j (.inl rfl) e
            · exact n2 (List.mem_map.2 ⟨y, hy, e⟩)
          refine ih (j :: done) (putL o.dst (.pointer (some ⟨b, 0, none⟩)) l) (pt b cs t :: L) (e1 ++ e2) ⟨hpw b, ho4, hperm', ?_, fun y hy => ?_, ?_, fun k hk hkl => ?_, fun k hk hke => ?_, hcl', I.closed, I.ds, I.size, look_putL hn I.lt hoi _, fun s u hu => ?_, fun k hk hkl => ?_⟩ ho6
          · have M := I.mem
            simp only [List.map_append, List.map_cons] at M
            rw [← List.append_assoc] at M
            have := M.pull (pull_mid _ _ _)
            simpa using this
          · have hy' : y ∈ e1 ++ (j, b, pt b cs t) :: e2 := by
              rcases List.mem_append.1 hy with h | h
              · exact List.mem_append.2 (.inl h)
              · exact List.mem_append.2 (.inr (List.mem_cons_of_mem _ h))
            obtain ⟨oy, csy, ty, dy, r1, r2, r3, r4, r5, r6, r7, r8⟩ := I.early y hy'
            exact ⟨oy, csy, ty, dy, r1, r2, r3, r4, r5, r6, r7, fun hm => (List.mem_cons.1 hm).elim (fun e => hjne y hy e) r8⟩
          · simp only [List.map_append, List.nodup_append]
            exact ⟨n1, n3, fun p hp q hq => n4 p hp q (.inr hq)⟩
          · rcases I.sub k hk hkl with h | h
            · exact .inl (List.mem_cons_of_mem _ h)
            · simp only [List.map_append, List.map_cons, List.mem_append, List.mem_cons] at h
              rcases h with h | rfl | h
              · exact .inr (by simp [h])
              · exact .inl (by simp)
              · exact .inr (by simp only [List.map_append, List.mem_append]; exact .inr h)
          · rcases List.mem_cons.1 hk with rfl | hk
            · exact hli
            · exact I.effs k hk hke
          · rcases look_put_cases hu with ⟨h1, rfl⟩ | ⟨hne, h1⟩
            · rw [q4] at h1; cases h1; exact .inl q5
            · rcases I.slots s u h1 with h | h | ⟨x, hx2, ox, hox, hoxd⟩
              · exact .inl h
              · exact .inr (.inl h)
              · refine .inr (.inr ⟨x, ?_, ox, hox, hoxd⟩)
                rcases List.mem_append.1 hx2 with h | h
                · exact List.mem_append.2 (.inl h)
                · rcases List.mem_cons.1 h with rfl | h
                  · simp only at hox; rw [hoi] at hox; cases hox; exact absurd hoxd hne
                  · exact List.mem_append.2 (.inr h)
          · rcases List.mem_cons.1 hk with rfl | hk
            · rw [hli] at hkl; cases hkl
            · exact ((I.valid k hk hkl).put hB I.dcl hoi hni hk).more fun w M => M.drop
        · exact ⟨done, .cons i js rest, l, L, ear, I, .inr ⟨hf, by simpa using hli⟩, hcm⟩
      · have hf' : Fl.contains i = false := by simpa using hf
        simp only [hf', Bool.false_eq_true, if_false] at h
        by_cases he : E.contains i = true
        · exact ⟨done, .cons i js rest, l, L, ear, I, .inl ⟨hf', he⟩, hcm⟩
        · have he' : E.contains i = false := by simpa using he
          simp only [he', Bool.false_eq_true, if_false] at h
          obtain ⟨v, hrd, hpw⟩ := h
          have hli : listed.getD i true = false := by
            cases hli : listed.getD i true with
            | false => rfl
            | true =>
              rcases I.sub i hlo hli with h | h
              · exact absurd h hni
              · obtain ⟨x, hx, hxi⟩ := List.mem_map.1 h
                obtain ⟨_, _, _, _, _, _, _, _, _, q6, _⟩ := I.early x hx
                rw [hxi, hf'] at q6; cases q6
          have hvi : Valid P ops n (putL o.dst v l) L i := by
            refine ⟨o, v, l, hoi, fun t ht => by rw [ht]; exact look_put_self, I.lt, fun t hlk u hu => ?_, hrd⟩
            cases hd : o.dst with
            | none => exact hu
            | some t0 =>
              have := (not_looks hB I.dcl hoi hni hd).2
              show look ((t0, v) :: l) t = some u
              rw [look_put (fun e => by subst e; exact this hlk)]; exact hu
          refine ih (i :: done) (putL o.dst v l) L ear ⟨hpw, ho4, hperm', I.mem, fun y hy => ?_, I.once, fun k hk hkl => ?_, fun k hk hke => ?_, hcl', I.closed, I.ds, I.size, look_putL hn I.lt hoi _, fun s u hu => ?_, fun k hk hkl => ?_⟩ ho6
          · obtain ⟨oy, csy, ty, dy, r1, r2, r3, r4, r5, r6, r7, r8⟩ := I.early y hy
            exact ⟨oy, csy, ty, dy, r1, r2, r3, r4, r5, r6, r7, fun hm => (List.mem_cons.1 hm).elim (fun e => by rw [e, hf'] at r6; cases r6) r8⟩
          · rcases I.sub k hk hkl with h | h
            · exact .inl (List.mem_cons_of_mem _ h)
            · exact .inr h
          · rcases List.mem_cons.1 hk with rfl | hk
            · rw [he', hf'] at hke; rcases hke with h | h <;> cases h
            · exact I.effs k hk hke
          · rcases look_put_cases hu with ⟨h1, rfl⟩ | ⟨_, h1⟩
            · exact .inr (.inl ⟨i, o, hoi, hli, h1⟩)
            · exact I.slots s u h1
          · rcases List.mem_cons.1 hk with rfl | hk
            · exact hvi
            · exact (I.valid k hk hkl).put hB I.dcl hoi hni hk
theorem headT_starts (hEF : ∀ i, Fl.contains i = true → E.contains i = false) {listed : Array Bool} : ∀ {t : Tr}, startsT E t = true → HeadT E Fl listed t
  | .nil, h => trivial
  | .cons i js r, h => by
    refine .inl ⟨?_, h⟩
    cases hf : Fl.contains i with
    | false => rfl
    | true => have := hEF i hf; rw [startsT] at h; rw [h] at this; cases this
  | .alt l r, h => by rw [startsT, Bool.and_eq_true] at h; exact h
/-- What only reads and is not done waits for an act that is left. -/
theorem hreadT (hEF : ∀ i, Fl.contains i = true → E.contains i = false) {listed : Array Bool} {i : Nat} (hiE : E.contains i = false) (hiF : Fl.contains i = false) (hanc : ∀ j, ((Region.before ops).getD i 0).testBit j = true → listed.getD j true = true) {done0 : List Nat} (hU : ∀ j, E.contains j = true → listed.getD j true = true → j ∈ done0) : ∀ (t : Tr) (done : List Nat), (∀ j ∈ done0, j ∈ done) → ordT ops (Region.before ops) E Fl done t = true → memT i t = true →
    ((∃ m, done.find? (fun e => E.contains e) = some m ∧ listed.getD m true = false) ∨ (∃ e ∈ done.takeWhile fun e => !E.contains e, Fl.contains e = true ∧ listed.getD e true = false) ∨ HeadT E Fl listed t) → False
  | .nil, done, h0, ho, hm, h => by cases hm
  | .alt l r, done, h0, ho, hm, h => by
    rw [ordT] at ho
    simp only [Bool.and_eq_true] at ho
    rw [memT, Bool.and_eq_true] at hm
    refine hreadT hEF hiE hiF hanc hU l done h0 ho.1.2 hm.1 ?_
    rcases h with h | h | h
    · exact .inl h
    · exact .inr (.inl h)
    · exact .inr (.inr (headT_starts hEF h.1))
  | .cons k js r, done, h0, ho, hm, h => by
    rw [ordT] at ho
    simp only [Bool.and_eq_true] at ho
    obtain ⟨⟨⟨⟨⟨ho1, ho2⟩, ho3⟩, ho5⟩, ho6⟩, ho4⟩ := ho
    have hkd : k ∉ done := by simpa using ho3
    by_cases hki : k = i
    · subst hki
      rcases h with h | h | h
      · obtain ⟨m, hf, hl⟩ := h
        rw [hiF, Bool.false_or, chkT, Bool.and_eq_true, hiE, Bool.false_or, hf] at ho2
        have := hanc m ho2.2
        rw [this] at hl; cases hl
      · obtain ⟨e, he, hf, hl⟩ := h
        rw [hiF, Bool.false_or, chkT, Bool.and_eq_true] at ho2
        have := List.all_eq_true.1 ho2.1 e he
        rw [hf] at this
        have := hanc e (by simpa using this)
        rw [this] at hl; cases hl
      · rcases h with ⟨_, h⟩ | ⟨h, _⟩
        · rw [hiE] at h; cases h
        · rw [hiF] at h; cases h
    · have hm' : memT i r = true := by
        rw [memT, Bool.or_eq_true] at hm
        rcases hm with h | h
        · exact absurd (Nat.eq_of_beq_eq_true h) hki
        · exact h
      refine hreadT hEF hiE hiF hanc hU r (k :: done) (fun j hj => List.mem_cons_of_mem _ (h0 j hj)) ho4 hm' ?_
      by_cases hkE : E.contains k = true
      · refine .inl ⟨k, by simp only [List.find?_cons, hkE], ?_⟩
        cases hl : listed.getD k true with
        | false => rfl
        | true => exact absurd (h0 k (hU k hkE hl)) hkd
      · have hkE' : E.contains k = false := by simpa using hkE
        rcases h with ⟨m, h, hl⟩ | ⟨e, he, h⟩ | h
        · exact .inl ⟨m, by simp only [List.find?_cons, hkE']; exact h, hl⟩
        · exact .inr (.inl ⟨e, by simp only [List.takeWhile_cons, hkE', Bool.not_false, if_true]; exact List.mem_cons_of_mem _ he, h⟩)
        · rcases h with ⟨_, h⟩ | h
          · exact absurd h hkE
          · exact .inr (.inl ⟨k, by simp only [List.takeWhile_cons, hkE', Bool.not_false, if_true]; exact List.mem_cons_self .., h⟩)
theorem hactT {listed : Array Bool} {i : Nat} (hiE : E.contains i = true) (hiF : Fl.contains i = false) (hanc : ∀ j, ((Region.before ops).getD i 0).testBit j = true → listed.getD j true = true) : ∀ (t : Tr) (done : List Nat), ordT ops (Region.before ops) E Fl done t = true → i ∈ firstsT E t →
    (∃ e ∈ done.takeWhile fun e => !E.contains e, Fl.contains e = true ∧ listed.getD e true = false) → False
  | .nil, done, ho, hm, h => by cases hm
  | .alt l r, done, ho, hm, h => by
    rw [ordT] at ho
    simp only [Bool.and_eq_true] at ho
    rw [firstsT, List.mem_append] at hm
    rcases hm with hm | hm
    · exact hactT hiE hiF hanc l done ho.1.2 hm h
    · exact hactT hiE hiF hanc r done ho.2 hm h
  | .cons k js r, done, ho, hm, h => by
    rw [ordT] at ho
    simp only [Bool.and_eq_true] at ho
    obtain ⟨⟨⟨⟨⟨ho1, ho2⟩, ho3⟩, ho5⟩, ho6⟩, ho4⟩ := ho
    rw [firstsT] at hm
    by_cases hkE : E.contains k = true
    · rw [hkE] at hm
      have hik : i = k := by simpa using hm
      subst hik
      obtain ⟨e, he, hf, hl⟩ := h
      rw [hiF, Bool.false_or, chkT, Bool.and_eq_true] at ho2
      have := List.all_eq_true.1 ho2.1 e he
      rw [hf] at this
      have := hanc e (by simpa using this)
      rw [this] at hl; cases hl
    · have hkE' : E.contains k = false := by simpa using hkE
      rw [hkE'] at hm
      obtain ⟨e, he, h⟩ := h
      exact hactT hiE hiF hanc r (k :: done) ho4 hm ⟨e, by simp only [List.takeWhile_cons, hkE', Bool.not_false, if_true]; exact List.mem_cons_of_mem _ he, h⟩
/-- The branch in which an act comes next. -/
theorem descT (hEF : ∀ i, Fl.contains i = true → E.contains i = false) {listed : Array Bool} {a : Act} {w : World} {i : Nat} (hiE : E.contains i = true) (hiF : Fl.contains i = false) (hanc : ∀ j, ((Region.before ops).getD i 0).testBit j = true → listed.getD j true = true) {done : List Nat} {l : List (Nat × Value)} {L : List Asn} {ear : List (Nat × Nat × Asn)} : ∀ (t : Tr), PreT P ops n Q E Fl listed a w done t l L ear → HeadT E Fl listed t → i ∈ firstsT E t → ∃ js r, PreT P ops n Q E Fl listed a w done (.cons i js r) l L ear
  | .nil, I, hh, hm => by cases hm
  | .cons k js r, I, hh, hm => by
    rcases hh with ⟨_, hk⟩ | ⟨hk, hl⟩
    · rw [firstsT, hk] at hm
      have hik : i = k := by simpa using hm
      subst hik
      exact ⟨js, r, I⟩
    · have hkE' := hEF k hk
      have ho := I.ord
      rw [ordT] at ho
      simp only [Bool.and_eq_true] at ho
      rw [firstsT, hkE'] at hm
      exact (hactT hiE hiF hanc r (k :: done) ho.2 hm ⟨k, by simp only [List.takeWhile_cons, hkE', Bool.not_false, if_true]; exact List.mem_cons_self .., hk, hl⟩).elim
  | .alt t1 t2, I, hh, hm => by
    have ho := I.ord
    rw [ordT] at ho
    simp only [Bool.and_eq_true] at ho
    have hp := I.pw
    rw [PV] at hp
    rw [firstsT, List.mem_append] at hm
    rcases hm with hm | hm
    · exact descT hEF hiE hiF hanc t1 { I with pw := hp.1, ord := ho.1.2, perm := fun k hk => (I.perm k hk).imp id fun h => by rw [memT, Bool.and_eq_true] at h; exact h.1 } (headT_starts hEF ho.1.1.1) hm
    · exact descT hEF hiE hiF hanc t2 { I with pw := hp.2, ord := ho.2, perm := fun k hk => (I.perm k hk).imp id fun h => by rw [memT, Bool.and_eq_true] at h; exact h.2 } (headT_starts hEF ho.1.1.2) hm
theorem startsT_has : ∀ {t : Tr} {done : List Nat}, ordT ops (Region.before ops) E Fl done t = true → startsT E t = true → ∃ i, E.contains i = true ∧ i ∉ done ∧ i < ops.size
  | .nil, done, ho, h => by cases h
  | .cons k js r, done, ho, h => by
    rw [ordT] at ho
    simp only [Bool.and_eq_true] at ho
    obtain ⟨⟨⟨⟨⟨ho1, ho2⟩, ho3⟩, ho5⟩, ho6⟩, ho4⟩ := ho
    refine ⟨k, h, by simpa using ho3, ?_⟩
    cases hok : ops[k]? with
    | none => rw [hok] at ho1; cases ho1
    | some o => exact (Array.getElem?_eq_some_iff.1 hok).1
  | .alt l r, done, ho, h => by
    rw [ordT] at ho
    simp only [Bool.and_eq_true] at ho
    exact startsT_has ho.1.2 ho.1.1.1
theorem pt_any (hB : fixB ops = true) (hn : ∀ (i : Nat) (o : Oper) (d : Nat), ops[i]? = some o → o.dst = some d → d < n) (hFl : FlOK P ops Fl) (hEF : ∀ i, Fl.contains i = true → E.contains i = false) (hEs : ∀ i, E.contains i = true → i < ops.size) :
    ∀ (fuel : Nat) (listed : Array Bool) (a : Act) (w : World), listed.size = ops.size → unlisted listed ≤ fuel → (∃ done rest l L ear, PreT P ops n Q E Fl listed a w done rest l L ear ∧ HeadT E Fl listed rest ∧ complT (Region.before ops) E done rest = true) → wpAny P .any ops Q fuel listed a w := by
  have stop : ∀ (listed : Array Bool) (a : Act) (w : World), listed.size = ops.size → (∃ done rest l L ear, PreT P ops n Q E Fl listed a w done rest l L ear ∧ HeadT E Fl listed rest ∧ complT (Region.before ops) E done rest = true) → Region.ready .any ops listed = [] → Q .normal a w := by
    intro listed a w hl ⟨done, rest, l, L, ear, I, hhead, hcompl⟩ hr
    have hall := ready_nil_all hB hl hr
    cases rest with
    | alt t1 t2 =>
      exfalso
      have ho := I.ord
      rw [ordT] at ho
      simp only [Bool.and_eq_true] at ho
      obtain ⟨i, hiE, hid, hlt⟩ := startsT_has ho.1.2 ho.1.1.1
      rcases I.sub i hlt (hall i hlt) with h | h
      · exact hid h
      · obtain ⟨x, hx, hxi⟩ := List.mem_map.1 h
        obtain ⟨_, _, _, _, _, _, _, _, _, q6, _⟩ := I.early x hx
        have := hEF _ q6
        rw [hxi, hiE] at this; cases this
    | cons i js r =>
      exfalso
      have ho := I.ord
      rw [ordT] at ho
      simp only [Bool.and_eq_true] at ho
      have hlt : i < ops.size := by
        cases hoi : ops[i]? with
        | none => have h1 := ho.1.1.1.1.1; rw [hoi] at h1; cases h1
        | some o => exact (Array.getElem?_eq_some_iff.1 hoi).1
      have hli := hall i hlt
      rcases hhead with ⟨h1, h2⟩ | ⟨_, h2⟩
      · rcases I.sub i hlt hli with h | h
        · simp [h] at ho
        · obtain ⟨x, hx, hxi⟩ := List.mem_map.1 h
          obtain ⟨_, _, _, _, _, _, _, _, _, q6, _⟩ := I.early x hx
          rw [hxi, h1] at q6; cases q6
      · rw [hli] at h2; cases h2
    | nil =>
      have hpw := I.pw
      rw [PV] at hpw
      refine hpw a w ⟨I.ds, I.size, fun t v ht => ⟨I.lt t v ht, ?_⟩⟩ I.mem.drop_app
      rcases I.slots t v ht with h | ⟨j, o, hj, hf, _⟩ | ⟨x, hx, ox, hox, _⟩
      · exact h
      · have := hall j (Array.getElem?_eq_some_iff.1 hj).1
        rw [this] at hf; cases hf
      · obtain ⟨_, _, _, _, _, _, _, _, _, _, _, q8⟩ := I.early x hx
        exact absurd ((I.perm x.1 (Array.getElem?_eq_some_iff.1 hox).1).resolve_right (by simp [memT])) q8
  intro fuel
  induction fuel with
  | zero =>
    intro listed a w hl hu hI
    have hr : Region.ready .any ops listed = [] := by
      apply List.eq_nil_iff_forall_not_mem.2
      intro i hi
      obtain ⟨h1, o, ho, _⟩ := mem_ready.1 hi
      have hlt : i < listed.size := by rw [hl]; exact (Array.getElem?_eq_some_iff.1 ho).1
      have := unlisted_set hlt h1
      omega
    exact ⟨hr, stop listed a w hl hI hr⟩
  | succ fuel ih =>
    intro listed a w hl hu hI
    refine ⟨fun hr => stop listed a w hl hI hr, fun i hi => ?_⟩
    obtain ⟨done, rest, l, L, ear, I, hhead, hcompl⟩ := hI
    obtain ⟨h1, o, ho, hall0⟩ := mem_ready.1 hi
    have hlt : i < listed.size := by rw [hl]; exact (Array.getElem?_eq_some_iff.1 ho).1
    have hlo : i < ops.size := by rw [← hl]; exact hlt
    have hun := unlisted_set hlt h1
    obtain ⟨hb1, hb2, hb3⟩ := fixB_spec hB ho
    have hall : ∀ e ∈ o.after, Region.binds .any e = true → listed.getD e.on true = true := fun e hem heb => by
      have h2 := hall0 e hem heb
      have h3 := hb1 e hem heb
      have h4 : e.on < listed.size := by omega
      simpa [h4] using h2
    have hedge : ∀ (j : Nat) (oj : Oper) (t : Nat), ops[j]? = some oj → oj.dst = some t → looksAt ops o t → ∃ e ∈ o.after, Region.binds .any e = true ∧ e.on = j := fun j oj t hj hd hlk => by
      rcases hlk with hlk | ⟨g, b, p, hg, hp, hpd⟩
      · exact (hb3 j oj t hj hd).1 hlk
      · have hgj : g = j := by
          by_cases hgj : g = j
          · exact hgj
          · exact absurd hpd ((fixB_spec hB hp).2.2 j oj t hj hd |>.2.2 hgj)
        exact (hb3 j oj t hj hd).2.1 g b hg hgj
    have hslot : (∀ e ∈ o.after, Region.binds .any e = true → e.on ∈ done) → ∀ t, looksAt ops o t → ∀ u, look l t = some u → a.tmps.getD t undef = u := fun hdn t hlk u hu => by
      rcases I.slots t u hu with h | ⟨j, oj, hj, hf, hd⟩ | ⟨x, hx, ox, hox, hoxd⟩
      · exact h
      · exfalso
        obtain ⟨e, hem, heb, heo⟩ := hedge j oj t hj hd hlk
        have := hall e hem heb
        rw [heo, hf] at this; cases this
      · exfalso
        obtain ⟨e, hem, heb, heo⟩ := hedge x.1 ox t hox hoxd hlk
        obtain ⟨_, _, _, _, _, _, _, _, _, _, _, q8⟩ := I.early x hx
        exact q8 (heo ▸ hdn e hem heb)
    have hnd : ∀ t, o.dst = some t → t < n := fun t ht => hn i o t ho ht
    have hclosed' : ∀ (j : Nat) (oj : Oper), ops[j]? = some oj → (listed.setIfInBounds i true).getD j true = true → ∀ e ∈ oj.after, Region.binds .any e = true → (listed.setIfInBounds i true).getD e.on true = true := fun j oj hj hjl e hem heb => by
      rw [getD_set hlt] at hjl ⊢
      split
      · rfl
      · by_cases hij : i = j
        · subst hij; rw [ho] at hj; cases hj; exact hall e hem heb
        · rw [if_neg hij] at hjl; exact I.closed j oj hj hjl e hem heb

    have hother : ∀ (v : Value) (t : Nat), o.dst ≠ some t → (a.put o.dst v).tmps.getD t undef = a.tmps.getD t undef := fun v t htd => by
      cases hod : o.dst with
      | none => rfl
      | some t0 =>
        have : t0 ≠ t := fun e => htd (by rw [hod, e])
        simp [Act.put, Array.getElem?_setIfInBounds, this]
    have hown : ∀ (v : Value) (t : Nat), o.dst = some t → (a.put o.dst v).tmps.getD t undef = v := fun v t htd => by
      rw [htd]; simp [Act.put, I.size, hnd t htd]
    have hdst : ∀ (j : Nat) (oj : Oper) (t : Nat), ops[j]? = some oj → oj.dst = some t → i ≠ j → o.dst ≠ some t := fun j oj t hj ht hij h => (hb3 j oj t hj ht).2.2 hij h
    have hslots' : ∀ (v : Value) (t : Nat) (u : Value), look l t = some u → o.dst ≠ some t → (a.put o.dst v).tmps.getD t undef = u ∨ (∃ j oj, ops[j]? = some oj ∧ (listed.setIfInBounds i true).getD j true = false ∧ oj.dst = some t) ∨ ∃ x ∈ ear, ∃ o, ops[x.1]? = some o ∧ o.dst = some t := fun v t u hu htd => by
      rcases I.slots t u hu with h | ⟨j, oj, hj, hf, hd'⟩ | h
      · exact .inl (by rw [hother v t htd]; exact h)
      · refine .inr (.inl ⟨j, oj, hj, ?_, hd'⟩)
        have hij : i ≠ j := fun e => by subst e; rw [ho] at hj; cases hj; exact htd hd'
        rw [getD_set hlt, if_neg hij]; exact hf
      · exact .inr (.inr h)
    have hearly' : ∀ (v : Value) (done' : List Nat), (∀ k ∈ done', k ∈ done ∨ k = i) → Fl.contains i = false → ∀ x ∈ ear, ∃ o' cs t d, ops[x.1]? = some o' ∧ News P o' cs t ∧ x.2.2 = pt x.2.1 cs t ∧ o'.dst = some d ∧ (a.put o.dst v).tmps.getD d undef = .pointer (some ⟨x.2.1, 0, none⟩) ∧ Fl.contains x.1 = true ∧ (listed.setIfInBounds i true).getD x.1 true = true ∧ x.1 ∉ done' := fun v done' hd' hfi x hx => by
      obtain ⟨o', cs, t, d, q1, q2, q3, q4, q5, q6, q7, q8⟩ := I.early x hx
      have hix : i ≠ x.1 := fun e => by rw [← e, hfi] at q6; cases q6
      refine ⟨o', cs, t, d, q1, q2, q3, q4, by rw [hother v d (hdst x.1 o' d q1 q4 hix)]; exact q5, q6, by rw [getD_set hlt, if_neg hix]; exact q7, fun hm => ?_⟩
      rcases hd' _ hm with h | h
      · exact q8 h
      · exact hix h.symm
    unfold wpOp
    rw [ho]
    simp only []
    by_cases hdone : i ∈ done
    ·
      have hnE : E.contains i = false ∧ Fl.contains i = false := by
        constructor
        · cases hE : E.contains i with
          | false => rfl
          | true => have := I.effs i hdone (.inl hE); rw [this] at h1; cases h1
        · cases hE : Fl.contains i with
          | false => rfl
          | true => have := I.effs i hdone (.inr hE); rw [this] at h1; cases h1
      obtain ⟨o', v, lj, ho', hv1, hv2, hv3, hrd⟩ := I.valid i hdone h1
      rw [ho] at ho'; cases ho'
      have hsl : ∀ t, looksAt ops o t → ∀ u, look lj t = some u → a.tmps.getD t undef = u := fun t hlk u hu => hslot (I.dcl i hdone o ho) t hlk u (hv3 t hlk u hu)
      obtain ⟨c1, c2⟩ := congr_over (a := a) (l := lj) hb2 hsl
      have hF : Fr (over a lj) n lj := over_fr I.ds I.size hv2
      rw [c2]
      have next : PreT P ops n Q E Fl (listed.setIfInBounds i true) (a.put o.dst v) w done rest l L ear := by
        refine ⟨I.pw, I.ord, I.perm, I.mem, hearly' v done (fun k hk => .inl hk) hnE.2, I.once, fun j hj hjl => ?_, fun j hj he => ?_, I.dcl, hclosed', (by cases o.dst <;> exact I.ds), ?_, I.lt, fun t u hu => ?_, fun j hj hjl => ?_⟩
        · rw [getD_set hlt] at hjl
          by_cases hij : i = j
          · exact .inl (hij ▸ hdone)
          · rw [if_neg hij] at hjl; exact I.sub j hj hjl
        · rw [getD_set hlt]; split
          · rfl
          · exact I.effs j hj he
        · cases o.dst <;> simp [Act.put, I.size]
        · by_cases htd : o.dst = some t
          · have hvt := hv1 t htd
            rw [hvt] at hu; cases hu
            exact .inl (hown _ t htd)
          · exact hslots' v t u hu htd
        · rw [getD_set hlt] at hjl
          split at hjl
          · cases hjl
          · exact I.valid j hj hjl
      have nhead : HeadT E Fl (listed.setIfInBounds i true) rest := by
        cases rest with
        | nil => trivial
        | alt t1 t2 => exact hhead
        | cons k js r =>
          rcases hhead with h | ⟨h2, h3⟩
          · exact .inl h
          · refine .inr ⟨h2, ?_⟩
            have hik : i ≠ k := fun e => by rw [e, h2] at hnE; exact absurd hnE.2 (by simp)
            rw [getD_set hlt, if_neg hik]; exact h3
      rcases hrd with ⟨k1, k2⟩ | ⟨k1, rfl⟩
      · rw [if_pos (hF.wanted k1)]
        left
        unfold Oper.wp
        rw [c1, k2 _ w hF I.mem.drop_app]
        exact ih _ _ _ (by simp [hl]) (by omega) ⟨_, _, _, _, _, next, nhead, hcompl⟩
      · rw [if_neg (by rw [hF.wanted k1]; simp)]
        exact ih _ _ _ (by simp [hl]) (by omega) ⟨_, _, _, _, _, next, nhead, hcompl⟩
    · have hirest : memT i rest = true := (I.perm i hlo).resolve_left hdone
      have hfin : ∀ (a' : Act) (w' : World) (done' : List Nat) (rest' : Tr) (l' : List (Nat × Value)) (L' : List Asn) (ear' : List (Nat × Nat × Asn)), PreT P ops n Q E Fl (listed.setIfInBounds i true) a' w' done' rest' l' L' ear' → complT (Region.before ops) E done' rest' = true → wpAny P .any ops Q fuel (listed.setIfInBounds i true) a' w' := fun a' w' done' rest' l' L' ear' hp hcm => by
        obtain ⟨d2, r2, l2, L2, e2, hp2, hh2, hc2⟩ := normT hB hn rest' done' l' L' ear' hp hcm
        exact ih _ _ _ (by simp [hl]) (by omega) ⟨d2, r2, l2, L2, e2, hp2, hh2, hc2⟩
      by_cases hfi : Fl.contains i = true
      ·
        obtain ⟨hg, ⟨d, hd⟩, cs, t, hnew⟩ := hFl i hfi o ho
        rw [if_pos (by simp [Region.wanted, hg])]
        left
        unfold Oper.wp
        rw [hnew a.eval w]
        have hnear : i ∉ ear.map (·.1) := fun hm => by
          obtain ⟨x, hx, hxi⟩ := List.mem_map.1 hm
          obtain ⟨_, _, _, _, _, _, _, _, _, _, q7, _⟩ := I.early x hx
          rw [hxi, h1] at q7; cases q7
        refine hfin _ _ done rest l L ((i, w.heap.size, pt w.heap.size cs t) :: ear) ⟨I.pw, I.ord, I.perm, ?_, fun x hx => ?_, ?_, fun j hj hjl => ?_, fun j hj he => ?_, I.dcl, hclosed', (by cases o.dst <;> exact I.ds), ?_, I.lt, fun t u hu => ?_, fun j hj hjl => ?_⟩ hcompl
        · exact (I.mem.alloc cs t).push (pull_mid _ _ _)
        · rcases List.mem_cons.1 hx with rfl | hx
          · exact ⟨o, cs, t, d, ho, hnew, rfl, hd, hown _ d hd, hfi, by rw [getD_set hlt, if_pos rfl], hdone⟩
          · obtain ⟨o', cs', t', d', q1, q2, q3, q4, q5, q6, q7, q8⟩ := I.early x hx
            have hix : i ≠ x.1 := fun e => hnear (e ▸ List.mem_map.2 ⟨x, hx, rfl⟩)
            exact ⟨o', cs', t', d', q1, q2, q3, q4, by rw [hother _ d' (hdst x.1 o' d' q1 q4 hix)]; exact q5, q6, by rw [getD_set hlt, if_neg hix]; exact q7, q8⟩
        · simp only [List.map_cons, List.nodup_cons]
          exact ⟨hnear, I.once⟩
        · rw [getD_set hlt] at hjl
          by_cases hij : i = j
          · exact .inr (by simp [hij])
          · rw [if_neg hij] at hjl
            rcases I.sub j hj hjl with h | h
            · exact .inl h
            · exact .inr (by simp only [List.map_cons, List.mem_cons]; exact .inr h)
        · rw [getD_set hlt]; split
          · rfl
          · exact I.effs j hj he
        · cases o.dst <;> simp [Act.put, I.size]
        · by_cases htd : o.dst = some t
          · exact .inr (.inr ⟨_, List.mem_cons_self .., o, ho, htd⟩)
          · rcases hslots' (.pointer (some ⟨w.heap.size, 0, none⟩)) t u hu htd with h | h | ⟨x, hx, h⟩
            · exact .inl h
            · exact .inr (.inl h)
            · exact .inr (.inr ⟨x, List.mem_cons_of_mem _ hx, h⟩)
        · rw [getD_set hlt] at hjl
          split at hjl
          · cases hjl
          · exact I.valid j hj hjl
      ·
        have hfi' : Fl.contains i = false := by simpa using hfi
        have hanc := anc_listed (S := fun j => j < ops.size → listed.getD j true = true) (fun k ok hk => (fixB_spec hB hk).1) (fun k ok hk hS e hem heb hlt2 => I.closed k ok hk (hS (Array.getElem?_eq_some_iff.1 hk).1) e hem heb) i o ho (fun e hem heb _ => hall e hem heb)
        have hancA : ∀ j, ((Region.before ops).getD i 0).testBit j = true → listed.getD j true = true := fun j hj => by
          by_cases hjl : j < ops.size
          · exact hanc j hj hjl
          · have : ¬ j < listed.size := by rw [hl]; exact hjl
            simp [this]
        have hUd : ∀ j, E.contains j = true → listed.getD j true = true → j ∈ done := fun j hjE hjl => by
          rcases I.sub j (hEs j hjE) hjl with h | h
          · exact h
          · obtain ⟨x, hx, hxi⟩ := List.mem_map.1 h
            obtain ⟨_, _, _, _, _, _, _, _, _, q6, _⟩ := I.early x hx
            have := hEF _ q6
            rw [hxi, hjE] at this; cases this
        by_cases hiE : E.contains i = true
        case neg => exact (hreadT hEF (by simpa using hiE) hfi' hancA hUd rest done (fun j hj => hj) I.ord hirest (.inr (.inr hhead))).elim
        have hfirst : i ∈ firstsT E rest := by
          have := List.all_eq_true.1 hcompl i (by simpa using hiE)
          simp only [Bool.or_eq_true, List.any_eq_true, Bool.and_eq_true] at this
          rcases this with (h | h) | ⟨e, he, h2, h3⟩
          · exact absurd (by simpa using h) hdone
          · simpa using h
          · exact absurd (hUd e (by simpa using he) (hancA e h3)) (by simpa using h2)
        obtain ⟨js, r, I⟩ := descT hEF hiE hfi' hancA rest I hhead hfirst
        ·
          have hord0 := I.ord
          rw [ordT] at hord0
          simp only [Bool.and_eq_true] at hord0
          obtain ⟨⟨⟨⟨⟨g1, g2⟩, g3⟩, g5⟩, g6⟩, g4⟩ := hord0
          have hkE : E.contains i = true := hiE
          rw [ho] at g1
          have hedges : ∀ e ∈ o.after, Region.binds .any e = true → e.on ∈ done := fun e hem heb => by
            have := Array.all_eq_true_iff_forall_mem.1 g1 e hem
            simpa [heb] using this
          have hpw := I.pw
          rw [PV, ho] at hpw
          simp only [hfi', hkE, Bool.false_eq_true, if_false, if_true] at hpw
          obtain ⟨c1, c2⟩ := congr_over (a := a) (l := l) hb2 (hslot hedges)
          have hF : Fr (over a l) n l := over_fr I.ds I.size I.lt
          rw [c2]
          have hgo : ∀ (v : Value) (w' : World) (L' : List Asn), Mem w' (L' ++ ear.map (·.2.2)) → (∀ j ∈ done, listed.getD j true = false → Valid P ops n (putL o.dst v l) L' j) → PV P ops n Q E Fl r (putL o.dst v l) L' → wpAny P .any ops Q fuel (listed.setIfInBounds i true) (a.put o.dst v) w' := by
            intro v w' L' hM hval hpw'
            refine hfin _ _ (i :: done) r (putL o.dst v l) L' ear ⟨hpw', g4, fun j hj => ?_, hM, hearly' v _ (fun j hj => (List.mem_cons.1 hj).symm) hfi', I.once, fun j hj hjl => ?_, fun j hj he => ?_, fun j hj oj hoj e hem heb => ?_, hclosed', (by cases o.dst <;> exact I.ds), ?_, look_putL hn I.lt ho _, fun t u hu => ?_, fun j hj hjl => ?_⟩ g6
            · rcases I.perm j hj with h | h
              · exact .inl (List.mem_cons_of_mem _ h)
              · rw [memT, Bool.or_eq_true] at h
                rcases h with h | h
                · exact .inl (by rw [Nat.eq_of_beq_eq_true h]; simp)
                · exact .inr h
            · rw [getD_set hlt] at hjl
              by_cases hkj : i = j
              · subst hkj; exact .inl (by simp)
              · rw [if_neg hkj] at hjl
                rcases I.sub j hj hjl with h | h
                · exact .inl (List.mem_cons_of_mem _ h)
                · exact .inr h
            · rw [getD_set hlt]
              by_cases hkj : i = j
              · rw [if_pos hkj]
              · rw [if_neg hkj]
                exact I.effs j ((List.mem_cons.1 hj).resolve_left (fun e => hkj e.symm)) he
            · rcases List.mem_cons.1 hj with rfl | hj
              · rw [ho] at hoj; cases hoj
                exact List.mem_cons_of_mem _ (hedges e hem heb)
              · exact List.mem_cons_of_mem _ (I.dcl j hj oj hoj e hem heb)
            · cases o.dst <;> simp [Act.put, I.size]
            · rcases look_put_cases hu with ⟨h, rfl⟩ | ⟨hne, h⟩
              · exact .inl (hown _ t h)
              · exact hslots' v t u h hne
            · rw [getD_set hlt] at hjl
              split at hjl
              · cases hjl
              · rename_i hkj
                exact hval j ((List.mem_cons.1 hj).resolve_left (fun e => hkj e.symm)) hjl
          rcases hpw with ⟨k1, k2⟩ | ⟨k1, k2⟩
          · rw [if_pos (hF.wanted k1)]
            left
            have hup := k2 (ear.map (·.2.2)) _ w hF I.mem
            rw [← c1] at hup
            refine hup.wp fun v w' ⟨L', ⟨hrev, e2⟩, hM⟩ => hgo v w' L' hM (fun j hjd hjl => ?_) e2
            have hjs : j < ops.size := by
              by_cases hjs : j < ops.size
              · exact hjs
              · have : listed.getD j true = true := by simp [hl, hjs]
                rw [this] at hjl; cases hjl
            have hej : E.contains j = false := by
              cases hej : E.contains j with
              | false => rfl
              | true => have := I.effs j hjd (.inl hej); rw [this] at hjl; cases hjl
            have hfj : Fl.contains j = false := by
              cases hej : Fl.contains j with
              | false => rfl
              | true => have := I.effs j hjd (.inr hej); rw [this] at hjl; cases hjl
            have hbj : ((Region.before ops).getD i 0).testBit j = false := by
              cases hbj : ((Region.before ops).getD i 0).testBit j with
              | false => rfl
              | true => have := hanc j hbj hjs; rw [this] at hjl; cases hjl
            have hjS : j ∈ js := by
              have h5 : (done.all fun j => E.contains j || Fl.contains j || ((Region.before ops).getD i 0).testBit j || js.contains j) = true := by
                rw [hkE] at g5; simpa using g5
              have := List.all_eq_true.1 h5 j hjd
              simp only [hej, hfj, hbj, Bool.false_or] at this
              simpa using this
            obtain ⟨oj, vj, e1, e2, e3⟩ := hrev.mem j hjS
            exact ⟨oj, vj, putL o.dst v l, e1, e3, look_putL hn I.lt ho _, fun t _ u hu => hu, e2⟩
          · rw [if_neg (by rw [hF.wanted k1]; simp)]
            exact hgo undef w L I.mem (fun j hjd hjl => (I.valid j hjd hjl).put hB I.dcl ho hdone hjd) k2
/-- **A region that draws its order: a tree of orders.** -/
theorem region_pt {id : Nat} {a : Act} {w : World} {l : List (Nat × Value)} {L : List Asn} {t : Tr} (hm : P.follows .mixedOrders = true) (hok : drawT ops E Fl t n = true) (hFl : FlOK P ops Fl) (F : Fr a n l) (M : Mem w L) (h : PV P ops n Q E Fl t l L) : (Code.region id ops true).wp P Q a w := by
  simp only [drawT, Bool.and_eq_true] at hok
  obtain ⟨⟨⟨⟨⟨⟨hB, ho⟩, hall⟩, hfl⟩, hds⟩, hes⟩, hcm⟩ := hok
  have hn : ∀ (i : Nat) (o : Oper) (d : Nat), ops[i]? = some o → o.dst = some d → d < n := fun i o d hi hd => by
    have := Array.all_eq_true_iff_forall_mem.1 hds o (Array.mem_of_getElem? hi)
    rw [hd] at this
    exact Nat.le_of_ble_eq_true this
  have hEF : ∀ i, Fl.contains i = true → E.contains i = false := fun i hi => by
    have := List.all_eq_true.1 hfl i (by simpa using hi)
    simp only [Bool.and_eq_true, Bool.not_eq_true'] at this
    exact this.1
  have hEs : ∀ i, E.contains i = true → i < ops.size := fun i hi => Nat.le_of_ble_eq_true (List.all_eq_true.1 hes i (by simpa using hi))
  have hrep : ∀ j, (Array.replicate ops.size false).getD j true = true → ops.size ≤ j := fun j hj => by
    by_cases hlt : j < ops.size
    · simp [hlt] at hj
    · omega
  obtain ⟨done', rest', l', L', ear', hp, hh, hcp⟩ := normT hB hn (listed := Array.replicate ops.size false) (a := a) (w := { w with drawn := w.drawn + 1 }) t [] l L [] ⟨h, ho, fun i hi => .inr (List.all_eq_true.1 hall i (List.mem_range.2 hi)), by rw [List.map_nil, List.append_nil]; exact M.drew _, by simp, by simp, fun j hj hjl => by have := hrep j hjl; omega, by simp, by simp,
    fun j o hj hjl => by have := hrep j hjl; have := (Array.getElem?_eq_some_iff.1 hj).1; omega, F.ds, F.size, fun t v ht => (F.val t v ht).1, fun t v ht => .inl (F.val t v ht).2, by simp⟩ hcm
  exact wp_region_any hm (pt_any hB hn hFl hEF hEs ops.size _ a _ (by simp) (by simp [unlisted]) ⟨done', rest', l', L', ear', hp, hh, hcp⟩)
end
section
variable {ops : Array Oper} {Q : Exit → Act → World → Prop} {o : Oper} {a : Act} {w : World} {n : Nat} {l : List (Nat × Value)} {L : List Asn} {C : Value → List Asn → Prop} {E Fl : List Nat} {r : Tr} {js : List Nat} {i : Nat}
theorem tv_nil (h : ∀ a' w', Fr a' n l → Mem w' L → Q .normal a' w') : PV Tryz.prog ops n Q E Fl .nil l L := h
theorem tvA {t1 t2 : Tr} (h1 : PV Tryz.prog ops n Q E Fl t1 l L) (h2 : PV Tryz.prog ops n Q E Fl t2 l L) : PV Tryz.prog ops n Q E Fl (.alt t1 t2) l L := ⟨h1, h2⟩
theorem tv_act (hi : ops[i]? = some o) (hf : Fl.contains i = false) (he : E.contains i = true) (hw : Wanted o ops l = some true) {d : Nat} (hd : o.dst = some d)
    (h : AC o l L n (fun v L' => Rvs Tryz.prog ops n js ((d, v) :: l) L' ∧ PV Tryz.prog ops n Q E Fl r ((d, v) :: l) L')) : PV Tryz.prog ops n Q E Fl (.cons i js r) l L := by
  rw [PV, hi]
  simp only [hf, he, Bool.false_eq_true, if_false, if_true]
  refine .inl ⟨hw, ?_⟩
  rw [hd]; exact h
theorem tv_act0 (hi : ops[i]? = some o) (hf : Fl.contains i = false) (he : E.contains i = true) (hw : Wanted o ops l = some true) (hd : o.dst = none)
    (h : AC o l L n (fun v L' => Rvs Tryz.prog ops n js l L' ∧ PV Tryz.prog ops n Q E Fl r l L')) : PV Tryz.prog ops n Q E Fl (.cons i js r) l L := by
  rw [PV, hi]
  simp only [hf, he, Bool.false_eq_true, if_false, if_true]
  refine .inl ⟨hw, ?_⟩
  rw [hd]; exact h
theorem tv1 {d : Nat} {v : Value} (h : PV Tryz.prog ops n Q E Fl r ((d, v) :: l) L) (hi : ops[i]? = some o := by exact rfl) (hf : Fl.contains i = false := by exact rfl) (he : E.contains i = false := by exact rfl) (hw : Wanted o ops l = some true := by exact rfl) (hd : o.dst = some d := by exact rfl) (hr : RT o l L n v := by exact rtA) :
    PV Tryz.prog ops n Q E Fl (.cons i js r) l L := by
  rw [PV, hi]
  simp only [hf, he, Bool.false_eq_true, if_false]
  refine ⟨v, .inl ⟨hw, hr⟩, ?_⟩
  rw [hd]; exact h
theorem tv2 {d : Nat} {fv : Nat → Value} {fL : Nat → List Asn} (h : ∀ b, PV Tryz.prog ops n Q E Fl r ((d, fv b) :: l) (fL b)) (hi : ops[i]? = some o := by exact rfl) (hf : Fl.contains i = false := by exact rfl) (he : E.contains i = true := by exact rfl) (hw : Wanted o ops l = some true := by exact rfl) (hd : o.dst = some d := by exact rfl)
    (s : ∀ C : Value → List Asn → Prop, (∀ b, C (fv b) (fL b)) → AC o l L n C := by (intro C h; exact acA h)) (hr : ∀ b, Rvs Tryz.prog ops n js ((d, fv b) :: l) (fL b) := by (intro b; exact rvsA)) : PV Tryz.prog ops n Q E Fl (.cons i js r) l L := tv_act hi hf he hw hd (s _ fun b => ⟨hr b, h b⟩)
theorem tv3 {v : Value} {L' : List Asn} (h : PV Tryz.prog ops n Q E Fl r l L') (hi : ops[i]? = some o := by exact rfl) (hf : Fl.contains i = false := by exact rfl) (he : E.contains i = true := by exact rfl) (hw : Wanted o ops l = some true := by exact rfl) (hd : o.dst = none := by exact rfl)
    (s : ∀ C : Value → List Asn → Prop, C v L' → AC o l L n C := by (intro C h; exact acB h)) (hr : Rvs Tryz.prog ops n js l L' := by exact rvsA) : PV Tryz.prog ops n Q E Fl (.cons i js r) l L := tv_act0 hi hf he hw hd (s _ ⟨hr, h⟩)
theorem tvC {d : Nat} (h : AC o l L n (fun v L' => Rvs Tryz.prog ops n js ((d, v) :: l) L' ∧ PV Tryz.prog ops n Q E Fl r ((d, v) :: l) L')) (hi : ops[i]? = some o := by exact rfl) (hf : Fl.contains i = false := by exact rfl) (he : E.contains i = true := by exact rfl) (hw : Wanted o ops l = some true := by exact rfl) (hd : o.dst = some d := by exact rfl) :
    PV Tryz.prog ops n Q E Fl (.cons i js r) l L := tv_act hi hf he hw hd h
theorem tvC0 (h : AC o l L n (fun v L' => Rvs Tryz.prog ops n js l L' ∧ PV Tryz.prog ops n Q E Fl r l L')) (hi : ops[i]? = some o := by exact rfl) (hf : Fl.contains i = false := by exact rfl) (he : E.contains i = true := by exact rfl) (hw : Wanted o ops l = some true := by exact rfl) (hd : o.dst = none := by exact rfl) :
    PV Tryz.prog ops n Q E Fl (.cons i js r) l L := tv_act0 hi hf he hw hd h
theorem tvF {t : TypeId} {cs : List Value} {d : Nat} (h : ∀ b, PV Tryz.prog ops n Q E Fl r ((d, .pointer (some ⟨b, 0, none⟩)) :: l) (pt b cs t :: L)) (hi : ops[i]? = some o := by exact rfl) (hf : Fl.contains i = true := by exact rfl) (ho : o.op = .alloc t := by exact rfl) (hz : ZT t cs := by exact inferInstance) (hd : o.dst = some d := by exact rfl) : PV Tryz.prog ops n Q E Fl (.cons i js r) l L := by
  rw [PV, hi]
  simp only [hf, if_true]
  refine ⟨cs, t, news_alloc ho hz, fun b => ?_⟩
  rw [hd]; exact h b
theorem tvK {d : Nat} (h : PV Tryz.prog ops n Q E Fl r ((d, undef) :: l) L) (hi : ops[i]? = some o := by exact rfl) (hf : Fl.contains i = false := by exact rfl) (hw : Wanted o ops l = some false := by exact rfl) (hd : o.dst = some d := by exact rfl) : PV Tryz.prog ops n Q E Fl (.cons i js r) l L := by
  rw [PV, hi]
  cases he : E.contains i
  · simp only [hf, he, Bool.false_eq_true, if_false]
    refine ⟨undef, .inr ⟨hw, rfl⟩, ?_⟩
    rw [hd]; exact h
  · simp only [hf, he, Bool.false_eq_true, if_false, if_true]
    refine .inr ⟨hw, ?_⟩
    rw [hd]; exact h
theorem tvK0 (h : PV Tryz.prog ops n Q E Fl r l L) (hi : ops[i]? = some o := by exact rfl) (hf : Fl.contains i = false := by exact rfl) (he : E.contains i = true := by exact rfl) (hw : Wanted o ops l = some false := by exact rfl) (hd : o.dst = none := by exact rfl) : PV Tryz.prog ops n Q E Fl (.cons i js r) l L := by
  rw [PV, hi]
  simp only [hf, he, Bool.false_eq_true, if_false, if_true]
  refine .inr ⟨hw, ?_⟩
  rw [hd]; exact h
theorem svTree {id : Nat} (E Fl : List Nat) (t : Tr) (F : Fr a n l) (M : Mem w L) (h : PV Tryz.prog ops n Q E Fl t l L) (hok : drawT ops E Fl t n = true := by kernel_rfl) (hFl : FlOK Tryz.prog ops Fl := by (first | (focus ((repeat (first | exact flok_nil | (apply flok_cons; (exact rfl); (exact rfl); (exact inferInstance); (exact rfl); (exact rfl)))); done)) | fail)) : (Code.region id ops true).wp Tryz.prog Q a w := region_pt mixed hok hFl F M h
end
end Go.Proofs.YtopbohbkhljjgaaGreat
end
section
namespace Go.Proofs.YtopbohbkhljjgaaGreat
open Go.RowKit
set_option linter.unusedVariables false
set_option maxRecDepth 100000
set_option linter.unusedSimpArgs false
set_option maxHeartbeats 4000000
theorem ok24 {L : List Asn} {x : Sn} {c : Cfg} (hV : GS L 7 (sl x.hV) 0 []) (hP : GS L 1 (sl x.hP) 0 []) (hF : GS L 1 (sl x.hF) 0 []) (hO : GS L 1 (sl x.hO) 0 []) (hM : GS L 2 (sl x.hM) 0 []) (hQ : GS L 2 (sl x.hQ) 0 []) (hp : U64 x.pd) (hb : U64 x.bu) (hk : I64 x.bk) (he : 1 ≤ c.epochLen) : AuOK L x ⟨[], [], [], [], 0, 0⟩ c :=
  ⟨hV, hP, hF, hO, ⟨_, hM⟩, ⟨_, hQ⟩, by simp, by simp, by simp, by simp, by simp, by simp, by simp, by simp, by simp, hp, hb, hk, he⟩
def d0 : SnD := ⟨[], [], [], [], 0, 0⟩
abbrev x24 (hV hP hF hO hM hQ : SlH) : Sn := snOf Cfg.deflt St.ini hV hP hF hO hM hQ
abbrev y24 (hV hP hF hO hM hQ : SlH) : Sn := { x24 hV hP hF hO hM hQ with dep := 1 }
theorem deflt_ok : checkF Cfg.deflt = 0 := by rfl
theorem ok24x {L : List Asn} (hV hP hF hO hM hQ : SlH) (gV : GS L 7 (sl hV) 0 []) (gP : GS L 1 (sl hP) 0 []) (gF : GS L 1 (sl hF) 0 []) (gO : GS L 1 (sl hO) 0 []) (gM : GS L 2 (sl hM) 0 []) (gQ : GS L 2 (sl hQ) 0 []) : AuOK L (x24 hV hP hF hO hM hQ) d0 Cfg.deflt ∧ AuOK L (y24 hV hP hF hO hM hQ) d0 Cfg.deflt :=
  ⟨ok24 gV gP gF gO gM gQ (show U64 0 from ⟨by decide, by decide⟩) (show U64 0 from ⟨by decide, by decide⟩) (show I64 0 from ⟨by decide, by decide⟩) (by decide), ok24 gV gP gF gO gM gQ (show U64 0 from ⟨by decide, by decide⟩) (show U64 0 from ⟨by decide, by decide⟩) (show I64 0 from ⟨by decide, by decide⟩) (by decide)⟩
theorem alive24_spec (R : List Asn) : Spec 18 [] R fun u L' => u = .bool true ∧ L' = R := by
  have hc : CfOk Cfg.deflt := cfOk_of deflt_ok (by decide) (by decide)
  have hsx : ∀ (hV hP hF hO hM hQ : SlH) (L : List Asn), AuOK L (x24 hV hP hF hO hM hQ) d0 Cfg.deflt → Spec 22 [snV (x24 hV hP hF hO hM hQ), cfgV Cfg.deflt] L fun u L' => u = .int .i64 0 ∧ L' = L := fun hV hP hF hO hM hQ L h => acheck_spec _ _ _ L h
  have hsy : ∀ (hV hP hF hO hM hQ : SlH) (L : List Asn), AuOK L (y24 hV hP hF hO hM hQ) d0 Cfg.deflt → Spec 22 [snV (y24 hV hP hF hO hM hQ), cfgV Cfg.deflt] L fun u L' => u = .int .i64 2 ∧ L' = L := fun hV hP hF hO hM hQ L h => acheck_spec _ _ _ L h
  have hay : ∀ (hV hP hF hO hM hQ : SlH) (L : List Asn), AuOK L (y24 hV hP hF hO hM hQ) d0 Cfg.deflt → Spec 19 [snV (y24 hV hP hF hO hM hQ), cfgV Cfg.deflt] L fun u L' => ∃ r, u = sl r ∧ L' = ownT 3 intL 1 (sl r) [2] :: L := fun hV hP hF hO hM hQ L h => aall_spec _ _ _ L h
  have hnm := fun (R : List Asn) => aname_spec 2 ⟨by decide, by decide⟩ R
  have hd : decide (auNm 2 = [115, 117, 109]) = true := by decide
  (intro G w M; refine sx_enter (vs := ([] : List Value)) Tryz.func18 (n := 41) rfl rfl rfl rfl ?_; intro a F; (try simp only [List.cons_append, List.nil_append] at M))
  (repeat' (first | (refine sx_nil ?_; (try (replace F := F.filt [0, 1, 3, 4, 11] rfl))) | (refine sv1 F M (h := ?_); clear F a; intro a F) | refine pv1 (h := ?_) | (refine sv3 F M (h := ?_); clear M; intro w M) | (refine sv2 F M (h := ?_); clear F M a; intro nb a w F M) | refine pv3 (h := ?_) | (refine pv2 (h := ?_); intro nb) | ((first | refine svC F M (h := ?_) | refine svC0 F M (h := ?_) | refine pvC (h := ?_) | refine pvC0 (h := ?_)); ((first | ((refine acW (k := 22) (hsx hV hP hF hO hM hQ _ ?_) ?_); (exact (ok24x hV hP hF hO hM hQ gsA gsA gsA gsA gsA gsA).1); rintro u L' ⟨rfl, rfl⟩) | ((refine acW (k := 22) (hsy hV hP hF hO hM hQ _ ?_) ?_); (exact (ok24x hV hP hF hO hM hQ gsA gsA gsA gsA gsA gsA).2); rintro u L' ⟨rfl, rfl⟩) | ((refine acW (k := 19) (hay hV hP hF hO hM hQ _ ?_) ?_); (exact (ok24x hV hP hF hO hM hQ gsA gsA gsA gsA gsA gsA).2); rintro u L' ⟨r, rfl, rfl⟩) | ((refine acCall (k := 20) ?_); (refine Spec.of_reads (eqs_int _ _ [2] [2] (gs_own pullA) gsA) rfl ?_)) | ((refine acW (k := 24) (arules_spec _) ?_); rintro u L' ⟨rfl, rfl⟩) | ((refine acW (k := 23) (hnm _) ?_); rintro u L' ⟨rfl, rfl⟩) | ((refine acW (k := 49) (default_spec _) ?_); rintro u L' ⟨rfl, rfl⟩) | ((refine acW (k := 28) (eng_new Cfg.deflt hc deflt_ok _) ?_); rintro u L' ⟨b, H, rfl, rfl⟩) | ((refine acW (k := 33) (snap_spec b H Cfg.deflt St.ini hc (Inv.ini hc) _) ?_); rintro u L' ⟨hV, hP, hF, hO, hM, hQ, rfl, rfl⟩))); (first | refine ⟨rvsA, ?_⟩ | (clear F M a; intro a w F M) | (clear M; intro w M))) | (refine svK F (h := ?_); clear F a; intro a F) | refine svK0 F (h := ?_) | ((refine sx_guardb F rfl (fun hg => ?_) (fun hg => ?_)) <;> (rw [hg] at F; (try (exact no hg)))) | (refine pvF (h := ?_); intro nb) | refine pvK (h := ?_) | refine pvK0 (h := ?_) | (refine pv_nil ?_; intro a w F M; (try (replace F := F.filt [0, 1, 3, 4, 11] rfl))) | ((fail_if_success (with_reducible first | refine isW ?_ | refine isP ?_ | refine isL ?_)); (first | with_reducible refine sx_region ?_ | ((with_reducible refine isK ?_); (first | refine svT F (h := ?_) | refine svF F (h := ?_) | ((refine svB F (fun hc => ?_) (fun hc => ?_)) <;> (try (exact no hc))))) | ((with_reducible refine isD ?_); (first | ((refine svTree (id := 7) [1, 2, 6, 7, 12, 13, 14, 15, 18, 22] [] (.cons 0 [] (.cons 1 [0] (.cons 2 [] (.cons 3 [] (.cons 4 [] (.cons 5 [] (.cons 6 [5] (.cons 7 [] (.cons 8 [] (.cons 9 [] (.cons 10 [] (.cons 11 [] (.alt (.cons 12 [11] (.alt (.cons 13 [] (.cons 14 [11] (.cons 15 [] (.cons 16 [] (.cons 17 [] (.cons 18 [] (.cons 19 [] (.cons 20 [] (.cons 21 [] (.cons 22 [] (.cons 23 [] (.cons 24 [] (.cons 25 [] .nil))))))))))))) (.cons 14 [11] (.cons 13 [] (.cons 15 [] (.cons 16 [] (.cons 17 [] (.cons 18 [] (.cons 19 [] (.cons 20 [] (.cons 21 [] (.cons 22 [] (.cons 23 [] (.cons 24 [] (.cons 25 [] .nil))))))))))))))) (.cons 14 [11] (.cons 12 [11] (.cons 13 [] (.cons 15 [] (.cons 16 [] (.cons 17 [] (.cons 18 [] (.cons 19 [] (.cons 20 [] (.cons 21 [] (.cons 22 [] (.cons 23 [] (.cons 24 [] (.cons 25 [] .nil))))))))))))))))))))))))))) F M (h := ?_)); (clear F M a w); ((repeat' (first | (with_reducible refine tvA ?_ ?_) | refine tv1 (h := ?_) | refine tv3 (h := ?_) | (refine tv2 (h := ?_); intro nb) | ((first | refine tvC (h := ?_) | refine tvC0 (h := ?_)); ((first | ((refine acW (k := 22) (hsx hV hP hF hO hM hQ _ ?_) ?_); (exact (ok24x hV hP hF hO hM hQ gsA gsA gsA gsA gsA gsA).1); rintro u L' ⟨rfl, rfl⟩) | ((refine acW (k := 22) (hsy hV hP hF hO hM hQ _ ?_) ?_); (exact (ok24x hV hP hF hO hM hQ gsA gsA gsA gsA gsA gsA).2); rintro u L' ⟨rfl, rfl⟩) | ((refine acW (k := 19) (hay hV hP hF hO hM hQ _ ?_) ?_); (exact (ok24x hV hP hF hO hM hQ gsA gsA gsA gsA gsA gsA).2); rintro u L' ⟨r, rfl, rfl⟩) | ((refine acCall (k := 20) ?_); (refine Spec.of_reads (eqs_int _ _ [2] [2] (gs_own pullA) gsA) rfl ?_)) | ((refine acW (k := 24) (arules_spec _) ?_); rintro u L' ⟨rfl, rfl⟩) | ((refine acW (k := 23) (hnm _) ?_); rintro u L' ⟨rfl, rfl⟩) | ((refine acW (k := 49) (default_spec _) ?_); rintro u L' ⟨rfl, rfl⟩) | ((refine acW (k := 28) (eng_new Cfg.deflt hc deflt_ok _) ?_); rintro u L' ⟨b, H, rfl, rfl⟩) | ((refine acW (k := 33) (snap_spec b H Cfg.deflt St.ini hc (Inv.ini hc) _) ?_); rintro u L' ⟨hV, hP, hF, hO, hM, hQ, rfl, rfl⟩))); (refine ⟨rvsA, ?_⟩)) | (refine tvF (h := ?_); intro nb) | refine tvK (h := ?_) | refine tvK0 (h := ?_) | (refine tv_nil ?_; intro a w F M; (try (replace F := F.filt [0, 1, 3, 4, 11] rfl))))))))) | with_reducible refine wp_scope_straight ?_ | with_reducible refine wp_label ?_ | go_step))))
  all_goals rw [hd] at F
  all_goals (first | refine svEnd F M ?_ | refine svRet F M ?_)
  all_goals exact ⟨_, _, rfl, ⟨rfl, rfl⟩, M.perms permsA⟩
theorem auNs_at {k : Int} (h1 : 1 ≤ k) (h2 : k ≤ 12) : auNs[(k - 1).toNat]? = some (auNm k) ∧ auNm k ≠ [] := by
  obtain ⟨m, rfl⟩ : ∃ m : Nat, k = m + 1 := ⟨(k - 1).toNat, by omega⟩
  rcases (by omega : m = 0 ∨ m = 1 ∨ m = 2 ∨ m = 3 ∨ m = 4 ∨ m = 5 ∨ m = 6 ∨ m = 7 ∨ m = 8 ∨ m = 9 ∨ m = 10 ∨ m = 11) with rfl | rfl | rfl | rfl | rfl | rfl | rfl | rfl | rfl | rfl | rfl | rfl <;> exact ⟨by decide, by decide⟩
theorem names_law (k : Int) (hk : I64 k) (R : List Asn) : Spec 4 [.int .i64 k] R fun u L' => u = .bool true ∧ L' = R := by
  have e12 : auNs.length = 12 := rfl
  have hnm := fun (R : List Asn) => aname_spec k hk R
  (intro G w M; refine sx_enter (vs := ([.int .i64 k] : List Value)) Tryz.func4 (n := 32) rfl rfl rfl rfl ?_; intro a F; (try simp only [List.cons_append, List.nil_append] at M))
  by_cases h1 : 1 ≤ k ∧ k ≤ 12
  · obtain ⟨h1, h2⟩ := h1
    have hat := (auNs_at h1 h2).1
    (repeat' (first | (refine sx_nil ?_; (try (replace F := F.filt [0, 2, 3, 4, 13] rfl))) | (refine sv1 F M (h := ?_); clear F a; intro a F) | refine pv1 (h := ?_) | (refine sv3 F M (h := ?_); clear M; intro w M) | (refine sv2 F M (h := ?_); clear F M a; intro nb a w F M) | refine pv3 (h := ?_) | (refine pv2 (h := ?_); intro nb) | ((first | refine svC F M (h := ?_) | refine svC0 F M (h := ?_) | refine pvC (h := ?_) | refine pvC0 (h := ?_)); ((first | ((refine acW (k := 18) (alive24_spec _) ?_); rintro u L' ⟨rfl, rfl⟩) | ((refine acW (k := 24) (arules_spec _) ?_); rintro u L' ⟨rfl, rfl⟩) | ((refine acW (k := 23) (hnm _) ?_); rintro u L' ⟨rfl, rfl⟩))); (first | refine ⟨rvsA, ?_⟩ | (clear F M a; intro a w F M) | (clear M; intro w M))) | (refine svK F (h := ?_); clear F a; intro a F) | refine svK0 F (h := ?_) | ((refine sx_guardb F rfl (fun hg => ?_) (fun hg => ?_)) <;> (rw [hg] at F; (try (exact no hg)))) | (refine pvF (h := ?_); intro nb) | refine pvK (h := ?_) | refine pvK0 (h := ?_) | (refine pv_nil ?_; intro a w F M; (try (replace F := F.filt [0, 2, 3, 4, 13] rfl))) | ((fail_if_success (with_reducible first | refine isW ?_ | refine isP ?_ | refine isL ?_)); (first | with_reducible refine sx_region ?_ | ((with_reducible refine isK ?_); (first | refine svT F (h := ?_) | refine svF F (h := ?_) | ((refine svB F (fun hc => ?_) (fun hc => ?_)) <;> (try (exact no hc))))) | ((with_reducible refine isD ?_); fail) | with_reducible refine wp_scope_straight ?_ | with_reducible refine wp_label ?_ | go_step))))
    have M2 := M.perms (permsA : Perms _ (ownT 9 stL 1 (sl ⟨some ⟨nb, 0, none⟩, 12, 12⟩) auNs :: (R ++ G)))
    clear M; have M := M2; clear M2
    have hu : (auNs.flatMap stL)[(k - 1).toNat * 1]? = some (str (auNm k)) := by
      have := flat_get (f := stL) (k := 1) (fun x => rfl) auNs (k - 1).toNat 0 (auNm k) hat (by decide)
      simpa [stL] using this
    refine sv1 F M (h := ?_) (hr := rt_load_at (v := sl ⟨some ⟨nb, 0, none⟩, 12, 12⟩) (p := (k - 1).toNat * 1) rfl rfl inferInstance (gs_own pullA) hu)
    clear F a; intro a F
    (repeat' (first | (refine sx_nil ?_; (try (replace F := F.filt [0, 2, 3, 4, 13] rfl))) | (refine sv1 F M (h := ?_); clear F a; intro a F) | refine pv1 (h := ?_) | (refine sv3 F M (h := ?_); clear M; intro w M) | (refine sv2 F M (h := ?_); clear F M a; intro nb a w F M) | refine pv3 (h := ?_) | (refine pv2 (h := ?_); intro nb) | ((first | refine svC F M (h := ?_) | refine svC0 F M (h := ?_) | refine pvC (h := ?_) | refine pvC0 (h := ?_)); ((first | ((refine acW (k := 18) (alive24_spec _) ?_); rintro u L' ⟨rfl, rfl⟩) | ((refine acW (k := 24) (arules_spec _) ?_); rintro u L' ⟨rfl, rfl⟩) | ((refine acW (k := 23) (hnm _) ?_); rintro u L' ⟨rfl, rfl⟩))); (first | refine ⟨rvsA, ?_⟩ | (clear F M a; intro a w F M) | (clear M; intro w M))) | (refine svK F (h := ?_); clear F a; intro a F) | refine svK0 F (h := ?_) | ((refine sx_guardb F rfl (fun hg => ?_) (fun hg => ?_)) <;> (rw [hg] at F; (try (exact no hg)))) | (refine pvF (h := ?_); intro nb) | refine pvK (h := ?_) | refine pvK0 (h := ?_) | (refine pv_nil ?_; intro a w F M; (try (replace F := F.filt [0, 2, 3, 4, 13] rfl))) | ((fail_if_success (with_reducible first | refine isW ?_ | refine isP ?_ | refine isL ?_)); (first | with_reducible refine sx_region ?_ | ((with_reducible refine isK ?_); (first | refine svT F (h := ?_) | refine svF F (h := ?_) | ((refine svB F (fun hc => ?_) (fun hc => ?_)) <;> (try (exact no hc))))) | ((with_reducible refine isD ?_); fail) | with_reducible refine wp_scope_straight ?_ | with_reducible refine wp_label ?_ | go_step))))
    (all_goals ((first | refine svEnd F M ?_ | refine svRet F M ?_); exact ⟨_, _, rfl, ⟨rfl, rfl⟩, M.perms permsA⟩))
  · have hn : auNm k = [] := by rw [auNm, if_pos (by omega)]
    rw [hn] at hnm
    by_cases h3 : k < 1
    · (repeat' (first | (refine sx_nil ?_; (try (replace F := F.filt [0, 2, 3, 4, 13] rfl))) | (refine sv1 F M (h := ?_); clear F a; intro a F) | refine pv1 (h := ?_) | (refine sv3 F M (h := ?_); clear M; intro w M) | (refine sv2 F M (h := ?_); clear F M a; intro nb a w F M) | refine pv3 (h := ?_) | (refine pv2 (h := ?_); intro nb) | ((first | refine svC F M (h := ?_) | refine svC0 F M (h := ?_) | refine pvC (h := ?_) | refine pvC0 (h := ?_)); ((first | ((refine acW (k := 18) (alive24_spec _) ?_); rintro u L' ⟨rfl, rfl⟩) | ((refine acW (k := 24) (arules_spec _) ?_); rintro u L' ⟨rfl, rfl⟩) | ((refine acW (k := 23) (hnm _) ?_); rintro u L' ⟨rfl, rfl⟩))); (first | refine ⟨rvsA, ?_⟩ | (clear F M a; intro a w F M) | (clear M; intro w M))) | (refine svK F (h := ?_); clear F a; intro a F) | refine svK0 F (h := ?_) | ((refine sx_guardb F rfl (fun hg => ?_) (fun hg => ?_)) <;> (rw [hg] at F; (try (exact no hg)))) | (refine pvF (h := ?_); intro nb) | refine pvK (h := ?_) | refine pvK0 (h := ?_) | (refine pv_nil ?_; intro a w F M; (try (replace F := F.filt [0, 2, 3, 4, 13] rfl))) | ((fail_if_success (with_reducible first | refine isW ?_ | refine isP ?_ | refine isL ?_)); (first | with_reducible refine sx_region ?_ | ((with_reducible refine isK ?_); (first | refine svT F (h := ?_) | refine svF F (h := ?_) | ((refine svB F (fun hc => ?_) (fun hc => ?_)) <;> (try (exact no hc))))) | ((with_reducible refine isD ?_); fail) | with_reducible refine wp_scope_straight ?_ | with_reducible refine wp_label ?_ | go_step))))
      (all_goals ((first | refine svEnd F M ?_ | refine svRet F M ?_); exact ⟨_, _, rfl, ⟨rfl, rfl⟩, M.perms permsA⟩))
    · have h4 : 12 < k := by omega
      (repeat' (first | (refine sx_nil ?_; (try (replace F := F.filt [0, 2, 3, 4, 13] rfl))) | (refine sv1 F M (h := ?_); clear F a; intro a F) | refine pv1 (h := ?_) | (refine sv3 F M (h := ?_); clear M; intro w M) | (refine sv2 F M (h := ?_); clear F M a; intro nb a w F M) | refine pv3 (h := ?_) | (refine pv2 (h := ?_); intro nb) | ((first | refine svC F M (h := ?_) | refine svC0 F M (h := ?_) | refine pvC (h := ?_) | refine pvC0 (h := ?_)); ((first | ((refine acW (k := 18) (alive24_spec _) ?_); rintro u L' ⟨rfl, rfl⟩) | ((refine acW (k := 24) (arules_spec _) ?_); rintro u L' ⟨rfl, rfl⟩) | ((refine acW (k := 23) (hnm _) ?_); rintro u L' ⟨rfl, rfl⟩))); (first | refine ⟨rvsA, ?_⟩ | (clear F M a; intro a w F M) | (clear M; intro w M))) | (refine svK F (h := ?_); clear F a; intro a F) | refine svK0 F (h := ?_) | ((refine sx_guardb F rfl (fun hg => ?_) (fun hg => ?_)) <;> (rw [hg] at F; (try (exact no hg)))) | (refine pvF (h := ?_); intro nb) | refine pvK (h := ?_) | refine pvK0 (h := ?_) | (refine pv_nil ?_; intro a w F M; (try (replace F := F.filt [0, 2, 3, 4, 13] rfl))) | ((fail_if_success (with_reducible first | refine isW ?_ | refine isP ?_ | refine isL ?_)); (first | with_reducible refine sx_region ?_ | ((with_reducible refine isK ?_); (first | refine svT F (h := ?_) | refine svF F (h := ?_) | ((refine svB F (fun hc => ?_) (fun hc => ?_)) <;> (try (exact no hc))))) | ((with_reducible refine isD ?_); fail) | with_reducible refine wp_scope_straight ?_ | with_reducible refine wp_label ?_ | go_step))))
      (all_goals ((first | refine svEnd F M ?_ | refine svRet F M ?_); exact ⟨_, _, rfl, ⟨rfl, rfl⟩, M.perms permsA⟩))
end Go.Proofs.YtopbohbkhljjgaaGreat
end
section
namespace Go.Proofs.YtopbohbkhljjgaaGreat
open Go.RowKit
set_option maxRecDepth 100000
/-- A law out of its contract. -/
theorem law_of {k : FuncId} {us : List Value} {w : World} (h : ∀ R, (Spec k us R fun u L' => u = .bool true ∧ L' = R)) : Calls Tryz.prog k us.toArray w fun e w' => e = .returned (.bool true) ∧ Below w.heap.size w w' := by
  refine (h [Old w] [] w (Mem.old w)).mono ?_
  rintro e w' ⟨u, L', rfl, ⟨rfl, rfl⟩, M⟩
  exact ⟨rfl, M.below .here⟩
theorem start_AuditNames (w : World) (a : Int) (ha : -9223372036854775808 ≤ a ∧ a ≤ 9223372036854775807) : Calls Tryz.prog 4 #[.int .i64 a] w fun e w' => e = .returned (.bool true) ∧ Below w.heap.size w w' := law_of (us := [.int .i64 a]) (names_law a ha)
end Go.Proofs.YtopbohbkhljjgaaGreat
end
section
namespace Go.Proofs.YtopbohbkhljjgaaGreat
open Go.RowKit
set_option linter.unusedVariables false
set_option maxRecDepth 100000
set_option linter.unusedSimpArgs false
set_option maxHeartbeats 4000000
/-- slices.Clone: clone_int the name, slices.Clone[[]int,int] the instance, intL the elements' cells, 1 so many cells, Int the elements, int their type. -/
theorem clone_int (h : SlH) (xs : List Int) {L : List Asn} (hu : GS L 1 (sl h) xs.length (xs.flatMap intL)) (hb : xs.length ≤ 1000000) :
    Spec 26 [sl h] L fun u L' => ∃ h', u = sl h' ∧ L' = ownT 3 intL 1 (sl h') xs :: L := by
  (intro G w M; refine sx_enter (vs := [sl h]) Tryz.func26 (n := 8) rfl rfl rfl rfl ?_; intro a F; (try simp only [List.cons_append, List.nil_append] at M))
  have hu' : GS (L ++ G) 1 (sl h) xs.length (xs.flatMap intL) := hu.imp fun w M => M.drop_app
  have hlv := hu'.len_le M
  obtain ⟨ha, hn, hc⟩ := h
  cases ha with
  | none =>
    have hx : xs = [] := by
      have := (hu' w M).nil_len
      exact List.eq_nil_of_length_eq_zero this
    subst hx
    (repeat' (first | (first | (refine sx_nil ?_; (try (replace F := F.filt [0, 2, 4] rfl))) | (refine sv1 F M (h := ?_) (hr := by fail); clear F a; intro a F) | (refine sv1 F M (h := ?_); clear F a; intro a F) | (refine sv3 F M (h := ?_); clear M; intro w M) | (refine sv2 F M (h := ?_); clear F M a; intro b a w F M) | (refine svC F M (h := ?_); fail; (clear F M a; intro a w F M)) | (refine svC0 F M (h := ?_); fail; (clear M; intro w M)) | (refine sv1 F M (h := ?_) (hr := by (apply rt_nils; (exact rfl); (exact rfl); (exact rfl); (exact inferInstance))); clear F a; intro a F) | (refine svK F (h := ?_); clear F a; intro a F) | (refine svK0 F (h := ?_)) | ((refine sx_guardb F rfl (fun hg => ?_) (fun hg => ?_)) <;> (rw [hg] at F; (try (exact no hg))))) | (first | (refine pv1 (h := ?_) (hr := by fail)) | (refine pv1 (h := ?_)) | (refine pv3 (h := ?_)) | (refine pv2 (h := ?_); intro b) | (refine pvC (h := ?_); fail; (refine ⟨?_, ?_⟩; (exact rvsA))) | (refine pvC0 (h := ?_); fail; (refine ⟨?_, ?_⟩; (exact rvsA))) | (refine pv1 (h := ?_) (hr := by (apply rt_nils; (exact rfl); (exact rfl); (exact rfl); (exact inferInstance)))) | (refine pvF (h := ?_); intro b) | (refine pvK (h := ?_)) | (refine pvK0 (h := ?_)) | (refine pv_nil ?_; intro a w F M; refine ql_open ?_) | (refine pv_nil ?_; intro a w F M; (try (replace F := F.filt [0, 2, 4] rfl)))) | ((fail_if_success (with_reducible show wpList _ _ _ _ _ _)); (fail_if_success (with_reducible show PW _ _ _ _ _ _ _ _ _ _)); (fail_if_success (with_reducible show Code.wp _ (Code.loop _) _ _ _)); (first | ((with_reducible show Code.wp _ (Code.region _ _ false) _ _ _); (refine sx_region ?_)) | ((with_reducible show Code.wp _ (Code.cond _ _ _) _ _ _); (first | (refine svT F (h := ?_)) | (refine svF F (h := ?_)) | ((refine svB F (fun hc => ?_) (fun hc => ?_)) <;> (try (exact no hc))))) | ((with_reducible show Code.wp _ (Code.region _ _ true) _ _ _); fail) | go_step))))
    all_goals (first | (refine svEnd F M ?_) | (refine svRet F M ?_))
    all_goals refine ⟨_, _, rfl, ⟨⟨none, 0, 0⟩, rfl, rfl⟩, ?_⟩
    all_goals exact M.own_nil _ _
  | some ad =>
    (repeat' (first | (first | (refine sx_nil ?_; (try (replace F := F.filt [0, 2, 4] rfl))) | (refine sv1 F M (h := ?_) (hr := by fail); clear F a; intro a F) | (refine sv1 F M (h := ?_); clear F a; intro a F) | (refine sv3 F M (h := ?_); clear M; intro w M) | (refine sv2 F M (h := ?_); clear F M a; intro b a w F M) | (refine svC F M (h := ?_); (first | (apply ac_appendH (xs := ([] : List Int)) (ys := xs) (f := intL); (exact rfl); (exact rfl); (exact inferInstance); (exact rfl); (exact rfl); (focus ((repeat (first | exact Pull.here | apply Pull.there)); done)); (exact inferInstance); (exact hu'.tail); (exact rfl); (exact rfl); (simp; omega); intro v')); (clear F M a; intro a w F M)) | (refine svC0 F M (h := ?_); (first | (apply ac_appendH (xs := ([] : List Int)) (ys := xs) (f := intL); (exact rfl); (exact rfl); (exact inferInstance); (exact rfl); (exact rfl); (focus ((repeat (first | exact Pull.here | apply Pull.there)); done)); (exact inferInstance); (exact hu'.tail); (exact rfl); (exact rfl); (simp; omega); intro v')); (clear M; intro w M)) | (refine sv1 F M (h := ?_) (hr := by (apply rt_nils; (exact rfl); (exact rfl); (exact rfl); (exact inferInstance))); clear F a; intro a F) | (refine svK F (h := ?_); clear F a; intro a F) | (refine svK0 F (h := ?_)) | ((refine sx_guardb F rfl (fun hg => ?_) (fun hg => ?_)) <;> (rw [hg] at F; (try (exact no hg))))) | (first | (refine pv1 (h := ?_) (hr := by fail)) | (refine pv1 (h := ?_)) | (refine pv3 (h := ?_)) | (refine pv2 (h := ?_); intro b) | (refine pvC (h := ?_); (first | (apply ac_appendH (xs := ([] : List Int)) (ys := xs) (f := intL); (exact rfl); (exact rfl); (exact inferInstance); (exact rfl); (exact rfl); (focus ((repeat (first | exact Pull.here | apply Pull.there)); done)); (exact inferInstance); (exact hu'.tail); (exact rfl); (exact rfl); (simp; omega); intro v')); (refine ⟨?_, ?_⟩; (exact rvsA))) | (refine pvC0 (h := ?_); (first | (apply ac_appendH (xs := ([] : List Int)) (ys := xs) (f := intL); (exact rfl); (exact rfl); (exact inferInstance); (exact rfl); (exact rfl); (focus ((repeat (first | exact Pull.here | apply Pull.there)); done)); (exact inferInstance); (exact hu'.tail); (exact rfl); (exact rfl); (simp; omega); intro v')); (refine ⟨?_, ?_⟩; (exact rvsA))) | (refine pv1 (h := ?_) (hr := by (apply rt_nils; (exact rfl); (exact rfl); (exact rfl); (exact inferInstance)))) | (refine pvF (h := ?_); intro b) | (refine pvK (h := ?_)) | (refine pvK0 (h := ?_)) | (refine pv_nil ?_; intro a w F M; refine ql_open ?_) | (refine pv_nil ?_; intro a w F M; (try (replace F := F.filt [0, 2, 4] rfl)))) | ((fail_if_success (with_reducible show wpList _ _ _ _ _ _)); (fail_if_success (with_reducible show PW _ _ _ _ _ _ _ _ _ _)); (fail_if_success (with_reducible show Code.wp _ (Code.loop _) _ _ _)); (first | ((with_reducible show Code.wp _ (Code.region _ _ false) _ _ _); (refine sx_region ?_)) | ((with_reducible show Code.wp _ (Code.cond _ _ _) _ _ _); (first | (refine svT F (h := ?_)) | (refine svF F (h := ?_)) | ((refine svB F (fun hc => ?_) (fun hc => ?_)) <;> (try (exact no hc))))) | ((with_reducible show Code.wp _ (Code.region _ _ true) _ _ _); fail) | go_step))))
    all_goals refine svC F M (h := ?_)
    all_goals (refine ac_appendH (f := intL) (xs := []) (ys := xs) rfl rfl inferInstance rfl rfl (by (focus ((repeat (first | exact Pull.here | apply Pull.there)); done))) inferInstance hu'.tail rfl rfl (by simp; omega) ?_)
    all_goals (intro v' a w F M)
    all_goals (repeat' (first | (first | (refine sx_nil ?_; (try (replace F := F.filt [0, 2, 4] rfl))) | (refine sv1 F M (h := ?_) (hr := by fail); clear F a; intro a F) | (refine sv1 F M (h := ?_); clear F a; intro a F) | (refine sv3 F M (h := ?_); clear M; intro w M) | (refine sv2 F M (h := ?_); clear F M a; intro b a w F M) | (refine svC F M (h := ?_); (first | (apply ac_appendH (xs := ([] : List Int)) (ys := xs) (f := intL); (exact rfl); (exact rfl); (exact inferInstance); (exact rfl); (exact rfl); (focus ((repeat (first | exact Pull.here | apply Pull.there)); done)); (exact inferInstance); (exact hu'.tail); (exact rfl); (exact rfl); (simp; omega); intro v')); (clear F M a; intro a w F M)) | (refine svC0 F M (h := ?_); (first | (apply ac_appendH (xs := ([] : List Int)) (ys := xs) (f := intL); (exact rfl); (exact rfl); (exact inferInstance); (exact rfl); (exact rfl); (focus ((repeat (first | exact Pull.here | apply Pull.there)); done)); (exact inferInstance); (exact hu'.tail); (exact rfl); (exact rfl); (simp; omega); intro v')); (clear M; intro w M)) | (refine sv1 F M (h := ?_) (hr := by (apply rt_nils; (exact rfl); (exact rfl); (exact rfl); (exact inferInstance))); clear F a; intro a F) | (refine svK F (h := ?_); clear F a; intro a F) | (refine svK0 F (h := ?_)) | ((refine sx_guardb F rfl (fun hg => ?_) (fun hg => ?_)) <;> (rw [hg] at F; (try (exact no hg))))) | (first | (refine pv1 (h := ?_) (hr := by fail)) | (refine pv1 (h := ?_)) | (refine pv3 (h := ?_)) | (refine pv2 (h := ?_); intro b) | (refine pvC (h := ?_); (first | (apply ac_appendH (xs := ([] : List Int)) (ys := xs) (f := intL); (exact rfl); (exact rfl); (exact inferInstance); (exact rfl); (exact rfl); (focus ((repeat (first | exact Pull.here | apply Pull.there)); done)); (exact inferInstance); (exact hu'.tail); (exact rfl); (exact rfl); (simp; omega); intro v')); (refine ⟨?_, ?_⟩; (exact rvsA))) | (refine pvC0 (h := ?_); (first | (apply ac_appendH (xs := ([] : List Int)) (ys := xs) (f := intL); (exact rfl); (exact rfl); (exact inferInstance); (exact rfl); (exact rfl); (focus ((repeat (first | exact Pull.here | apply Pull.there)); done)); (exact inferInstance); (exact hu'.tail); (exact rfl); (exact rfl); (simp; omega); intro v')); (refine ⟨?_, ?_⟩; (exact rvsA))) | (refine pv1 (h := ?_) (hr := by (apply rt_nils; (exact rfl); (exact rfl); (exact rfl); (exact inferInstance)))) | (refine pvF (h := ?_); intro b) | (refine pvK (h := ?_)) | (refine pvK0 (h := ?_)) | (refine pv_nil ?_; intro a w F M; refine ql_open ?_) | (refine pv_nil ?_; intro a w F M; (try (replace F := F.filt [0, 2, 4] rfl)))) | ((fail_if_success (with_reducible show wpList _ _ _ _ _ _)); (fail_if_success (with_reducible show PW _ _ _ _ _ _ _ _ _ _)); (fail_if_success (with_reducible show Code.wp _ (Code.loop _) _ _ _)); (first | ((with_reducible show Code.wp _ (Code.region _ _ false) _ _ _); (refine sx_region ?_)) | ((with_reducible show Code.wp _ (Code.cond _ _ _) _ _ _); (first | (refine svT F (h := ?_)) | (refine svF F (h := ?_)) | ((refine svB F (fun hc => ?_) (fun hc => ?_)) <;> (try (exact no hc))))) | ((with_reducible show Code.wp _ (Code.region _ _ true) _ _ _); fail) | go_step))))
    all_goals (first | (refine svEnd F M ?_) | (refine svRet F M ?_))
    all_goals (refine ⟨_, _, rfl, ⟨v', rfl, rfl⟩, ?_⟩; (try simp only [List.cons_append, List.nil_append]); exact M.perms permsA)
/-- What a snapshot's slices read. -/
structure SnG (R : List Asn) (x : Sn) (d : SnD) : Prop where
  gV : GS R 7 (sl x.hV) d.V.length (d.V.flatMap valL)
  gP : GS R 1 (sl x.hP) d.pe.length (d.pe.flatMap intL)
  gF : GS R 1 (sl x.hF) d.fo.length (d.fo.flatMap intL)
  gO : GS R 1 (sl x.hO) d.vo.length (d.vo.flatMap intL)
  gM : ∃ cs, GS R 2 (sl x.hM) d.nM cs
  gQ : ∃ cs, GS R 2 (sl x.hQ) d.nQ cs
theorem SnG.app {R : List Asn} {x : Sn} {d : SnD} (h : SnG R x d) (G : List Asn) : SnG (R ++ G) x d :=
  ⟨Gives.app h.gV, Gives.app h.gP, Gives.app h.gF, Gives.app h.gO, h.gM.imp fun _ h => Gives.app h, h.gQ.imp fun _ h => Gives.app h⟩
theorem SnG.tail {R : List Asn} {x : Sn} {d : SnD} (h : SnG R x d) (A : Asn) : SnG (A :: R) x d :=
  ⟨GS.tail h.gV, GS.tail h.gP, GS.tail h.gF, GS.tail h.gO, h.gM.imp fun _ h => GS.tail h, h.gQ.imp fun _ h => GS.tail h⟩
structure SnR (x : Sn) (d : SnD) : Prop where
  bal : ∀ v ∈ d.V, U64 v.bal
  iP : ∀ z ∈ d.pe, I64 z
  iF : ∀ z ∈ d.fo, I64 z
  iO : ∀ z ∈ d.vo, I64 z
  pd : U64 x.pd
  bu : U64 x.bu
  bk : I64 x.bk
def stL24 (x : Sn) (d : SnD) : List Value := [.int .i64 x.bk, .int .i64 x.ep, sl x.hV, .int .u64 x.dep, .int .u64 x.pd, .int .u64 x.bu, .int .u64 x.ac, sl x.hP, sl x.hF, sl x.hO, .int .i64 d.nM, .int .i64 d.nQ, .int .i64 x.un]
abbrev stV24 (x : Sn) (d : SnD) : Value := .agg (stL24 x d).toArray
def mnI (x y : Int) : Int := if y < x then y else x
def fewV (v : Val) : Bool := !(decide (1152921504606846976 < mxI (mxI v.ex v.wd) v.rq) || decide (mnI (mnI v.ex v.wd) v.rq < -1152921504606846976))
def fewT (d : SnD) : Bool := decide ((d.V.length : Int) ≤ 60) && decide ((d.pe.length : Int) ≤ 60) && decide ((d.fo.length : Int) ≤ 60) && decide ((d.vo.length : Int) ≤ 60) && decide ((d.nM : Int) ≤ 60) && decide ((d.nQ : Int) ≤ 60)
def fewB (d : SnD) : Bool := d.V.all fewV && fewT d
theorem mxI_max (x y : Int) : mxI x y = max x y := by unfold mxI; split <;> omega
theorem mnI_min (x y : Int) : mnI x y = min x y := by unfold mnI; split <;> omega
theorem fewV_ep {v : Val} (h : fewV v = true) : epR v := by
  simp only [fewV, mxI_max, mnI_min, Bool.not_eq_true', Bool.or_eq_false_iff, decide_eq_false_iff_not, Int.not_lt] at h
  obtain ⟨h1, h2⟩ := h
  unfold epR
  omega
theorem auOK_of {R : List Asn} {x : Sn} {d : SnD} {c : Cfg} (h : SnG R x d) (hr : SnR x d) (hf : fewB d = true) (hc : checkF c = 0) : AuOK R x d c := by
  simp only [fewB, fewT, Bool.and_eq_true, List.all_eq_true, decide_eq_true_eq] at hf
  obtain ⟨h1, ⟨⟨⟨⟨h2, h3⟩, h4⟩, h5⟩, h6⟩, h7⟩ := hf
  have k14 := checkF_zero hc 14 (by omega) (by omega)
  simp [fieldB, bt] at k14
  exact ⟨h.gV, h.gP, h.gF, h.gO, h.gM, h.gQ, by omega, by omega, by omega, by omega, hr.bal, fun v hv => fewV_ep (h1 v hv), hr.iP, hr.iF, hr.iO, hr.pd, hr.bu, hr.bk, k14.1⟩
theorem rcheck_spec (c : Cfg) (R : List Asn) : Spec 16 [cfgV c] R fun u L' => u = .int .i64 (checkF c) ∧ L' = R := Spec.of_below (fun w => rCheck_any c w) ⟨rfl, rfl⟩
section
variable (x : Sn) (d : SnD) (R : List Asn) (h : SnG R x d)
include h
theorem state24_spec : Spec 15 [snV x] R fun u L' => u = stV24 x d ∧ L' = R := by
  (intro G w M; refine sx_enter (vs := ([snV x] : List Value)) Tryz.func15 (n := 32) rfl rfl rfl rfl ?_; intro a F; (try simp only [List.cons_append, List.nil_append] at M))
  have hh := h.app G
  have gM := hh.gM; have gQ := hh.gQ
  obtain ⟨cM, gM⟩ := gM
  obtain ⟨cQ, gQ⟩ := gQ
  (repeat' (first | (refine sx_nil ?_; (try (replace F := F.filt [0, 1, 2] rfl))) | (refine sv1 F M (h := ?_); clear F a; intro a F) | refine pv1 (h := ?_) | (refine sv3 F M (h := ?_); clear M; intro w M) | (refine sv2 F M (h := ?_); clear F M a; intro nb a w F M) | refine pv3 (h := ?_) | (refine pv2 (h := ?_); intro nb) | ((first | refine svC F M (h := ?_) | refine svC0 F M (h := ?_) | refine pvC (h := ?_) | refine pvC0 (h := ?_)); (fail); (first | refine ⟨rvsA, ?_⟩ | (clear F M a; intro a w F M) | (clear M; intro w M))) | (refine svK F (h := ?_); clear F a; intro a F) | refine svK0 F (h := ?_) | ((refine sx_guardb F rfl (fun hg => ?_) (fun hg => ?_)) <;> (rw [hg] at F; (try (exact no hg)))) | (refine pvF (h := ?_); intro nb) | refine pvK (h := ?_) | refine pvK0 (h := ?_) | (refine pv_nil ?_; intro a w F M; (try (replace F := F.filt [0, 1, 2] rfl))) | ((fail_if_success (with_reducible first | refine isW ?_ | refine isP ?_ | refine isL ?_)); (first | with_reducible refine sx_region ?_ | ((with_reducible refine isK ?_); (first | refine svT F (h := ?_) | refine svF F (h := ?_) | ((refine svB F (fun hc => ?_) (fun hc => ?_)) <;> (try (exact no hc))))) | ((with_reducible refine isD ?_); fail) | with_reducible refine wp_scope_straight ?_ | with_reducible refine wp_label ?_ | go_step))))
  (all_goals ((first | refine svEnd F M ?_ | refine svRet F M ?_); exact ⟨_, _, rfl, ⟨rfl, rfl⟩, M.perms permsA⟩))
theorem few24_spec : Spec 17 [stV24 x d] R fun u L' => u = .bool (fewB d) ∧ L' = R := by
  generalize hX : fewB d = X
  (intro G w M; refine sx_enter (vs := ([stV24 x d] : List Value)) Tryz.func17 (n := 67) rfl rfl rfl rfl ?_; intro a F; (try simp only [List.cons_append, List.nil_append] at M))
  have hh := h.app G
  have gV := hh.gV; have gP := hh.gP; have gF := hh.gF; have gO := hh.gO
  have hlv := gV.len_le M
  (repeat' (first | (refine sx_nil ?_; (try (replace F := F.filt [0, 1, 2, 3, 4, 9, 34] rfl))) | (refine sv1 F M (h := ?_); clear F a; intro a F) | refine pv1 (h := ?_) | (refine sv3 F M (h := ?_); clear M; intro w M) | (refine sv2 F M (h := ?_); clear F M a; intro nb a w F M) | refine pv3 (h := ?_) | (refine pv2 (h := ?_); intro nb) | ((first | refine svC F M (h := ?_) | refine svC0 F M (h := ?_) | refine pvC (h := ?_) | refine pvC0 (h := ?_)); (fail); (first | refine ⟨rvsA, ?_⟩ | (clear F M a; intro a w F M) | (clear M; intro w M))) | (refine svK F (h := ?_); clear F a; intro a F) | refine svK0 F (h := ?_) | ((refine sx_guardb F rfl (fun hg => ?_) (fun hg => ?_)) <;> (rw [hg] at F; (try (exact no hg)))) | (refine pvF (h := ?_); intro nb) | refine pvK (h := ?_) | refine pvK0 (h := ?_) | (refine pv_nil ?_; intro a w F M; (try (replace F := F.filt [0, 1, 2, 3, 4, 9, 34] rfl))) | ((fail_if_success (with_reducible first | refine isW ?_ | refine isP ?_ | refine isL ?_)); (first | with_reducible refine sx_region ?_ | ((with_reducible refine isK ?_); (first | refine svT F (h := ?_) | refine svF F (h := ?_) | ((refine svB F (fun hc => ?_) (fun hc => ?_)) <;> (try (exact no hc))))) | ((with_reducible refine isD ?_); fail) | with_reducible refine wp_scope_straight ?_ | with_reducible refine wp_label ?_ | go_step))))
  refine svLoop F M (0 : Nat) (fun k => [(3, .int .i64 k)]) (fun _ => []) (fun k => k ≤ d.V.length ∧ ((d.V.drop k).all fewV && fewT d) = X) (fun k => d.V.length - k) [4] ⟨Nat.zero_le _, by simpa [fewB] using hX⟩ ?_
  (rintro k ⟨q1, q2⟩ a w F M; (try simp only [List.cons_append, List.nil_append] at F M q1 q2 ⊢))
  by_cases hlt : k < d.V.length
  · obtain ⟨v, hv⟩ : ∃ v, d.V[k]? = some v := ⟨d.V[k], by simp [hlt]⟩
    rw [drop_cons hv, List.all_cons] at q2
    (repeat' (first | ((first | refine sv1 F M (h := ?_) (hr := by ((first | (apply rt_max; (exact rfl); (exact rfl); (show _ = some (mxI (mxI v.ex v.wd) v.rq); exact rfl)) | (apply rt_min; (exact rfl); (exact rfl); (show _ = some (mnI (mnI v.ex v.wd) v.rq); exact rfl))))) | refine pv1 (h := ?_) (hr := by ((first | (apply rt_max; (exact rfl); (exact rfl); (show _ = some (mxI (mxI v.ex v.wd) v.rq); exact rfl)) | (apply rt_min; (exact rfl); (exact rfl); (show _ = some (mnI (mnI v.ex v.wd) v.rq); exact rfl)))))); (try (clear F a; intro a F))) | (refine sx_nil ?_; (try (replace F := F.filt [0, 1, 2, 3, 4, 9, 34] rfl))) | (refine sv1 F M (h := ?_); clear F a; intro a F) | refine pv1 (h := ?_) | (refine sv3 F M (h := ?_); clear M; intro w M) | (refine sv2 F M (h := ?_); clear F M a; intro nb a w F M) | refine pv3 (h := ?_) | (refine pv2 (h := ?_); intro nb) | ((first | refine svC F M (h := ?_) | refine svC0 F M (h := ?_) | refine pvC (h := ?_) | refine pvC0 (h := ?_)); (fail); (first | refine ⟨rvsA, ?_⟩ | (clear F M a; intro a w F M) | (clear M; intro w M))) | (refine svK F (h := ?_); clear F a; intro a F) | refine svK0 F (h := ?_) | ((refine sx_guardb F rfl (fun hg => ?_) (fun hg => ?_)) <;> (rw [hg] at F; (try (exact no hg)))) | (refine pvF (h := ?_); intro nb) | refine pvK (h := ?_) | refine pvK0 (h := ?_) | (refine pv_nil ?_; intro a w F M; (try (replace F := F.filt [0, 1, 2, 3, 4, 9, 34] rfl))) | ((fail_if_success (with_reducible first | refine isW ?_ | refine isP ?_ | refine isL ?_)); (first | with_reducible refine sx_region ?_ | ((with_reducible refine isK ?_); (first | refine svT F (h := ?_) | refine svF F (h := ?_) | ((refine svB F (fun hc => ?_) (fun hc => ?_)) <;> (try (exact no hc))))) | ((with_reducible refine isD ?_); fail) | with_reducible refine wp_scope_straight ?_ | with_reducible refine wp_label ?_ | go_step))))
    all_goals first
      | ((first | refine svEnd F M ?_ | refine svRet F M ?_); refine ⟨_, _, rfl, ⟨?_, rfl⟩, M.perms permsA⟩; rw [← q2]; simp_all [tupOf, fewV]; done)
      | (refine sv_again F M (k + 1) kpA permsA ⟨by omega, by have e : fewV v = true := (by simp_all [fewV]); rw [e, Bool.true_and] at q2; exact q2⟩ (by omega))
      | skip
  · obtain rfl : k = d.V.length := by omega
    rw [List.drop_length] at q2
    (repeat' (first | ((first | refine sv1 F M (h := ?_) (hr := by ((first | (apply rt_max; (exact rfl); (exact rfl); (show _ = some (mxI (mxI v.ex v.wd) v.rq); exact rfl)) | (apply rt_min; (exact rfl); (exact rfl); (show _ = some (mnI (mnI v.ex v.wd) v.rq); exact rfl))))) | refine pv1 (h := ?_) (hr := by ((first | (apply rt_max; (exact rfl); (exact rfl); (show _ = some (mxI (mxI v.ex v.wd) v.rq); exact rfl)) | (apply rt_min; (exact rfl); (exact rfl); (show _ = some (mnI (mnI v.ex v.wd) v.rq); exact rfl)))))); (try (clear F a; intro a F))) | (refine sx_nil ?_; (try (replace F := F.filt [0, 1, 2, 3, 4, 9, 34] rfl))) | (refine sv1 F M (h := ?_); clear F a; intro a F) | refine pv1 (h := ?_) | (refine sv3 F M (h := ?_); clear M; intro w M) | (refine sv2 F M (h := ?_); clear F M a; intro nb a w F M) | refine pv3 (h := ?_) | (refine pv2 (h := ?_); intro nb) | ((first | refine svC F M (h := ?_) | refine svC0 F M (h := ?_) | refine pvC (h := ?_) | refine pvC0 (h := ?_)); (fail); (first | refine ⟨rvsA, ?_⟩ | (clear F M a; intro a w F M) | (clear M; intro w M))) | (refine svK F (h := ?_); clear F a; intro a F) | refine svK0 F (h := ?_) | ((refine sx_guardb F rfl (fun hg => ?_) (fun hg => ?_)) <;> (rw [hg] at F; (try (exact no hg)))) | (refine pvF (h := ?_); intro nb) | refine pvK (h := ?_) | refine pvK0 (h := ?_) | (refine pv_nil ?_; intro a w F M; (try (replace F := F.filt [0, 1, 2, 3, 4, 9, 34] rfl))) | ((fail_if_success (with_reducible first | refine isW ?_ | refine isP ?_ | refine isL ?_)); (first | with_reducible refine sx_region ?_ | ((with_reducible refine isK ?_); (first | refine svT F (h := ?_) | refine svF F (h := ?_) | ((refine svB F (fun hc => ?_) (fun hc => ?_)) <;> (try (exact no hc))))) | ((with_reducible refine isD ?_); fail) | with_reducible refine wp_scope_straight ?_ | with_reducible refine wp_label ?_ | go_step))))
    all_goals (first | refine svEnd F M ?_ | refine svRet F M ?_)
    all_goals (refine ⟨_, _, rfl, ⟨?_, rfl⟩, M.perms permsA⟩; rw [← q2])
    all_goals (simp_all [tupOf, fewT] <;> omega)
end
end Go.Proofs.YtopbohbkhljjgaaGreat
end
section
namespace Go.Proofs.YtopbohbkhljjgaaGreat
open Go.RowKit
set_option linter.unusedVariables false
set_option maxRecDepth 100000
set_option linter.unusedSimpArgs false
set_option maxHeartbeats 4000000
theorem allGo_cons (x : Sn) (d : SnD) (c : Cfg) : ∀ (n k : Nat) (z : Int) (r : List Int), allGo x d c n k = z :: r → ∃ m n' : Nat, z = (m : Int) ∧ k ≤ m ∧ m + n' + 1 = k + n ∧ r = allGo x d c n' (m + 1)
  | 0, k, z, r, h => by simp [allGo] at h
  | n + 1, k, z, r, h => by
    rw [allGo] at h
    split at h
    · obtain ⟨m, n', e1, e2, e3, e4⟩ := allGo_cons x d c n (k + 1) z r (by simpa using h)
      exact ⟨m, n', e1, by omega, by omega, e4⟩
    · simp at h
      exact ⟨k, n, h.1.symm, by omega, by omega, h.2.symm⟩
theorem nil_ne {α : Type} {l : List α} (h : l ≠ []) : ∃ a r, l = a :: r := by
  cases l with
  | nil => exact absurd rfl h
  | cons a r => exact ⟨a, r, rfl⟩
section
variable (x : Sn) (d : SnD) (c : Cfg) (R : List Asn) (h : SnG R x d) (hr : SnR x d)
include h hr
theorem keeps_law : Spec 6 [snV x, cfgV c] R fun u L' => u = .bool true ∧ L' = R := by
  have hck := fun R => rcheck_spec c R
  have hst := fun R h => state24_spec x d R h
  have hfw := fun R h => few24_spec x d R h
  by_cases hc : checkF c = 0
  · cases hf : fewB d
    all_goals rw [hf] at hfw
    all_goals rw [hc] at hck
    · (intro G w M; refine sx_enter (vs := ([snV x, cfgV c] : List Value)) Tryz.func6 (n := 68) rfl rfl rfl rfl ?_; intro a F; (try simp only [List.cons_append, List.nil_append] at M))
      have hh := h.app G
      (repeat' (first | (refine sx_nil ?_; (try (replace F := F.filt [0, 1, 2, 3, 4, 5, 14] rfl))) | (refine sv1 F M (h := ?_); clear F a; intro a F) | refine pv1 (h := ?_) | (refine sv3 F M (h := ?_); clear M; intro w M) | (refine sv2 F M (h := ?_); clear F M a; intro nb a w F M) | refine pv3 (h := ?_) | (refine pv2 (h := ?_); intro nb) | ((first | refine svC F M (h := ?_) | refine svC0 F M (h := ?_) | refine pvC (h := ?_) | refine pvC0 (h := ?_)); ((first | ((refine acW (k := 16) (hck _) ?_); rintro u L' ⟨rfl, rfl⟩) | ((refine acW (k := 15) (hst _ ((hh.tail _).tail _)) ?_); rintro u L' ⟨rfl, rfl⟩) | ((refine acW (k := 17) (hfw _ ((hh.tail _).tail _)) ?_); rintro u L' ⟨rfl, rfl⟩) | ((refine acW (k := 18) (alive24_spec _) ?_); rintro u L' ⟨rfl, rfl⟩))); (first | refine ⟨rvsA, ?_⟩ | (clear F M a; intro a w F M) | (clear M; intro w M))) | (refine svK F (h := ?_); clear F a; intro a F) | refine svK0 F (h := ?_) | ((refine sx_guardb F rfl (fun hg => ?_) (fun hg => ?_)) <;> (rw [hg] at F; (try (exact no hg)))) | (refine pvF (h := ?_); intro nb) | refine pvK (h := ?_) | refine pvK0 (h := ?_) | (refine pv_nil ?_; intro a w F M; (try (replace F := F.filt [0, 1, 2, 3, 4, 5, 14] rfl))) | ((fail_if_success (with_reducible first | refine isW ?_ | refine isP ?_ | refine isL ?_)); (first | with_reducible refine sx_region ?_ | ((with_reducible refine isK ?_); (first | refine svT F (h := ?_) | refine svF F (h := ?_) | ((refine svB F (fun hc => ?_) (fun hc => ?_)) <;> (try (exact no hc))))) | ((with_reducible refine isD ?_); (first | (refine svDraw (id := 4) [2, 5, 8, 11, 13, 15, 17, 19] [] [(2, [3, 4, 6, 7, 9, 10]), (5, [6, 7, 9, 10, 12]), (8, [9, 10, 12]), (11, [12])] [0, 1, 3, 4, 6, 7, 9, 10, 2, 12, 5, 8, 11, 13, 14, 15, 16, 17, 18, 19] F M (h := ?_); clear F M a w))) | with_reducible refine wp_scope_straight ?_ | with_reducible refine wp_label ?_ | go_step))))
      (all_goals ((first | refine svEnd F M ?_ | refine svRet F M ?_); exact ⟨_, _, rfl, ⟨rfl, rfl⟩, M.perms permsA⟩))
    · have hok : ∀ {L : List Asn} {y : Sn}, SnG L y d → y.pd = x.pd → y.bu = x.bu → y.bk = x.bk → AuOK L y d c := fun h h1 h2 h3 => auOK_of h ⟨hr.bal, hr.iP, hr.iF, hr.iO, h1 ▸ hr.pd, h2 ▸ hr.bu, h3 ▸ hr.bk⟩ hf hc
      have hf2 := hf
      simp only [fewB, fewT, Bool.and_eq_true, List.all_eq_true, decide_eq_true_eq] at hf2
      obtain ⟨_, ⟨⟨⟨⟨h2, h3⟩, h4⟩, h5⟩, h6⟩, h7⟩ := hf2
      have hac := fun y L => acheck_spec y d c L
      have haa := fun y L => aall_spec y d c L
      have hev : ∀ {L : List Asn} {u v : SlH}, GS L 7 (sl u) d.V.length (d.V.flatMap valL) → GS L 7 (sl v) d.V.length (d.V.flatMap valL) → Reads 27 [sl u, sl v] (.bool true) L := fun {L u v} g1 g2 => by simpa using eqs_val (sl u) (sl v) d.V d.V g1 g2
      have hei : ∀ (l : List Int) {L : List Asn} {u v : SlH}, GS L 1 (sl u) l.length (l.flatMap intL) → GS L 1 (sl v) l.length (l.flatMap intL) → Reads 20 [sl u, sl v] (.bool true) L := fun l {L u v} g1 g2 => by simpa using eqs_int (sl u) (sl v) l l g1 g2
      (intro G w M; refine sx_enter (vs := ([snV x, cfgV c] : List Value)) Tryz.func6 (n := 68) rfl rfl rfl rfl ?_; intro a F; (try simp only [List.cons_append, List.nil_append] at M))
      have hh := h.app G
      have gV := hh.gV; have gP := hh.gP; have gF := hh.gF; have gO := hh.gO; have gM := hh.gM; have gQ := hh.gQ
      obtain ⟨cM, gM⟩ := gM
      obtain ⟨cQ, gQ⟩ := gQ
      (repeat' (first | (refine sx_nil ?_; (try (replace F := F.filt [0, 1, 2, 3, 4, 5, 14] rfl))) | (refine sv1 F M (h := ?_); clear F a; intro a F) | refine pv1 (h := ?_) | (refine sv3 F M (h := ?_); clear M; intro w M) | (refine sv2 F M (h := ?_); clear F M a; intro nb a w F M) | refine pv3 (h := ?_) | (refine pv2 (h := ?_); intro nb) | ((first | refine svC F M (h := ?_) | refine svC0 F M (h := ?_) | refine pvC (h := ?_) | refine pvC0 (h := ?_)); ((first | ((refine acW (k := 16) (hck _) ?_); rintro u L' ⟨rfl, rfl⟩) | ((refine acW (k := 15) (hst _ ((hh.tail _).tail _)) ?_); rintro u L' ⟨rfl, rfl⟩) | ((refine acW (k := 17) (hfw _ ((hh.tail _).tail _)) ?_); rintro u L' ⟨rfl, rfl⟩) | ((refine acW (k := 18) (alive24_spec _) ?_); rintro u L' ⟨rfl, rfl⟩) | ((refine acW (k := 25) (clone_val x.hV d.V gsA (by omega)) ?_); rintro u L' ⟨v1, rfl, rfl⟩) | ((refine acW (k := 26) (clone_int x.hP d.pe gsA (by omega)) ?_); rintro u L' ⟨v2, rfl, rfl⟩) | ((refine acW (k := 26) (clone_int x.hF d.fo gsA (by omega)) ?_); rintro u L' ⟨v3, rfl, rfl⟩) | ((refine acW (k := 26) (clone_int x.hO d.vo gsA (by omega)) ?_); rintro u L' ⟨v4, rfl, rfl⟩) | ((refine acW (k := 22) (hac { x with hV := v1, hP := v2, hF := v3, hO := v4 } _ ?_) ?_); (exact hok (y := { x with hV := v1, hP := v2, hF := v3, hO := v4 }) ⟨gsA, gsA, gsA, gsA, ⟨cM, gsA⟩, ⟨cQ, gsA⟩⟩ rfl rfl rfl); rintro u L' ⟨rfl, rfl⟩) | ((refine acW (k := 19) (haa { x with hV := v1, hP := v2, hF := v3, hO := v4 } _ ?_) ?_); (exact hok (y := { x with hV := v1, hP := v2, hF := v3, hO := v4 }) ⟨gsA, gsA, gsA, gsA, ⟨cM, gsA⟩, ⟨cQ, gsA⟩⟩ rfl rfl rfl); rintro u L' ⟨v5, rfl, rfl⟩) | ((refine acCall (k := 27) ?_); (refine Spec.of_reads (hev (u := v1) (v := x.hV) gsA gsA) rfl ?_)) | ((refine acCall (k := 20) ?_); (refine Spec.of_reads (hei d.pe (u := v2) (v := x.hP) gsA gsA) rfl ?_)) | ((refine acCall (k := 20) ?_); (refine Spec.of_reads (hei d.fo (u := v3) (v := x.hF) gsA gsA) rfl ?_)) | ((refine acCall (k := 20) ?_); (refine Spec.of_reads (hei d.vo (u := v4) (v := x.hO) gsA gsA) rfl ?_)))); (first | refine ⟨rvsA, ?_⟩ | (clear F M a; intro a w F M) | (clear M; intro w M))) | (refine svK F (h := ?_); clear F a; intro a F) | refine svK0 F (h := ?_) | ((refine sx_guardb F rfl (fun hg => ?_) (fun hg => ?_)) <;> (rw [hg] at F; (try (exact no hg)))) | (refine pvF (h := ?_); intro nb) | refine pvK (h := ?_) | refine pvK0 (h := ?_) | (refine pv_nil ?_; intro a w F M; (try (replace F := F.filt [0, 1, 2, 3, 4, 5, 14] rfl))) | ((fail_if_success (with_reducible first | refine isW ?_ | refine isP ?_ | refine isL ?_)); (first | with_reducible refine sx_region ?_ | ((with_reducible refine isK ?_); (first | refine svT F (h := ?_) | refine svF F (h := ?_) | ((refine svB F (fun hc => ?_) (fun hc => ?_)) <;> (try (exact no hc))))) | ((with_reducible refine isD ?_); (first | (refine svDraw (id := 4) [2, 5, 8, 11, 13, 15, 17, 19] [] [(2, [3, 4, 6, 7, 9, 10]), (5, [6, 7, 9, 10, 12]), (8, [9, 10, 12]), (11, [12])] [0, 1, 3, 4, 6, 7, 9, 10, 2, 12, 5, 8, 11, 13, 14, 15, 16, 17, 18, 19] F M (h := ?_); clear F M a w))) | with_reducible refine wp_scope_straight ?_ | with_reducible refine wp_label ?_ | go_step))))
      (all_goals ((first | refine svEnd F M ?_ | refine svRet F M ?_); exact ⟨_, _, rfl, ⟨rfl, rfl⟩, M.perms permsA⟩))
  · have hne : ∃ n : Nat, checkF c = n + 1 := ⟨checkF c - 1, by omega⟩
    obtain ⟨n, hn⟩ := hne
    rw [hn] at hck
    (intro G w M; refine sx_enter (vs := ([snV x, cfgV c] : List Value)) Tryz.func6 (n := 68) rfl rfl rfl rfl ?_; intro a F; (try simp only [List.cons_append, List.nil_append] at M))
    have hh := h.app G
    (repeat' (first | (refine sx_nil ?_; (try (replace F := F.filt [0, 1, 2, 3, 4, 5, 14] rfl))) | (refine sv1 F M (h := ?_); clear F a; intro a F) | refine pv1 (h := ?_) | (refine sv3 F M (h := ?_); clear M; intro w M) | (refine sv2 F M (h := ?_); clear F M a; intro nb a w F M) | refine pv3 (h := ?_) | (refine pv2 (h := ?_); intro nb) | ((first | refine svC F M (h := ?_) | refine svC0 F M (h := ?_) | refine pvC (h := ?_) | refine pvC0 (h := ?_)); ((first | ((refine acW (k := 16) (hck _) ?_); rintro u L' ⟨rfl, rfl⟩) | ((refine acW (k := 15) (hst _ ((hh.tail _).tail _)) ?_); rintro u L' ⟨rfl, rfl⟩) | ((refine acW (k := 17) (hfw _ ((hh.tail _).tail _)) ?_); rintro u L' ⟨rfl, rfl⟩) | ((refine acW (k := 18) (alive24_spec _) ?_); rintro u L' ⟨rfl, rfl⟩))); (first | refine ⟨rvsA, ?_⟩ | (clear F M a; intro a w F M) | (clear M; intro w M))) | (refine svK F (h := ?_); clear F a; intro a F) | refine svK0 F (h := ?_) | ((refine sx_guardb F rfl (fun hg => ?_) (fun hg => ?_)) <;> (rw [hg] at F; (try (exact no hg)))) | (refine pvF (h := ?_); intro nb) | refine pvK (h := ?_) | refine pvK0 (h := ?_) | (refine pv_nil ?_; intro a w F M; (try (replace F := F.filt [0, 1, 2, 3, 4, 5, 14] rfl))) | ((fail_if_success (with_reducible first | refine isW ?_ | refine isP ?_ | refine isL ?_)); (first | with_reducible refine sx_region ?_ | ((with_reducible refine isK ?_); (first | refine svT F (h := ?_) | refine svF F (h := ?_) | ((refine svB F (fun hc => ?_) (fun hc => ?_)) <;> (try (exact no hc))))) | ((with_reducible refine isD ?_); (first | (refine svDraw (id := 4) [2, 5, 8, 11, 13, 15, 17, 19] [] [(2, [3, 4, 6, 7, 9, 10]), (5, [6, 7, 9, 10, 12]), (8, [9, 10, 12]), (11, [12])] [0, 1, 3, 4, 6, 7, 9, 10, 2, 12, 5, 8, 11, 13, 14, 15, 16, 17, 18, 19] F M (h := ?_); clear F M a w))) | with_reducible refine wp_scope_straight ?_ | with_reducible refine wp_label ?_ | go_step))))
    (all_goals ((first | refine svEnd F M ?_ | refine svRet F M ?_); exact ⟨_, _, rfl, ⟨rfl, rfl⟩, M.perms permsA⟩))
theorem order_law : Spec 5 [snV x, cfgV c] R fun u L' => u = .bool true ∧ L' = R := by
  have hck := fun R => rcheck_spec c R
  have hst := fun R h => state24_spec x d R h
  have hfw := fun R h => few24_spec x d R h
  by_cases hc : checkF c = 0
  · cases hf : fewB d
    all_goals rw [hf] at hfw
    all_goals rw [hc] at hck
    · (intro G w M; refine sx_enter (vs := ([snV x, cfgV c] : List Value)) Tryz.func5 (n := 37) rfl rfl rfl rfl ?_; intro a F; (try simp only [List.cons_append, List.nil_append] at M))
      have hh := h.app G
      (repeat' (first | (refine sx_nil ?_; (try (replace F := F.filt [0, 1, 2, 3, 4, 5, 7, 16, 20, 21, 22, 23, 33] rfl))) | (refine sv1 F M (h := ?_); clear F a; intro a F) | refine pv1 (h := ?_) | (refine sv3 F M (h := ?_); clear M; intro w M) | (refine sv2 F M (h := ?_); clear F M a; intro nb a w F M) | refine pv3 (h := ?_) | (refine pv2 (h := ?_); intro nb) | ((first | refine svC F M (h := ?_) | refine svC0 F M (h := ?_) | refine pvC (h := ?_) | refine pvC0 (h := ?_)); ((first | ((refine acW (k := 16) (hck _) ?_); rintro u L' ⟨rfl, rfl⟩) | ((refine acW (k := 15) (hst _ ((hh.tail _).tail _)) ?_); rintro u L' ⟨rfl, rfl⟩) | ((refine acW (k := 17) (hfw _ ((hh.tail _).tail _)) ?_); rintro u L' ⟨rfl, rfl⟩) | ((refine acW (k := 18) (alive24_spec _) ?_); rintro u L' ⟨rfl, rfl⟩))); (first | refine ⟨rvsA, ?_⟩ | (clear F M a; intro a w F M) | (clear M; intro w M))) | (refine svK F (h := ?_); clear F a; intro a F) | refine svK0 F (h := ?_) | ((refine sx_guardb F rfl (fun hg => ?_) (fun hg => ?_)) <;> (rw [hg] at F; (try (exact no hg)))) | (refine pvF (h := ?_); intro nb) | refine pvK (h := ?_) | refine pvK0 (h := ?_) | (refine pv_nil ?_; intro a w F M; (try (replace F := F.filt [0, 1, 2, 3, 4, 5, 7, 16, 20, 21, 22, 23, 33] rfl))) | ((fail_if_success (with_reducible first | refine isW ?_ | refine isP ?_ | refine isL ?_)); (first | with_reducible refine sx_region ?_ | ((with_reducible refine isK ?_); (first | refine svT F (h := ?_) | refine svF F (h := ?_) | ((refine svB F (fun hc => ?_) (fun hc => ?_)) <;> (try (exact no hc))))) | ((with_reducible refine isD ?_); fail) | with_reducible refine wp_scope_straight ?_ | with_reducible refine wp_label ?_ | go_step))))
      (all_goals ((first | refine svEnd F M ?_ | refine svRet F M ?_); exact ⟨_, _, rfl, ⟨rfl, rfl⟩, M.perms permsA⟩))
    · have hok : ∀ {L : List Asn}, SnG L x d → AuOK L x d c := fun h => auOK_of h hr hf hc
      have haa := fun L => aall_spec x d c L
      have hX : ∃ n : Nat, n + 0 = 12 ∧ (allR x d c).drop 0 = allGo x d c n (0 + 1) := ⟨12, rfl, rfl⟩
      have hX12 := allGo_len x d c 12 1
      rw [show allGo x d c 12 1 = allR x d c from rfl] at hX12
      generalize allR x d c = X at hX haa hX12
      (intro G w M; refine sx_enter (vs := ([snV x, cfgV c] : List Value)) Tryz.func5 (n := 37) rfl rfl rfl rfl ?_; intro a F; (try simp only [List.cons_append, List.nil_append] at M))
      have hh := h.app G
      (repeat' (first | (refine sx_nil ?_; (try (replace F := F.filt [0, 1, 2, 3, 4, 5, 7, 16, 20, 21, 22, 23, 33] rfl))) | (refine sv1 F M (h := ?_); clear F a; intro a F) | refine pv1 (h := ?_) | (refine sv3 F M (h := ?_); clear M; intro w M) | (refine sv2 F M (h := ?_); clear F M a; intro nb a w F M) | refine pv3 (h := ?_) | (refine pv2 (h := ?_); intro nb) | ((first | refine svC F M (h := ?_) | refine svC0 F M (h := ?_) | refine pvC (h := ?_) | refine pvC0 (h := ?_)); ((first | ((refine acW (k := 16) (hck _) ?_); rintro u L' ⟨rfl, rfl⟩) | ((refine acW (k := 15) (hst _ ((hh.tail _).tail _)) ?_); rintro u L' ⟨rfl, rfl⟩) | ((refine acW (k := 17) (hfw _ ((hh.tail _).tail _)) ?_); rintro u L' ⟨rfl, rfl⟩) | ((refine acW (k := 18) (alive24_spec _) ?_); rintro u L' ⟨rfl, rfl⟩) | ((refine acW (k := 19) (haa _ ?_) ?_); (exact hok ((hh.tail _).tail _)); rintro u L' ⟨v5, rfl, rfl⟩))); (first | refine ⟨rvsA, ?_⟩ | (clear F M a; intro a w F M) | (clear M; intro w M))) | (refine svK F (h := ?_); clear F a; intro a F) | refine svK0 F (h := ?_) | ((refine sx_guardb F rfl (fun hg => ?_) (fun hg => ?_)) <;> (rw [hg] at F; (try (exact no hg)))) | (refine pvF (h := ?_); intro nb) | refine pvK (h := ?_) | refine pvK0 (h := ?_) | (refine pv_nil ?_; intro a w F M; (try (replace F := F.filt [0, 1, 2, 3, 4, 5, 7, 16, 20, 21, 22, 23, 33] rfl))) | ((fail_if_success (with_reducible first | refine isW ?_ | refine isP ?_ | refine isL ?_)); (first | with_reducible refine sx_region ?_ | ((with_reducible refine isK ?_); (first | refine svT F (h := ?_) | refine svF F (h := ?_) | ((refine svB F (fun hc => ?_) (fun hc => ?_)) <;> (try (exact no hc))))) | ((with_reducible refine isD ?_); fail) | with_reducible refine wp_scope_straight ?_ | with_reducible refine wp_label ?_ | go_step))))
      refine svLoop F M ((0, 0) : Nat × Nat) (fun s => [(22, .int .i64 s.1), (5, .int .i64 s.2)]) (fun _ => []) (fun s => s.1 ≤ X.length ∧ ∃ n : Nat, n + s.2 = 12 ∧ X.drop s.1 = allGo x d c n (s.2 + 1)) (fun s => X.length - s.1) [7] ⟨Nat.zero_le _, hX⟩ ?_
      (rintro ⟨j, m⟩ ⟨q1, n, q2, q3⟩ a w F M; (try simp only [List.cons_append, List.nil_append] at F M q1 q2 q3 ⊢))
      by_cases hlt : j < X.length
      · obtain ⟨z, hz⟩ : ∃ z, X[j]? = some z := ⟨X[j], by simp [hlt]⟩
        rw [drop_cons hz] at q3
        obtain ⟨k, n', rfl, e2, e3, e4⟩ := allGo_cons x d c n (m + 1) z _ q3.symm
        have hnm := fun R => aname_spec (k : Int) ⟨by omega, by omega⟩ R
        obtain ⟨b0, r0, hb⟩ := nil_ne (auNs_at (k := (k : Int)) (by omega) (by omega)).2
        rw [hb] at hnm
        (repeat' (first | (refine sx_nil ?_; (try (replace F := F.filt [0, 1, 2, 3, 4, 5, 7, 16, 20, 21, 22, 23, 33] rfl))) | (refine sv1 F M (h := ?_); clear F a; intro a F) | refine pv1 (h := ?_) | (refine sv3 F M (h := ?_); clear M; intro w M) | (refine sv2 F M (h := ?_); clear F M a; intro nb a w F M) | refine pv3 (h := ?_) | (refine pv2 (h := ?_); intro nb) | ((first | refine svC F M (h := ?_) | refine svC0 F M (h := ?_) | refine pvC (h := ?_) | refine pvC0 (h := ?_)); ((first | ((refine acW (k := 23) (hnm _) ?_); rintro u L' ⟨rfl, rfl⟩))); (first | refine ⟨rvsA, ?_⟩ | (clear F M a; intro a w F M) | (clear M; intro w M))) | (refine svK F (h := ?_); clear F a; intro a F) | refine svK0 F (h := ?_) | ((refine sx_guardb F rfl (fun hg => ?_) (fun hg => ?_)) <;> (rw [hg] at F; (try (exact no hg)))) | (refine pvF (h := ?_); intro nb) | refine pvK (h := ?_) | refine pvK0 (h := ?_) | (refine pv_nil ?_; intro a w F M; (try (replace F := F.filt [0, 1, 2, 3, 4, 5, 7, 16, 20, 21, 22, 23, 33] rfl))) | ((fail_if_success (with_reducible first | refine isW ?_ | refine isP ?_ | refine isL ?_)); (first | with_reducible refine sx_region ?_ | ((with_reducible refine isK ?_); (first | refine svT F (h := ?_) | refine svF F (h := ?_) | ((refine svB F (fun hc => ?_) (fun hc => ?_)) <;> (try (exact no hc))))) | ((with_reducible refine isD ?_); fail) | with_reducible refine wp_scope_straight ?_ | with_reducible refine wp_label ?_ | go_step))))
        refine sv_again F M (j + 1, k) kpA permsA ⟨by simp only; omega, n', by simp only; omega, e4⟩ (by simp only; omega)
      · obtain rfl : j = X.length := by omega
        (repeat' (first | (refine sx_nil ?_; (try (replace F := F.filt [0, 1, 2, 3, 4, 5, 7, 16, 20, 21, 22, 23, 33] rfl))) | (refine sv1 F M (h := ?_); clear F a; intro a F) | refine pv1 (h := ?_) | (refine sv3 F M (h := ?_); clear M; intro w M) | (refine sv2 F M (h := ?_); clear F M a; intro nb a w F M) | refine pv3 (h := ?_) | (refine pv2 (h := ?_); intro nb) | ((first | refine svC F M (h := ?_) | refine svC0 F M (h := ?_) | refine pvC (h := ?_) | refine pvC0 (h := ?_)); ((first | ((refine acW (k := 18) (alive24_spec _) ?_); rintro u L' ⟨rfl, rfl⟩))); (first | refine ⟨rvsA, ?_⟩ | (clear F M a; intro a w F M) | (clear M; intro w M))) | (refine svK F (h := ?_); clear F a; intro a F) | refine svK0 F (h := ?_) | ((refine sx_guardb F rfl (fun hg => ?_) (fun hg => ?_)) <;> (rw [hg] at F; (try (exact no hg)))) | (refine pvF (h := ?_); intro nb) | refine pvK (h := ?_) | refine pvK0 (h := ?_) | (refine pv_nil ?_; intro a w F M; (try (replace F := F.filt [0, 1, 2, 3, 4, 5, 7, 16, 20, 21, 22, 23, 33] rfl))) | ((fail_if_success (with_reducible first | refine isW ?_ | refine isP ?_ | refine isL ?_)); (first | with_reducible refine sx_region ?_ | ((with_reducible refine isK ?_); (first | refine svT F (h := ?_) | refine svF F (h := ?_) | ((refine svB F (fun hc => ?_) (fun hc => ?_)) <;> (try (exact no hc))))) | ((with_reducible refine isD ?_); fail) | with_reducible refine wp_scope_straight ?_ | with_reducible refine wp_label ?_ | go_step))))
        (all_goals ((first | refine svEnd F M ?_ | refine svRet F M ?_); exact ⟨_, _, rfl, ⟨rfl, rfl⟩, M.perms permsA⟩))
  · have hne : ∃ n : Nat, checkF c = n + 1 := ⟨checkF c - 1, by omega⟩
    obtain ⟨n, hn⟩ := hne
    rw [hn] at hck
    (intro G w M; refine sx_enter (vs := ([snV x, cfgV c] : List Value)) Tryz.func5 (n := 37) rfl rfl rfl rfl ?_; intro a F; (try simp only [List.cons_append, List.nil_append] at M))
    have hh := h.app G
    (repeat' (first | (refine sx_nil ?_; (try (replace F := F.filt [0, 1, 2, 3, 4, 5, 7, 16, 20, 21, 22, 23, 33] rfl))) | (refine sv1 F M (h := ?_); clear F a; intro a F) | refine pv1 (h := ?_) | (refine sv3 F M (h := ?_); clear M; intro w M) | (refine sv2 F M (h := ?_); clear F M a; intro nb a w F M) | refine pv3 (h := ?_) | (refine pv2 (h := ?_); intro nb) | ((first | refine svC F M (h := ?_) | refine svC0 F M (h := ?_) | refine pvC (h := ?_) | refine pvC0 (h := ?_)); ((first | ((refine acW (k := 16) (hck _) ?_); rintro u L' ⟨rfl, rfl⟩) | ((refine acW (k := 15) (hst _ ((hh.tail _).tail _)) ?_); rintro u L' ⟨rfl, rfl⟩) | ((refine acW (k := 17) (hfw _ ((hh.tail _).tail _)) ?_); rintro u L' ⟨rfl, rfl⟩) | ((refine acW (k := 18) (alive24_spec _) ?_); rintro u L' ⟨rfl, rfl⟩))); (first | refine ⟨rvsA, ?_⟩ | (clear F M a; intro a w F M) | (clear M; intro w M))) | (refine svK F (h := ?_); clear F a; intro a F) | refine svK0 F (h := ?_) | ((refine sx_guardb F rfl (fun hg => ?_) (fun hg => ?_)) <;> (rw [hg] at F; (try (exact no hg)))) | (refine pvF (h := ?_); intro nb) | refine pvK (h := ?_) | refine pvK0 (h := ?_) | (refine pv_nil ?_; intro a w F M; (try (replace F := F.filt [0, 1, 2, 3, 4, 5, 7, 16, 20, 21, 22, 23, 33] rfl))) | ((fail_if_success (with_reducible first | refine isW ?_ | refine isP ?_ | refine isL ?_)); (first | with_reducible refine sx_region ?_ | ((with_reducible refine isK ?_); (first | refine svT F (h := ?_) | refine svF F (h := ?_) | ((refine svB F (fun hc => ?_) (fun hc => ?_)) <;> (try (exact no hc))))) | ((with_reducible refine isD ?_); fail) | with_reducible refine wp_scope_straight ?_ | with_reducible refine wp_label ?_ | go_step))))
    (all_goals ((first | refine svEnd F M ?_ | refine svRet F M ?_); exact ⟨_, _, rfl, ⟨rfl, rfl⟩, M.perms permsA⟩))
end
end Go.Proofs.YtopbohbkhljjgaaGreat
end
section
namespace Go.Proofs.YtopbohbkhljjgaaGreat
open Go.RowKit
set_option linter.unusedVariables false
set_option maxRecDepth 100000
set_option linter.unusedSimpArgs false
set_option maxHeartbeats 4000000
theorem satGo_sum : ∀ (l : List Int) (n : Int), n ≤ 18446744073709551615 → (∀ z ∈ l, 0 ≤ z) → satGo n l = if 18446744073709551615 < n + l.sum then (18446744073709551615, true) else (n + l.sum, false)
  | [], n, h, _ => by rw [satGo, List.sum_nil, Int.add_zero, if_neg (by omega)]
  | x :: r, n, h, hl => by
    have hs := sum_nonneg r fun z hz => hl z (by simp [hz])
    rw [satGo, List.sum_cons]
    by_cases h1 : 18446744073709551615 < n + x
    · rw [if_pos h1, if_pos (by omega)]
    · rw [if_neg h1, satGo_sum r _ (by omega) (fun z hz => hl z (by simp [hz])), Int.add_assoc]
/-- A sum of amounts, or none. -/
theorem addR_sum (l : List Int) (h : ∀ z ∈ l, 0 ≤ z) : addR l = if 18446744073709551615 < l.sum then (0, false) else (l.sum, true) := by
  rw [addR, satGo_sum l 0 (by omega) h, Int.zero_add]
  split <;> simp
section
variable (R : List Asn)
end
end Go.Proofs.YtopbohbkhljjgaaGreat
end
