import Derived.Test.YtaggjikjohamjaaDoorZsd
set_option linter.unusedVariables false
set_option linter.unusedSimpArgs false
section
namespace Go.Proofs.YtaggjikjohamjaaDoor
open Go.RowKit Go.Maps
set_option linter.unusedVariables false
set_option maxRecDepth 100000
set_option linter.unusedSimpArgs false
set_option maxHeartbeats 8000000
theorem gparse_spec (s : List UInt8) (hs : s.length ≤ 1000000) (R : List Asn) (hL : Gives R Laid) : Spec 29 [str s] R fun u L' => u = .tuple [.int .u64 ((pU s).getD 0 : Nat), .bool (pU s).isSome].toArray ∧ L' = R := Spec.of_below_g (fun w hw => parse_any s hs w hw) hL rfl ⟨rfl, rfl⟩
theorem gfmt_spec (u : Nat) (hu : u < 18446744073709551616) (R : List Asn) (hT : Gives R Tens) : Spec 25 [.int .u64 (u : Int)] R fun v L' => v = str (Lib.decDigits u) ∧ L' = R := Spec.of_below_g (fun w hw => gfmt_any u hu w hw) hT rfl ⟨rfl, rfl⟩
theorem splitB_mem (c : UInt8) : ∀ (s : List UInt8), ∀ x ∈ splitB c s, x.length ≤ s.length
  | [], x, h => by simp [splitB] at h; subst h; simp
  | y :: r, x, h => by
    have ih := splitB_mem c r
    obtain ⟨hd, t, e⟩ := splitB_ne c r
    rw [splitB] at h
    split at h
    · rcases List.mem_cons.1 h with rfl | h
      · simp
      · have := ih x h; rw [List.length_cons]; omega
    · rw [e] at h ih
      simp only at h
      rcases List.mem_cons.1 h with rfl | h
      · have := ih hd (by simp); simp only [List.length_cons]; omega
      · have := ih x (by simp [h]); rw [List.length_cons]; omega
theorem kind_ods {s : List UInt8} {k : Int} (h : kindOf s = some k) : ∃ ds, odsOf k = some ds := by
  obtain ⟨_, h1, h2⟩ := kindOf_name h
  rcases (by omega : k = 1 ∨ k = 2 ∨ k = 3 ∨ k = 4 ∨ k = 5 ∨ k = 6 ∨ k = 7) with rfl | rfl | rfl | rfl | rfl | rfl | rfl <;> exact ⟨_, rfl⟩
theorem parse_spec (s : List UInt8) (hs : s.length ≤ 100000) (R : List Asn) (hm : Gives R MxL) (hL : Gives R Laid) : Spec 9 [str s] R fun u L' => u = .tuple [opV (parsM s), .bool (parsO s).isSome].toArray ∧ L' = R := by
  have hsp := fun R (hm : Gives R MxL) => split_spec s 32 (by omega) R hm
  have hmem := splitB_mem 32 s
  have hlen := splitB_len 32 s
  have hcl := List.count_le_length (a := (32 : UInt8)) (l := s)
  unfold parsM
  obtain ⟨T, hT⟩ : ∃ T, parsO s = T := ⟨_, rfl⟩
  rw [hT]
  unfold parsO at hT
  generalize splitB 32 s = W at *
  obtain ⟨w0, ws, rfl⟩ : ∃ w0 ws, W = w0 :: ws := by
    cases W with
    | nil => simp at hlen
    | cons a b => exact ⟨a, b, rfl⟩
  have hx0 : (w0 :: ws)[Int.toNat 0]? = some w0 := rfl
  rw [List.head?_cons, Option.getD_some, List.tail_cons] at hT
  have hkd := fun R => kind_spec w0 R
  cases hk : kindOf w0 with
  | none =>
    rw [hk] at hT hkd
    simp only at hT
    subst hT
    simp only [Option.getD_none, Option.isSome_none] at hkd ⊢
    (intro G w M; refine sx_enter (vs := ([str s] : List Value)) Tryd.func9 (n := 76) rfl rfl rfl rfl ?_; intro a F; (try simp only [List.cons_append, List.nil_append] at M))
    have hm2 : Gives (R ++ G) MxL := Gives.app hm
    obtain ⟨b2, hb2⟩ : ∃ b2 : Nat, b2 = 0 := ⟨_, rfl⟩
    (repeat' (first | (refine sx_nil ?_; (try (replace F := F.filt [0, 2, 3, 4, 5, 6, 7, 8, 9, 10, 11, 12, 13, 14, 36, 39, 40, 41, 42, 52, 57, 59, 60, 65, 66, 68] rfl))) | (refine sv1 F M (h := ?_); clear F a; intro a F) | refine pv1 (h := ?_) | (refine sv3 F M (h := ?_); clear M; intro w M) | (refine sv2 F M (h := ?_); clear F M a; intro nb a w F M) | refine pv3 (h := ?_) | (refine pv2 (h := ?_); intro nb) | ((first | refine svC F M (h := ?_) | refine svC0 F M (h := ?_) | refine pvC (h := ?_) | refine pvC0 (h := ?_)); ((first | ((refine acW (k := 27) (hsp _ ?_) ?_); (exact gvA); rintro u L' ⟨h, rfl, rfl⟩) | ((refine acW (k := 28) (hkd _) ?_); rintro u L' ⟨rfl, rfl⟩) | (refine acK (k := 24) (fields_spec nb (oz 0) _) ?_; rintro u L' ⟨hf, rfl, rfl⟩))); (first | refine ⟨rvsA, ?_⟩ | (clear F M a; intro a w F M) | (clear M; intro w M))) | (refine svK F (h := ?_); clear F a; intro a F) | refine svK0 F (h := ?_) | ((refine sx_guardb F rfl (fun hg => ?_) (fun hg => ?_)) <;> (rw [hg] at F; (try (exact no hg)))) | (refine pvF (h := ?_); intro nb) | refine pvK (h := ?_) | refine pvK0 (h := ?_) | (refine pv_nil ?_; intro a w F M; (try (replace F := F.filt [0, 2, 3, 4, 5, 6, 7, 8, 9, 10, 11, 12, 13, 14, 36, 39, 40, 41, 42, 52, 57, 59, 60, 65, 66, 68] rfl))) | ((fail_if_success (with_reducible first | refine isW ?_ | refine isP ?_ | refine isL ?_)); (first | with_reducible refine sx_region ?_ | ((with_reducible refine isK ?_); (first | refine svT F (h := ?_) | refine svF F (h := ?_) | ((refine svB F (fun hc => ?_) (fun hc => ?_)) <;> (try (exact no hc))))) | ((with_reducible refine isD ?_); fail) | with_reducible refine wp_scope_straight ?_ | with_reducible refine wp_label ?_ | go_step))))
    all_goals (first | refine svEnd F M ?_ | refine svRet F M ?_)
    all_goals exact ⟨_, _, rfl, ⟨rfl, rfl⟩, M.perms permsA⟩
  | some k =>
    obtain ⟨ds, hd⟩ := kind_ods hk
    rw [hk] at hT hkd
    simp only [hd] at hT
    simp only [Option.getD_some, Option.isSome_some] at hkd
    have hfd := fun (b : Nat) R => fields_spec b (oz k) R
    have hd2 : (odsOf (oz k).k).getD [] = ds := by show (odsOf k).getD [] = ds; rw [hd]; rfl
    simp only [hd2] at hfd
    obtain ⟨hl2, hz⟩ := ods_len hd
    by_cases hln : (w0 :: ws).length = ds.length + 1
    · rw [if_pos hln] at hT
      have hwl : ws.length = ds.length := by simpa using hln
      (intro G w M; refine sx_enter (vs := ([str s] : List Value)) Tryd.func9 (n := 76) rfl rfl rfl rfl ?_; intro a F; (try simp only [List.cons_append, List.nil_append] at M))
      have hm2 : Gives (R ++ G) MxL := Gives.app hm
      have hL2 : Gives (R ++ G) Laid := Gives.app hL
      (repeat' (first | ((first | refine sv1 F M (h := ?_) (hr := by ((apply rt_from (h := h) (k := .i64) (j := 1); (exact rfl); (exact rfl); (exact rfl); (exact inferInstance); (rw [(own_h (M.pull pullA)).1]; simp)))) | refine pv1 (h := ?_) (hr := by ((apply rt_from (h := h) (k := .i64) (j := 1); (exact rfl); (exact rfl); (exact rfl); (exact inferInstance); (rw [(own_h (M.pull pullA)).1]; simp))))); (try (clear F a; intro a F))) | (refine sx_nil ?_; (try (replace F := F.filt [0, 2, 3, 4, 5, 6, 7, 8, 9, 10, 11, 12, 13, 14, 36, 39, 40, 41, 42, 52, 57, 59, 60, 65, 66, 68] rfl))) | (refine sv1 F M (h := ?_); clear F a; intro a F) | refine pv1 (h := ?_) | (refine sv3 F M (h := ?_); clear M; intro w M) | (refine sv2 F M (h := ?_); clear F M a; intro nb a w F M) | refine pv3 (h := ?_) | (refine pv2 (h := ?_); intro nb) | ((first | refine svC F M (h := ?_) | refine svC0 F M (h := ?_) | refine pvC (h := ?_) | refine pvC0 (h := ?_)); ((first | ((refine acW (k := 27) (hsp _ ?_) ?_); (exact gvA); rintro u L' ⟨h, rfl, rfl⟩) | ((refine acW (k := 28) (hkd _) ?_); rintro u L' ⟨rfl, rfl⟩) | (refine acK (k := 24) (hfd nb _) ?_; rintro u L' ⟨hf, rfl, rfl⟩))); (first | refine ⟨rvsA, ?_⟩ | (clear F M a; intro a w F M) | (clear M; intro w M))) | (refine svK F (h := ?_); clear F a; intro a F) | refine svK0 F (h := ?_) | ((refine sx_guardb F rfl (fun hg => ?_) (fun hg => ?_)) <;> (rw [hg] at F; (try (exact no hg)))) | (refine pvF (h := ?_); intro nb) | refine pvK (h := ?_) | refine pvK0 (h := ?_) | (refine pv_nil ?_; intro a w F M; (try (replace F := F.filt [0, 2, 3, 4, 5, 6, 7, 8, 9, 10, 11, 12, 13, 14, 36, 39, 40, 41, 42, 52, 57, 59, 60, 65, 66, 68] rfl))) | ((fail_if_success (with_reducible first | refine isW ?_ | refine isP ?_ | refine isL ?_)); (first | with_reducible refine sx_region ?_ | ((with_reducible refine isK ?_); (first | refine svT F (h := ?_) | refine svF F (h := ?_) | ((refine svB F (fun hc => ?_) (fun hc => ?_)) <;> (try (exact no hc))))) | ((with_reducible refine isD ?_); fail) | with_reducible refine wp_scope_straight ?_ | with_reducible refine wp_label ?_ | go_step))))
      rename_i b2 z1 z2 z3 z4 z5 z6 z7
      have hn : h.n = ds.length + 1 := by
        have := (own_h (M.pull (show Pull _ (ownT 9 strL 1 (sl h) (w0 :: ws)) _ from pullA))).1
        omega
      have e40 : ((fromH h 1 1).n : Int) = (ds.length : Int) := by show ((h.n - 1 : Nat) : Int) = _; omega
      rw [e40] at F
      have hgw : GS (ownT 9 strL 1 (sl h) (w0 :: ws) :: pt b2 [.int .i64 0, .int .i64 0, .int .i64 0, .int .u64 0] 24 :: (R ++ G)) 1 (sl (fromH h 1 1)) ws.length (ws.flatMap strL) := by
        have := gs_from (L := ownT 9 strL 1 (sl h) (w0 :: ws) :: pt b2 [.int .i64 0, .int .i64 0, .int .i64 0, .int .u64 0] 24 :: (R ++ G)) (e := 9) (size := 1) (h := h) .here (j := 1) (by simp)
        exact this
      obtain ⟨b7, hb7⟩ : ∃ b7, b7 = nb := ⟨_, rfl⟩
      rw [← hb7] at F M
      refine svLoop F M ((0, oz k) : Nat × Opn) (fun z => [(41, .int .i64 z.1)]) (fun z => [pt b7 (opL z.2) 24]) (fun z => z.1 ≤ ds.length ∧ opW (ds.drop z.1) (ws.drop z.1) z.2 = T) (fun z => ds.length - z.1) [9, 10, 11, 12, 13, 14] ⟨Nat.zero_le _, hT⟩ ?_ (hR := by (repeat (first | exact Pulls.nil | (apply Pulls.cons; (focus ((repeat (first | exact Pull.here | apply Pull.there)); done))))))
      (rintro ⟨j, p⟩ ⟨q1, q2⟩ a w F M; (try simp only [List.cons_append, List.nil_append] at F M q1 q2 ⊢))
      by_cases hj : j < ds.length
      · obtain ⟨d, hdj⟩ : ∃ d, ds[j]? = some d := ⟨ds[j], by simp [hj]⟩
        obtain ⟨x, hxj⟩ : ∃ x, ws[j]? = some x := ⟨ws[j]'(by omega), by rw [List.getElem?_eq_getElem]⟩
        have hxl := hmem x (List.mem_cons_of_mem _ (List.mem_of_getElem? hxj))
        have hgp := fun R hL => gparse_spec x (by omega) R hL
        rw [drop_cons hdj, drop_cons hxj, opW, List.head?_cons, Option.getD_some, List.tail_cons] at q2
        cases hu : pU x with
        | none =>
          rw [hu] at hgp q2
          simp only at q2
          subst q2
          simp only [Option.getD_none, Option.isSome_none] at hgp
          (repeat' (first | (refine sx_nil ?_; (try (replace F := F.filt [0, 2, 3, 4, 5, 6, 7, 8, 9, 10, 11, 12, 13, 14, 36, 39, 40, 41, 42, 52, 57, 59, 60, 65, 66, 68] rfl))) | (refine sv1 F M (h := ?_); clear F a; intro a F) | refine pv1 (h := ?_) | (refine sv3 F M (h := ?_); clear M; intro w M) | (refine sv2 F M (h := ?_); clear F M a; intro nb a w F M) | refine pv3 (h := ?_) | (refine pv2 (h := ?_); intro nb) | ((first | refine svC F M (h := ?_) | refine svC0 F M (h := ?_) | refine pvC (h := ?_) | refine pvC0 (h := ?_)); (((refine acW (k := 29) (hgp _ ?_) ?_); (exact gvA); rintro u L' ⟨rfl, rfl⟩)); (first | refine ⟨rvsA, ?_⟩ | (clear F M a; intro a w F M) | (clear M; intro w M))) | (refine svK F (h := ?_); clear F a; intro a F) | refine svK0 F (h := ?_) | ((refine sx_guardb F rfl (fun hg => ?_) (fun hg => ?_)) <;> (rw [hg] at F; (try (exact no hg)))) | (refine pvF (h := ?_); intro nb) | refine pvK (h := ?_) | refine pvK0 (h := ?_) | (refine pv_nil ?_; intro a w F M; (try (replace F := F.filt [0, 2, 3, 4, 5, 6, 7, 8, 9, 10, 11, 12, 13, 14, 36, 39, 40, 41, 42, 52, 57, 59, 60, 65, 66, 68] rfl))) | ((fail_if_success (with_reducible first | refine isW ?_ | refine isP ?_ | refine isL ?_)); (first | with_reducible refine sx_region ?_ | ((with_reducible refine isK ?_); (first | refine svT F (h := ?_) | refine svF F (h := ?_) | ((refine svB F (fun hc => ?_) (fun hc => ?_)) <;> (try (exact no hc))))) | ((with_reducible refine isD ?_); fail) | with_reducible refine wp_scope_straight ?_ | with_reducible refine wp_label ?_ | go_step))))
          all_goals (first | refine svEnd F M ?_ | refine svRet F M ?_)
          all_goals exact ⟨_, _, rfl, ⟨rfl, rfl⟩, M.perms permsA⟩
        | some u =>
          have hu2 := (pU_lt hu).1
          rw [hu] at hgp q2
          simp only [Option.getD_some, Option.isSome_some] at hgp q2
          obtain ⟨pk, pi, pt', pa⟩ := p
          cases d
          · by_cases h6 : 65535 < u
            · rw [if_pos ⟨by decide, h6⟩] at q2
              subst q2
              have h6' : (65535 : Int) < (u : Int) := by omega
              (repeat' (first | ((first | refine sv1 F M (h := ?_) (hr := by ((first | (refine rt_tA rfl rfl (tA_uu _)) | (refine rt_tA rfl rfl (tA_iu _)) | (refine rt_tA rfl rfl (tA_ii _))))) | refine pv1 (h := ?_) (hr := by ((first | (refine rt_tA rfl rfl (tA_uu _)) | (refine rt_tA rfl rfl (tA_iu _)) | (refine rt_tA rfl rfl (tA_ii _)))))); (try (clear F a; intro a F))) | (refine sx_nil ?_; (try (replace F := F.filt [0, 2, 3, 4, 5, 6, 7, 8, 9, 10, 11, 12, 13, 14, 36, 39, 40, 41, 42, 52, 57, 59, 60, 65, 66, 68] rfl))) | (refine sv1 F M (h := ?_); clear F a; intro a F) | refine pv1 (h := ?_) | (refine sv3 F M (h := ?_); clear M; intro w M) | (refine sv2 F M (h := ?_); clear F M a; intro nb a w F M) | refine pv3 (h := ?_) | (refine pv2 (h := ?_); intro nb) | ((first | refine svC F M (h := ?_) | refine svC0 F M (h := ?_) | refine pvC (h := ?_) | refine pvC0 (h := ?_)); (((refine acW (k := 29) (hgp _ ?_) ?_); (exact gvA); rintro u L' ⟨rfl, rfl⟩)); (first | refine ⟨rvsA, ?_⟩ | (clear F M a; intro a w F M) | (clear M; intro w M))) | (refine svK F (h := ?_); clear F a; intro a F) | refine svK0 F (h := ?_) | ((refine sx_guardb F rfl (fun hg => ?_) (fun hg => ?_)) <;> (rw [hg] at F; (try (exact no hg)))) | (refine pvF (h := ?_); intro nb) | refine pvK (h := ?_) | refine pvK0 (h := ?_) | (refine pv_nil ?_; intro a w F M; (try (replace F := F.filt [0, 2, 3, 4, 5, 6, 7, 8, 9, 10, 11, 12, 13, 14, 36, 39, 40, 41, 42, 52, 57, 59, 60, 65, 66, 68] rfl))) | ((fail_if_success (with_reducible first | refine isW ?_ | refine isP ?_ | refine isL ?_)); (first | with_reducible refine sx_region ?_ | ((with_reducible refine isK ?_); (first | refine svT F (h := ?_) | refine svF F (h := ?_) | ((refine svB F (fun hc => ?_) (fun hc => ?_)) <;> (try (exact no hc))))) | ((with_reducible refine isD ?_); fail) | with_reducible refine wp_scope_straight ?_ | with_reducible refine wp_label ?_ | go_step))))
              all_goals (first | refine svEnd F M ?_ | refine svRet F M ?_)
              all_goals exact ⟨_, _, rfl, ⟨rfl, rfl⟩, M.perms permsA⟩
            · rw [if_neg (fun h => h6 h.2)] at q2
              have h6' : ¬ (65535 : Int) < (u : Int) := by omega
              have hcv : IntKind.i64.wrap (u : Int) = (u : Int) := IntWalk.i64_in _ ⟨by omega, by omega⟩
              (repeat' (first | ((first | refine sv1 F M (h := ?_) (hr := by ((first | (refine rt_tA rfl rfl (tA_uu _)) | (refine rt_tA rfl rfl (tA_iu _)) | (refine rt_tA rfl rfl (tA_ii _)) | (apply rt_conv; (exact rfl); (exact rfl); (exact inferInstance); (exact inferInstance); (exact hcv))))) | refine pv1 (h := ?_) (hr := by ((first | (refine rt_tA rfl rfl (tA_uu _)) | (refine rt_tA rfl rfl (tA_iu _)) | (refine rt_tA rfl rfl (tA_ii _)) | (apply rt_conv; (exact rfl); (exact rfl); (exact inferInstance); (exact inferInstance); (exact hcv)))))); (try (clear F a; intro a F))) | (refine sx_nil ?_; (try (replace F := F.filt [0, 2, 3, 4, 5, 6, 7, 8, 9, 10, 11, 12, 13, 14, 36, 39, 40, 41, 42, 52, 57, 59, 60, 65, 66, 68] rfl))) | (refine sv1 F M (h := ?_); clear F a; intro a F) | refine pv1 (h := ?_) | (refine sv3 F M (h := ?_); clear M; intro w M) | (refine sv2 F M (h := ?_); clear F M a; intro nb a w F M) | refine pv3 (h := ?_) | (refine pv2 (h := ?_); intro nb) | ((first | refine svC F M (h := ?_) | refine svC0 F M (h := ?_) | refine pvC (h := ?_) | refine pvC0 (h := ?_)); (((refine acW (k := 29) (hgp _ ?_) ?_); (exact gvA); rintro u L' ⟨rfl, rfl⟩)); (first | refine ⟨rvsA, ?_⟩ | (clear F M a; intro a w F M) | (clear M; intro w M))) | (refine svK F (h := ?_); clear F a; intro a F) | refine svK0 F (h := ?_) | ((refine sx_guardb F rfl (fun hg => ?_) (fun hg => ?_)) <;> (rw [hg] at F; (try (exact no hg)))) | (refine pvF (h := ?_); intro nb) | refine pvK (h := ?_) | refine pvK0 (h := ?_) | (refine pv_nil ?_; intro a w F M; (try (replace F := F.filt [0, 2, 3, 4, 5, 6, 7, 8, 9, 10, 11, 12, 13, 14, 36, 39, 40, 41, 42, 52, 57, 59, 60, 65, 66, 68] rfl))) | ((fail_if_success (with_reducible first | refine isW ?_ | refine isP ?_ | refine isL ?_)); (first | with_reducible refine sx_region ?_ | ((with_reducible refine isK ?_); (first | refine svT F (h := ?_) | refine svF F (h := ?_) | ((refine svB F (fun hc => ?_) (fun hc => ?_)) <;> (try (exact no hc))))) | ((with_reducible refine isD ?_); fail) | with_reducible refine wp_scope_straight ?_ | with_reducible refine wp_label ?_ | go_step))))
              exact sv_again F M ((j + 1, ⟨pk, u, pt', pa⟩) : Nat × Opn) kpA permsA ⟨by simp only; omega, q2⟩ (by simp only; omega)
          · by_cases h6 : 65535 < u
            · rw [if_pos ⟨by decide, h6⟩] at q2
              subst q2
              have h6' : (65535 : Int) < (u : Int) := by omega
              (repeat' (first | ((first | refine sv1 F M (h := ?_) (hr := by ((first | (refine rt_tA rfl rfl (tA_uu _)) | (refine rt_tA rfl rfl (tA_iu _)) | (refine rt_tA rfl rfl (tA_ii _)) | (apply rt_conv; (exact rfl); (exact rfl); (exact inferInstance); (exact inferInstance); (exact hcv))))) | refine pv1 (h := ?_) (hr := by ((first | (refine rt_tA rfl rfl (tA_uu _)) | (refine rt_tA rfl rfl (tA_iu _)) | (refine rt_tA rfl rfl (tA_ii _)) | (apply rt_conv; (exact rfl); (exact rfl); (exact inferInstance); (exact inferInstance); (exact hcv)))))); (try (clear F a; intro a F))) | (refine sx_nil ?_; (try (replace F := F.filt [0, 2, 3, 4, 5, 6, 7, 8, 9, 10, 11, 12, 13, 14, 36, 39, 40, 41, 42, 52, 57, 59, 60, 65, 66, 68] rfl))) | (refine sv1 F M (h := ?_); clear F a; intro a F) | refine pv1 (h := ?_) | (refine sv3 F M (h := ?_); clear M; intro w M) | (refine sv2 F M (h := ?_); clear F M a; intro nb a w F M) | refine pv3 (h := ?_) | (refine pv2 (h := ?_); intro nb) | ((first | refine svC F M (h := ?_) | refine svC0 F M (h := ?_) | refine pvC (h := ?_) | refine pvC0 (h := ?_)); (((refine acW (k := 29) (hgp _ ?_) ?_); (exact gvA); rintro u L' ⟨rfl, rfl⟩)); (first | refine ⟨rvsA, ?_⟩ | (clear F M a; intro a w F M) | (clear M; intro w M))) | (refine svK F (h := ?_); clear F a; intro a F) | refine svK0 F (h := ?_) | ((refine sx_guardb F rfl (fun hg => ?_) (fun hg => ?_)) <;> (rw [hg] at F; (try (exact no hg)))) | (refine pvF (h := ?_); intro nb) | refine pvK (h := ?_) | refine pvK0 (h := ?_) | (refine pv_nil ?_; intro a w F M; (try (replace F := F.filt [0, 2, 3, 4, 5, 6, 7, 8, 9, 10, 11, 12, 13, 14, 36, 39, 40, 41, 42, 52, 57, 59, 60, 65, 66, 68] rfl))) | ((fail_if_success (with_reducible first | refine isW ?_ | refine isP ?_ | refine isL ?_)); (first | with_reducible refine sx_region ?_ | ((with_reducible refine isK ?_); (first | refine svT F (h := ?_) | refine svF F (h := ?_) | ((refine svB F (fun hc => ?_) (fun hc => ?_)) <;> (try (exact no hc))))) | ((with_reducible refine isD ?_); fail) | with_reducible refine wp_scope_straight ?_ | with_reducible refine wp_label ?_ | go_step))))
              all_goals (first | refine svEnd F M ?_ | refine svRet F M ?_)
              all_goals exact ⟨_, _, rfl, ⟨rfl, rfl⟩, M.perms permsA⟩
            · rw [if_neg (fun h => h6 h.2)] at q2
              have h6' : ¬ (65535 : Int) < (u : Int) := by omega
              have hcv : IntKind.i64.wrap (u : Int) = (u : Int) := IntWalk.i64_in _ ⟨by omega, by omega⟩
              (repeat' (first | ((first | refine sv1 F M (h := ?_) (hr := by ((first | (refine rt_tA rfl rfl (tA_uu _)) | (refine rt_tA rfl rfl (tA_iu _)) | (refine rt_tA rfl rfl (tA_ii _)) | (apply rt_conv; (exact rfl); (exact rfl); (exact inferInstance); (exact inferInstance); (exact hcv))))) | refine pv1 (h := ?_) (hr := by ((first | (refine rt_tA rfl rfl (tA_uu _)) | (refine rt_tA rfl rfl (tA_iu _)) | (refine rt_tA rfl rfl (tA_ii _)) | (apply rt_conv; (exact rfl); (exact rfl); (exact inferInstance); (exact inferInstance); (exact hcv)))))); (try (clear F a; intro a F))) | (refine sx_nil ?_; (try (replace F := F.filt [0, 2, 3, 4, 5, 6, 7, 8, 9, 10, 11, 12, 13, 14, 36, 39, 40, 41, 42, 52, 57, 59, 60, 65, 66, 68] rfl))) | (refine sv1 F M (h := ?_); clear F a; intro a F) | refine pv1 (h := ?_) | (refine sv3 F M (h := ?_); clear M; intro w M) | (refine sv2 F M (h := ?_); clear F M a; intro nb a w F M) | refine pv3 (h := ?_) | (refine pv2 (h := ?_); intro nb) | ((first | refine svC F M (h := ?_) | refine svC0 F M (h := ?_) | refine pvC (h := ?_) | refine pvC0 (h := ?_)); (((refine acW (k := 29) (hgp _ ?_) ?_); (exact gvA); rintro u L' ⟨rfl, rfl⟩)); (first | refine ⟨rvsA, ?_⟩ | (clear F M a; intro a w F M) | (clear M; intro w M))) | (refine svK F (h := ?_); clear F a; intro a F) | refine svK0 F (h := ?_) | ((refine sx_guardb F rfl (fun hg => ?_) (fun hg => ?_)) <;> (rw [hg] at F; (try (exact no hg)))) | (refine pvF (h := ?_); intro nb) | refine pvK (h := ?_) | refine pvK0 (h := ?_) | (refine pv_nil ?_; intro a w F M; (try (replace F := F.filt [0, 2, 3, 4, 5, 6, 7, 8, 9, 10, 11, 12, 13, 14, 36, 39, 40, 41, 42, 52, 57, 59, 60, 65, 66, 68] rfl))) | ((fail_if_success (with_reducible first | refine isW ?_ | refine isP ?_ | refine isL ?_)); (first | with_reducible refine sx_region ?_ | ((with_reducible refine isK ?_); (first | refine svT F (h := ?_) | refine svF F (h := ?_) | ((refine svB F (fun hc => ?_) (fun hc => ?_)) <;> (try (exact no hc))))) | ((with_reducible refine isD ?_); fail) | with_reducible refine wp_scope_straight ?_ | with_reducible refine wp_label ?_ | go_step))))
              exact sv_again F M ((j + 1, ⟨pk, pi, u, pa⟩) : Nat × Opn) kpA permsA ⟨by simp only; omega, q2⟩ (by simp only; omega)
          · rw [if_neg (fun h => h.1 rfl)] at q2
            (repeat' (first | ((first | refine sv1 F M (h := ?_) (hr := by ((first | (refine rt_tA rfl rfl (tA_uu _)) | (refine rt_tA rfl rfl (tA_iu _)) | (refine rt_tA rfl rfl (tA_ii _))))) | refine pv1 (h := ?_) (hr := by ((first | (refine rt_tA rfl rfl (tA_uu _)) | (refine rt_tA rfl rfl (tA_iu _)) | (refine rt_tA rfl rfl (tA_ii _)))))); (try (clear F a; intro a F))) | (refine sx_nil ?_; (try (replace F := F.filt [0, 2, 3, 4, 5, 6, 7, 8, 9, 10, 11, 12, 13, 14, 36, 39, 40, 41, 42, 52, 57, 59, 60, 65, 66, 68] rfl))) | (refine sv1 F M (h := ?_); clear F a; intro a F) | refine pv1 (h := ?_) | (refine sv3 F M (h := ?_); clear M; intro w M) | (refine sv2 F M (h := ?_); clear F M a; intro nb a w F M) | refine pv3 (h := ?_) | (refine pv2 (h := ?_); intro nb) | ((first | refine svC F M (h := ?_) | refine svC0 F M (h := ?_) | refine pvC (h := ?_) | refine pvC0 (h := ?_)); (((refine acW (k := 29) (hgp _ ?_) ?_); (exact gvA); rintro u L' ⟨rfl, rfl⟩)); (first | refine ⟨rvsA, ?_⟩ | (clear F M a; intro a w F M) | (clear M; intro w M))) | (refine svK F (h := ?_); clear F a; intro a F) | refine svK0 F (h := ?_) | ((refine sx_guardb F rfl (fun hg => ?_) (fun hg => ?_)) <;> (rw [hg] at F; (try (exact no hg)))) | (refine pvF (h := ?_); intro nb) | refine pvK (h := ?_) | refine pvK0 (h := ?_) | (refine pv_nil ?_; intro a w F M; (try (replace F := F.filt [0, 2, 3, 4, 5, 6, 7, 8, 9, 10, 11, 12, 13, 14, 36, 39, 40, 41, 42, 52, 57, 59, 60, 65, 66, 68] rfl))) | ((fail_if_success (with_reducible first | refine isW ?_ | refine isP ?_ | refine isL ?_)); (first | with_reducible refine sx_region ?_ | ((with_reducible refine isK ?_); (first | refine svT F (h := ?_) | refine svF F (h := ?_) | ((refine svB F (fun hc => ?_) (fun hc => ?_)) <;> (try (exact no hc))))) | ((with_reducible refine isD ?_); fail) | with_reducible refine wp_scope_straight ?_ | with_reducible refine wp_label ?_ | go_step))))
            exact sv_again F M ((j + 1, ⟨pk, pi, pt', u⟩) : Nat × Opn) kpA permsA ⟨by simp only; omega, q2⟩ (by simp only; omega)
      · obtain rfl : j = ds.length := by omega
        rw [List.drop_length, opW] at q2
        subst q2
        (repeat' (first | (refine sx_nil ?_; (try (replace F := F.filt [0, 2, 3, 4, 5, 6, 7, 8, 9, 10, 11, 12, 13, 14, 36, 39, 40, 41, 42, 52, 57, 59, 60, 65, 66, 68] rfl))) | (refine sv1 F M (h := ?_); clear F a; intro a F) | refine pv1 (h := ?_) | (refine sv3 F M (h := ?_); clear M; intro w M) | (refine sv2 F M (h := ?_); clear F M a; intro nb a w F M) | refine pv3 (h := ?_) | (refine pv2 (h := ?_); intro nb) | ((first | refine svC F M (h := ?_) | refine svC0 F M (h := ?_) | refine pvC (h := ?_) | refine pvC0 (h := ?_)); (fail); (first | refine ⟨rvsA, ?_⟩ | (clear F M a; intro a w F M) | (clear M; intro w M))) | (refine svK F (h := ?_); clear F a; intro a F) | refine svK0 F (h := ?_) | ((refine sx_guardb F rfl (fun hg => ?_) (fun hg => ?_)) <;> (rw [hg] at F; (try (exact no hg)))) | (refine pvF (h := ?_); intro nb) | refine pvK (h := ?_) | refine pvK0 (h := ?_) | (refine pv_nil ?_; intro a w F M; (try (replace F := F.filt [0, 2, 3, 4, 5, 6, 7, 8, 9, 10, 11, 12, 13, 14, 36, 39, 40, 41, 42, 52, 57, 59, 60, 65, 66, 68] rfl))) | ((fail_if_success (with_reducible first | refine isW ?_ | refine isP ?_ | refine isL ?_)); (first | with_reducible refine sx_region ?_ | ((with_reducible refine isK ?_); (first | refine svT F (h := ?_) | refine svF F (h := ?_) | ((refine svB F (fun hc => ?_) (fun hc => ?_)) <;> (try (exact no hc))))) | ((with_reducible refine isD ?_); fail) | with_reducible refine wp_scope_straight ?_ | with_reducible refine wp_label ?_ | go_step))))
        all_goals (first | refine svEnd F M ?_ | refine svRet F M ?_)
        all_goals exact ⟨_, _, rfl, ⟨rfl, rfl⟩, M.perms permsA⟩
    · rw [if_neg hln] at hT
      subst hT
      have hln2 : ¬ ((w0 :: ws).length : Int) = (ds.length : Int) + 1 := by omega
      (intro G w M; refine sx_enter (vs := ([str s] : List Value)) Tryd.func9 (n := 76) rfl rfl rfl rfl ?_; intro a F; (try simp only [List.cons_append, List.nil_append] at M))
      have hm2 : Gives (R ++ G) MxL := Gives.app hm
      (repeat' (first | (refine sx_nil ?_; (try (replace F := F.filt [0, 2, 3, 4, 5, 6, 7, 8, 9, 10, 11, 12, 13, 14, 36, 39, 40, 41, 42, 52, 57, 59, 60, 65, 66, 68] rfl))) | (refine sv1 F M (h := ?_); clear F a; intro a F) | refine pv1 (h := ?_) | (refine sv3 F M (h := ?_); clear M; intro w M) | (refine sv2 F M (h := ?_); clear F M a; intro nb a w F M) | refine pv3 (h := ?_) | (refine pv2 (h := ?_); intro nb) | ((first | refine svC F M (h := ?_) | refine svC0 F M (h := ?_) | refine pvC (h := ?_) | refine pvC0 (h := ?_)); ((first | ((refine acW (k := 27) (hsp _ ?_) ?_); (exact gvA); rintro u L' ⟨h, rfl, rfl⟩) | ((refine acW (k := 28) (hkd _) ?_); rintro u L' ⟨rfl, rfl⟩) | (refine acK (k := 24) (hfd nb _) ?_; rintro u L' ⟨hf, rfl, rfl⟩))); (first | refine ⟨rvsA, ?_⟩ | (clear F M a; intro a w F M) | (clear M; intro w M))) | (refine svK F (h := ?_); clear F a; intro a F) | refine svK0 F (h := ?_) | ((refine sx_guardb F rfl (fun hg => ?_) (fun hg => ?_)) <;> (rw [hg] at F; (try (exact no hg)))) | (refine pvF (h := ?_); intro nb) | refine pvK (h := ?_) | refine pvK0 (h := ?_) | (refine pv_nil ?_; intro a w F M; (try (replace F := F.filt [0, 2, 3, 4, 5, 6, 7, 8, 9, 10, 11, 12, 13, 14, 36, 39, 40, 41, 42, 52, 57, 59, 60, 65, 66, 68] rfl))) | ((fail_if_success (with_reducible first | refine isW ?_ | refine isP ?_ | refine isL ?_)); (first | with_reducible refine sx_region ?_ | ((with_reducible refine isK ?_); (first | refine svT F (h := ?_) | refine svF F (h := ?_) | ((refine svB F (fun hc => ?_) (fun hc => ?_)) <;> (try (exact no hc))))) | ((with_reducible refine isD ?_); fail) | with_reducible refine wp_scope_straight ?_ | with_reducible refine wp_label ?_ | go_step))))
      all_goals (first | refine svEnd F M ?_ | refine svRet F M ?_)
      all_goals exact ⟨_, _, rfl, ⟨rfl, rfl⟩, M.perms permsA⟩
end Go.Proofs.YtaggjikjohamjaaDoor
end
section
namespace Go.Proofs.YtaggjikjohamjaaDoor
open Go.RowKit Go.Maps
set_option linter.unusedVariables false
set_option maxRecDepth 100000
set_option linter.unusedSimpArgs false
set_option maxHeartbeats 8000000
theorem fmtW_len (o : Opn) (hr : OpR o) (d : Od) : (fmtW o d).length ≤ 20 := by
  obtain ⟨r1, r2, r3⟩ := hr
  refine dec_len _ ?_
  cases d <;> simp only [Od.get] <;> omega
theorem join_le (c : UInt8) (h : List UInt8) : ∀ (t : List (List UInt8)), (∀ x ∈ t, x.length ≤ 20) → (joinB c (h :: t)).length ≤ h.length + 21 * t.length
  | [], _ => by simp [joinB]
  | x :: t, hx => by
    have ih := join_le c h t fun y hy => hx y (by simp [hy])
    have h1 := hx x (by simp)
    simp only [joinB, List.length_append, List.flatMap_cons, List.length_cons] at ih ⊢
    omega
theorem name_len (k : Int) : (nameOf k).length ≤ 11 := by
  by_cases h : 1 ≤ k ∧ k ≤ 7
  · exact (names7_at h.1 h.2).2.1
  · rw [nameOf, if_pos (by omega)]; decide
/-- A place in a line. -/
structure FmZ where
  j : Nat
  h : SlH
  ws : List (List UInt8)
theorem fmt_spec (o : Opn) (hk : I64 o.k) (hr : OpR o) (R : List Asn) (hT : Gives R Tens) : Spec 8 [opV o] R fun u L' => u = str (fmtM o) ∧ L' = R := by
  have hv := fun R => valid_spec o hk hr R
  cases hok : okM o with
  | false =>
    have e : fmtM o = malf := by rw [fmtM, hok]; rfl
    rw [e]
    rw [hok] at hv
    obtain ⟨k, ix, tg, am⟩ := o
    (intro G w M; refine sx_enter (vs := ([opV ⟨k, ix, tg, am⟩] : List Value)) Tryd.func8 (n := 46) rfl rfl rfl rfl ?_; intro a F; (try simp only [List.cons_append, List.nil_append] at M))
    (repeat' (first | (refine sx_nil ?_; (try (replace F := F.filt [0, 1, 2, 3, 5, 6, 7, 10, 15, 16, 17, 18, 21, 23, 24, 33, 34] rfl))) | (refine sv1 F M (h := ?_); clear F a; intro a F) | refine pv1 (h := ?_) | (refine sv3 F M (h := ?_); clear M; intro w M) | (refine sv2 F M (h := ?_); clear F M a; intro nb a w F M) | refine pv3 (h := ?_) | (refine pv2 (h := ?_); intro nb) | ((first | refine svC F M (h := ?_) | refine svC0 F M (h := ?_) | refine pvC (h := ?_) | refine pvC0 (h := ?_)); (((refine acW (k := 22) (hv _) ?_); rintro u L' ⟨rfl, rfl⟩)); (first | refine ⟨rvsA, ?_⟩ | (clear F M a; intro a w F M) | (clear M; intro w M))) | (refine svK F (h := ?_); clear F a; intro a F) | refine svK0 F (h := ?_) | ((refine sx_guardb F rfl (fun hg => ?_) (fun hg => ?_)) <;> (rw [hg] at F; (try (exact no hg)))) | (refine pvF (h := ?_); intro nb) | refine pvK (h := ?_) | refine pvK0 (h := ?_) | (refine pv_nil ?_; intro a w F M; (try (replace F := F.filt [0, 1, 2, 3, 5, 6, 7, 10, 15, 16, 17, 18, 21, 23, 24, 33, 34] rfl))) | ((fail_if_success (with_reducible first | refine isW ?_ | refine isP ?_ | refine isL ?_)); (first | with_reducible refine sx_region ?_ | ((with_reducible refine isK ?_); (first | refine svT F (h := ?_) | refine svF F (h := ?_) | ((refine svB F (fun hc => ?_) (fun hc => ?_)) <;> (try (exact no hc))))) | ((with_reducible refine isD ?_); fail) | with_reducible refine wp_scope_straight ?_ | with_reducible refine wp_label ?_ | go_step))))
    all_goals (first | refine svEnd F M ?_ | refine svRet F M ?_)
    all_goals exact ⟨_, _, rfl, ⟨rfl, rfl⟩, M.perms permsA⟩
  | true =>
    obtain ⟨ds, hd⟩ := okM_true hok
    obtain ⟨g1, _⟩ := ok_get hr hd
    have hw20 := fmtW_len o hr
    obtain ⟨hl2, hz⟩ := ods_len hd.k
    have e : fmtM o = joinB 32 (nameOf o.k :: ds.map (fmtW o)) := by rw [fmtM, hok, if_pos rfl, hd.k]; rfl
    have hjl : (joinB 32 (nameOf o.k :: ds.map (fmtW o))).length ≤ 1000 := by
      have h1 := join_le 32 (nameOf o.k) (ds.map (fmtW o)) (by intro x hx; obtain ⟨d, _, rfl⟩ := List.mem_map.1 hx; exact hw20 d)
      have h2 := name_len o.k
      rw [List.length_map] at h1
      omega
    have hnl : (nameOf o.k :: ds.map (fmtW o)).length ≤ 3 := by simp; omega
    have hjn := fun (h : SlH) R => join_spec h (nameOf o.k :: ds.map (fmtW o)) (by simp) 32 R (by omega) (by omega)
    rw [e]
    rw [hok] at hv
    have hnm : ∀ {L : List Asn}, Reads 23 [.int .i64 o.k] (str (nameOf o.k)) L := name_reads o.k hk.1 hk.2
    have hfd := fun (b : Nat) R => fields_spec b o R
    rw [hd.k] at hfd
    simp only [Option.getD_some] at hfd
    obtain ⟨hri, hrt, hra⟩ := hr
    have hwD : ∀ d, fmtW o d = Lib.decDigits (d.get o).toNat := fun d => rfl
    obtain ⟨k, ix, tg, am⟩ := o
    simp only at hnm hjn hfd hri hrt hra ⊢
    generalize nameOf k = nm at *
    (intro G w M; refine sx_enter (vs := ([opV ⟨k, ix, tg, am⟩] : List Value)) Tryd.func8 (n := 46) rfl rfl rfl rfl ?_; intro a F; (try simp only [List.cons_append, List.nil_append] at M))
    have hT2 : Gives (R ++ G) Tens := Gives.app hT
    (repeat' (first | (refine sx_nil ?_; (try (replace F := F.filt [0, 1, 2, 3, 5, 6, 7, 10, 15, 16, 17, 18, 21, 23, 24, 33, 34] rfl))) | (refine sv1 F M (h := ?_); clear F a; intro a F) | refine pv1 (h := ?_) | (refine sv3 F M (h := ?_); clear M; intro w M) | (refine sv2 F M (h := ?_); clear F M a; intro nb a w F M) | refine pv3 (h := ?_) | (refine pv2 (h := ?_); intro nb) | ((first | refine svC F M (h := ?_) | refine svC0 F M (h := ?_) | refine pvC (h := ?_) | refine pvC0 (h := ?_)); ((first | ((refine acW (k := 22) (hv _) ?_); rintro u L' ⟨rfl, rfl⟩) | ((refine acCall (k := 23) ?_); (refine Spec.of_reads hnm rfl ?_)) | (refine acK (k := 24) (hfd _ _) ?_; rintro u L' ⟨hf, rfl, rfl⟩))); (first | refine ⟨rvsA, ?_⟩ | (clear F M a; intro a w F M) | (clear M; intro w M))) | (refine svK F (h := ?_); clear F a; intro a F) | refine svK0 F (h := ?_) | ((refine sx_guardb F rfl (fun hg => ?_) (fun hg => ?_)) <;> (rw [hg] at F; (try (exact no hg)))) | (refine pvF (h := ?_); intro nb) | refine pvK (h := ?_) | refine pvK0 (h := ?_) | (refine pv_nil ?_; intro a w F M; (try (replace F := F.filt [0, 1, 2, 3, 5, 6, 7, 10, 15, 16, 17, 18, 21, 23, 24, 33, 34] rfl))) | ((fail_if_success (with_reducible first | refine isW ?_ | refine isP ?_ | refine isL ?_)); (first | with_reducible refine sx_region ?_ | ((with_reducible refine isK ?_); (first | refine svT F (h := ?_) | refine svF F (h := ?_) | ((refine svB F (fun hc => ?_) (fun hc => ?_)) <;> (try (exact no hc))))) | ((with_reducible refine isD ?_); fail) | with_reducible refine wp_scope_straight ?_ | with_reducible refine wp_label ?_ | go_step))))
    rename_i b1 z1 z2 z3 z4 z5 z6
    refine svLoop F M (⟨0, ⟨some ⟨nb, 0, none⟩, 1, 1⟩, [nm]⟩ : FmZ) (fun z => [(17, .int .i64 z.j), (3, sl z.h)]) (fun z => [ownT 9 strL 1 (sl z.h) z.ws]) (fun z => z.j ≤ ds.length ∧ z.ws = nm :: (ds.take z.j).map (fmtW ⟨k, ix, tg, am⟩)) (fun z => ds.length - z.j) [5, 6, 7] ⟨Nat.zero_le _, rfl⟩ ?_ (hR := by (repeat (first | exact Pulls.nil | (apply Pulls.cons; (focus ((repeat (first | exact Pull.here | apply Pull.there)); done))))))
    (rintro ⟨j, h, ws⟩ ⟨q1, q2⟩ a w F M; (try simp only [List.cons_append, List.nil_append] at F M q1 q2 ⊢))
    by_cases hj : j < ds.length
    · obtain ⟨d, hdj⟩ : ∃ d, ds[j]? = some d := ⟨ds[j], by simp [hj]⟩
      have hdm := List.mem_of_getElem? hdj
      obtain ⟨g2, g3⟩ := g1 d hdm
      have hws : ws.length ≤ 3 := by rw [q2]; simp; omega
      have hnx : ws ++ [fmtW ⟨k, ix, tg, am⟩ d] = nm :: (ds.take (j + 1)).map (fmtW ⟨k, ix, tg, am⟩) := by rw [q2, List.take_add_one, hdj]; simp
      have hgf : ∀ R : List Asn, Gives R Tens → Spec 25 [.int .u64 (d.get ⟨k, ix, tg, am⟩)] R fun v L' => v = str (fmtW ⟨k, ix, tg, am⟩ d) ∧ L' = R := fun R hT => by
        have hu : (d.get ⟨k, ix, tg, am⟩).toNat < 18446744073709551616 := by
          cases d <;> simp only [Od.get] at g2 g3 ⊢ <;> omega
        have := gfmt_spec (d.get ⟨k, ix, tg, am⟩).toNat hu R hT
        rw [Int.toNat_of_nonneg g2, ← hwD] at this
        exact this
      generalize fmtW ⟨k, ix, tg, am⟩ d = X at *
      cases d
      · simp only [Od.get] at hgf g2
        have hcv : IntKind.u64.wrap ix = ix := by rw [IntKind.wrap_u64]; omega
        (repeat' (first | ((first | refine sv1 F M (h := ?_) (hr := by ((first | (refine rt_tA rfl rfl (tA_uu _)) | (refine rt_tA rfl rfl (tA_iu _)) | (refine rt_tA rfl rfl (tA_ii _)) | (apply rt_conv; (exact rfl); (exact rfl); (exact inferInstance); (exact inferInstance); (exact hcv))))) | refine pv1 (h := ?_) (hr := by ((first | (refine rt_tA rfl rfl (tA_uu _)) | (refine rt_tA rfl rfl (tA_iu _)) | (refine rt_tA rfl rfl (tA_ii _)) | (apply rt_conv; (exact rfl); (exact rfl); (exact inferInstance); (exact inferInstance); (exact hcv)))))); (try (clear F a; intro a F))) | (refine sx_nil ?_; (try (replace F := F.filt [0, 1, 2, 3, 5, 6, 7, 10, 15, 16, 17, 18, 21, 23, 24, 33, 34] rfl))) | (refine sv1 F M (h := ?_); clear F a; intro a F) | refine pv1 (h := ?_) | (refine sv3 F M (h := ?_); clear M; intro w M) | (refine sv2 F M (h := ?_); clear F M a; intro nb a w F M) | refine pv3 (h := ?_) | (refine pv2 (h := ?_); intro nb) | ((first | refine svC F M (h := ?_) | refine svC0 F M (h := ?_) | refine pvC (h := ?_) | refine pvC0 (h := ?_)); ((first | ((refine acW (k := 25) (hgf _ ?_) ?_); (exact gvA); rintro u L' ⟨rfl, rfl⟩) | (refine ac_appendH (f := strL) (xs := ws) (ys := [X]) rfl rfl inferInstance rfl rfl pullA inferInstance gsA rfl rfl (by simp; omega) ?_; intro nv))); (first | refine ⟨rvsA, ?_⟩ | (clear F M a; intro a w F M) | (clear M; intro w M))) | (refine svK F (h := ?_); clear F a; intro a F) | refine svK0 F (h := ?_) | ((refine sx_guardb F rfl (fun hg => ?_) (fun hg => ?_)) <;> (rw [hg] at F; (try (exact no hg)))) | (refine pvF (h := ?_); intro nb) | refine pvK (h := ?_) | refine pvK0 (h := ?_) | (refine pv_nil ?_; intro a w F M; (try (replace F := F.filt [0, 1, 2, 3, 5, 6, 7, 10, 15, 16, 17, 18, 21, 23, 24, 33, 34] rfl))) | ((fail_if_success (with_reducible first | refine isW ?_ | refine isP ?_ | refine isL ?_)); (first | with_reducible refine sx_region ?_ | ((with_reducible refine isK ?_); (first | refine svT F (h := ?_) | refine svF F (h := ?_) | ((refine svB F (fun hc => ?_) (fun hc => ?_)) <;> (try (exact no hc))))) | ((with_reducible refine isD ?_); fail) | with_reducible refine wp_scope_straight ?_ | with_reducible refine wp_label ?_ | go_step))))
        exact sv_again F M (⟨j + 1, nv, ws ++ [X]⟩ : FmZ) kpA permsA ⟨by simp only; omega, hnx⟩ (by simp only; omega)
      · simp only [Od.get] at hgf g2
        have hcv : IntKind.u64.wrap tg = tg := by rw [IntKind.wrap_u64]; omega
        (repeat' (first | ((first | refine sv1 F M (h := ?_) (hr := by ((first | (refine rt_tA rfl rfl (tA_uu _)) | (refine rt_tA rfl rfl (tA_iu _)) | (refine rt_tA rfl rfl (tA_ii _)) | (apply rt_conv; (exact rfl); (exact rfl); (exact inferInstance); (exact inferInstance); (exact hcv))))) | refine pv1 (h := ?_) (hr := by ((first | (refine rt_tA rfl rfl (tA_uu _)) | (refine rt_tA rfl rfl (tA_iu _)) | (refine rt_tA rfl rfl (tA_ii _)) | (apply rt_conv; (exact rfl); (exact rfl); (exact inferInstance); (exact inferInstance); (exact hcv)))))); (try (clear F a; intro a F))) | (refine sx_nil ?_; (try (replace F := F.filt [0, 1, 2, 3, 5, 6, 7, 10, 15, 16, 17, 18, 21, 23, 24, 33, 34] rfl))) | (refine sv1 F M (h := ?_); clear F a; intro a F) | refine pv1 (h := ?_) | (refine sv3 F M (h := ?_); clear M; intro w M) | (refine sv2 F M (h := ?_); clear F M a; intro nb a w F M) | refine pv3 (h := ?_) | (refine pv2 (h := ?_); intro nb) | ((first | refine svC F M (h := ?_) | refine svC0 F M (h := ?_) | refine pvC (h := ?_) | refine pvC0 (h := ?_)); ((first | ((refine acW (k := 25) (hgf _ ?_) ?_); (exact gvA); rintro u L' ⟨rfl, rfl⟩) | (refine ac_appendH (f := strL) (xs := ws) (ys := [X]) rfl rfl inferInstance rfl rfl pullA inferInstance gsA rfl rfl (by simp; omega) ?_; intro nv))); (first | refine ⟨rvsA, ?_⟩ | (clear F M a; intro a w F M) | (clear M; intro w M))) | (refine svK F (h := ?_); clear F a; intro a F) | refine svK0 F (h := ?_) | ((refine sx_guardb F rfl (fun hg => ?_) (fun hg => ?_)) <;> (rw [hg] at F; (try (exact no hg)))) | (refine pvF (h := ?_); intro nb) | refine pvK (h := ?_) | refine pvK0 (h := ?_) | (refine pv_nil ?_; intro a w F M; (try (replace F := F.filt [0, 1, 2, 3, 5, 6, 7, 10, 15, 16, 17, 18, 21, 23, 24, 33, 34] rfl))) | ((fail_if_success (with_reducible first | refine isW ?_ | refine isP ?_ | refine isL ?_)); (first | with_reducible refine sx_region ?_ | ((with_reducible refine isK ?_); (first | refine svT F (h := ?_) | refine svF F (h := ?_) | ((refine svB F (fun hc => ?_) (fun hc => ?_)) <;> (try (exact no hc))))) | ((with_reducible refine isD ?_); fail) | with_reducible refine wp_scope_straight ?_ | with_reducible refine wp_label ?_ | go_step))))
        exact sv_again F M (⟨j + 1, nv, ws ++ [X]⟩ : FmZ) kpA permsA ⟨by simp only; omega, hnx⟩ (by simp only; omega)
      · simp only [Od.get] at hgf g2
        have hcv : IntKind.u64.wrap am = am := by rw [IntKind.wrap_u64]; omega
        (repeat' (first | ((first | refine sv1 F M (h := ?_) (hr := by ((first | (refine rt_tA rfl rfl (tA_uu _)) | (refine rt_tA rfl rfl (tA_iu _)) | (refine rt_tA rfl rfl (tA_ii _)) | (apply rt_conv; (exact rfl); (exact rfl); (exact inferInstance); (exact inferInstance); (exact hcv))))) | refine pv1 (h := ?_) (hr := by ((first | (refine rt_tA rfl rfl (tA_uu _)) | (refine rt_tA rfl rfl (tA_iu _)) | (refine rt_tA rfl rfl (tA_ii _)) | (apply rt_conv; (exact rfl); (exact rfl); (exact inferInstance); (exact inferInstance); (exact hcv)))))); (try (clear F a; intro a F))) | (refine sx_nil ?_; (try (replace F := F.filt [0, 1, 2, 3, 5, 6, 7, 10, 15, 16, 17, 18, 21, 23, 24, 33, 34] rfl))) | (refine sv1 F M (h := ?_); clear F a; intro a F) | refine pv1 (h := ?_) | (refine sv3 F M (h := ?_); clear M; intro w M) | (refine sv2 F M (h := ?_); clear F M a; intro nb a w F M) | refine pv3 (h := ?_) | (refine pv2 (h := ?_); intro nb) | ((first | refine svC F M (h := ?_) | refine svC0 F M (h := ?_) | refine pvC (h := ?_) | refine pvC0 (h := ?_)); ((first | ((refine acW (k := 25) (hgf _ ?_) ?_); (exact gvA); rintro u L' ⟨rfl, rfl⟩) | (refine ac_appendH (f := strL) (xs := ws) (ys := [X]) rfl rfl inferInstance rfl rfl pullA inferInstance gsA rfl rfl (by simp; omega) ?_; intro nv))); (first | refine ⟨rvsA, ?_⟩ | (clear F M a; intro a w F M) | (clear M; intro w M))) | (refine svK F (h := ?_); clear F a; intro a F) | refine svK0 F (h := ?_) | ((refine sx_guardb F rfl (fun hg => ?_) (fun hg => ?_)) <;> (rw [hg] at F; (try (exact no hg)))) | (refine pvF (h := ?_); intro nb) | refine pvK (h := ?_) | refine pvK0 (h := ?_) | (refine pv_nil ?_; intro a w F M; (try (replace F := F.filt [0, 1, 2, 3, 5, 6, 7, 10, 15, 16, 17, 18, 21, 23, 24, 33, 34] rfl))) | ((fail_if_success (with_reducible first | refine isW ?_ | refine isP ?_ | refine isL ?_)); (first | with_reducible refine sx_region ?_ | ((with_reducible refine isK ?_); (first | refine svT F (h := ?_) | refine svF F (h := ?_) | ((refine svB F (fun hc => ?_) (fun hc => ?_)) <;> (try (exact no hc))))) | ((with_reducible refine isD ?_); fail) | with_reducible refine wp_scope_straight ?_ | with_reducible refine wp_label ?_ | go_step))))
        exact sv_again F M (⟨j + 1, nv, ws ++ [X]⟩ : FmZ) kpA permsA ⟨by simp only; omega, hnx⟩ (by simp only; omega)
    · obtain rfl : j = ds.length := by omega
      rw [List.take_length] at q2
      subst q2
      (repeat' (first | (refine sx_nil ?_; (try (replace F := F.filt [0, 1, 2, 3, 5, 6, 7, 10, 15, 16, 17, 18, 21, 23, 24, 33, 34] rfl))) | (refine sv1 F M (h := ?_); clear F a; intro a F) | refine pv1 (h := ?_) | (refine sv3 F M (h := ?_); clear M; intro w M) | (refine sv2 F M (h := ?_); clear F M a; intro nb a w F M) | refine pv3 (h := ?_) | (refine pv2 (h := ?_); intro nb) | ((first | refine svC F M (h := ?_) | refine svC0 F M (h := ?_) | refine pvC (h := ?_) | refine pvC0 (h := ?_)); ((refine acK (k := 26) (hjn h _) ?_; rintro u L' ⟨rfl, rfl⟩)); (first | refine ⟨rvsA, ?_⟩ | (clear F M a; intro a w F M) | (clear M; intro w M))) | (refine svK F (h := ?_); clear F a; intro a F) | refine svK0 F (h := ?_) | ((refine sx_guardb F rfl (fun hg => ?_) (fun hg => ?_)) <;> (rw [hg] at F; (try (exact no hg)))) | (refine pvF (h := ?_); intro nb) | refine pvK (h := ?_) | refine pvK0 (h := ?_) | (refine pv_nil ?_; intro a w F M; (try (replace F := F.filt [0, 1, 2, 3, 5, 6, 7, 10, 15, 16, 17, 18, 21, 23, 24, 33, 34] rfl))) | ((fail_if_success (with_reducible first | refine isW ?_ | refine isP ?_ | refine isL ?_)); (first | with_reducible refine sx_region ?_ | ((with_reducible refine isK ?_); (first | refine svT F (h := ?_) | refine svF F (h := ?_) | ((refine svB F (fun hc => ?_) (fun hc => ?_)) <;> (try (exact no hc))))) | ((with_reducible refine isD ?_); fail) | with_reducible refine wp_scope_straight ?_ | with_reducible refine wp_label ?_ | go_step))))
      all_goals (first | refine svEnd F M ?_ | refine svRet F M ?_)
      all_goals exact ⟨_, _, rfl, ⟨rfl, rfl⟩, M.perms permsA⟩
/-- What a line's end holds from an operand on. -/
theorem rfmt19_spec (o : Opn) (hr : OpR o) (R : List Asn) : Spec 10 [opV o] R fun u L' => u = str (fmtM o) ∧ L' = R := by
  have hv := fun R => rvalid_spec o R
  cases hok : okM o with
  | false =>
    have e : fmtM o = malf := by rw [fmtM, hok]; rfl
    rw [e]
    rw [hok] at hv
    obtain ⟨k, ix, tg, am⟩ := o
    (intro G w M; refine sx_enter (vs := ([opV ⟨k, ix, tg, am⟩] : List Value)) Tryd.func10 (n := 47) rfl rfl rfl rfl ?_; intro a F; (try simp only [List.cons_append, List.nil_append] at M))
    (repeat' (first | (refine sx_nil ?_; (try (replace F := F.filt [0, 1, 2, 3, 4, 5, 6, 9, 22, 30, 37] rfl))) | (refine sv1 F M (h := ?_); clear F a; intro a F) | refine pv1 (h := ?_) | (refine sv3 F M (h := ?_); clear M; intro w M) | (refine sv2 F M (h := ?_); clear F M a; intro nb a w F M) | refine pv3 (h := ?_) | (refine pv2 (h := ?_); intro nb) | ((first | refine svC F M (h := ?_) | refine svC0 F M (h := ?_) | refine pvC (h := ?_) | refine pvC0 (h := ?_)); (((refine acW (k := 11) (hv _) ?_); rintro u L' ⟨rfl, rfl⟩)); (first | refine ⟨rvsA, ?_⟩ | (clear F M a; intro a w F M) | (clear M; intro w M))) | (refine svK F (h := ?_); clear F a; intro a F) | refine svK0 F (h := ?_) | ((refine sx_guardb F rfl (fun hg => ?_) (fun hg => ?_)) <;> (rw [hg] at F; (try (exact no hg)))) | (refine pvF (h := ?_); intro nb) | refine pvK (h := ?_) | refine pvK0 (h := ?_) | (refine pv_nil ?_; intro a w F M; (try (replace F := F.filt [0, 1, 2, 3, 4, 5, 6, 9, 22, 30, 37] rfl))) | ((fail_if_success (with_reducible first | refine isW ?_ | refine isP ?_ | refine isL ?_)); (first | with_reducible refine sx_region ?_ | ((with_reducible refine isK ?_); (first | refine svT F (h := ?_) | refine svF F (h := ?_) | ((refine svB F (fun hc => ?_) (fun hc => ?_)) <;> (try (exact no hc))))) | ((with_reducible refine isD ?_); (first | (refine svDraw (id := 3) [0] [] [(0, [1, 2, 3])] [1, 2, 3, 0, 4, 5, 6] F M (h := ?_); clear F M a w))) | with_reducible refine wp_scope_straight ?_ | with_reducible refine wp_label ?_ | go_step))))
    all_goals (first | refine svEnd F M ?_ | refine svRet F M ?_)
    all_goals exact ⟨_, _, rfl, ⟨rfl, rfl⟩, M.perms permsA⟩
  | true =>
    obtain ⟨ds, hd⟩ := okM_true hok
    obtain ⟨g1, _⟩ := ok_get hr hd
    have hw20 := fmtW_len o hr
    obtain ⟨hl2, hz⟩ := ods_len hd.k
    have e : fmtM o = joinB 32 (nameOf o.k :: ds.map (fmtW o)) := by rw [fmtM, hok, if_pos rfl, hd.k]; rfl
    obtain ⟨hk1, hk2⟩ : 1 ≤ o.k ∧ o.k ≤ 7 := by rcases ods_cases hd.k with ⟨h, _⟩ | ⟨h, _⟩ | ⟨h, _⟩ | ⟨h, _⟩ | ⟨h, _⟩ | ⟨h, _⟩ | ⟨h, _⟩ <;> omega
    obtain ⟨hn7, hn8, _⟩ := names7_at hk1 hk2
    have hop := fun R => rops_spec o.k R
    rw [(odsS_some hd.k).1] at hop
    have hml : (ds.map Od.ch).length = ds.length := List.length_map ..
    rw [e]
    rw [hok] at hv
    obtain ⟨hri, hrt, hra⟩ := hr
    have hwD : ∀ d, fmtW o d = Lib.decDigits (d.get o).toNat := fun d => rfl
    have e7 : names7.length = 7 := rfl
    obtain ⟨k, ix, tg, am⟩ := o
    simp only at hop hn7 hn8 hk1 hk2 hri hrt hra ⊢
    generalize nameOf k = nm at *
    (intro G w M; refine sx_enter (vs := ([opV ⟨k, ix, tg, am⟩] : List Value)) Tryd.func10 (n := 47) rfl rfl rfl rfl ?_; intro a F; (try simp only [List.cons_append, List.nil_append] at M))
    (repeat' (first | (refine sx_nil ?_; (try (replace F := F.filt [0, 1, 2, 3, 4, 5, 6, 9, 22, 30, 37] rfl))) | (refine sv1 F M (h := ?_); clear F a; intro a F) | refine pv1 (h := ?_) | (refine sv3 F M (h := ?_); clear M; intro w M) | (refine sv2 F M (h := ?_); clear F M a; intro nb a w F M) | refine pv3 (h := ?_) | (refine pv2 (h := ?_); intro nb) | ((first | refine svC F M (h := ?_) | refine svC0 F M (h := ?_) | refine pvC (h := ?_) | refine pvC0 (h := ?_)); ((first | ((refine acW (k := 11) (hv _) ?_); rintro u L' ⟨rfl, rfl⟩) | ((refine acW (k := 30) rnames_spec ?_); rintro u L' ⟨hn, rfl, rfl⟩) | ((refine acW (k := 31) (hop _) ?_); rintro u L' ⟨rfl, rfl⟩))); (first | refine ⟨rvsA, ?_⟩ | (clear F M a; intro a w F M) | (clear M; intro w M))) | (refine svK F (h := ?_); clear F a; intro a F) | refine svK0 F (h := ?_) | ((refine sx_guardb F rfl (fun hg => ?_) (fun hg => ?_)) <;> (rw [hg] at F; (try (exact no hg)))) | (refine pvF (h := ?_); intro nb) | refine pvK (h := ?_) | refine pvK0 (h := ?_) | (refine pv_nil ?_; intro a w F M; (try (replace F := F.filt [0, 1, 2, 3, 4, 5, 6, 9, 22, 30, 37] rfl))) | ((fail_if_success (with_reducible first | refine isW ?_ | refine isP ?_ | refine isL ?_)); (first | with_reducible refine sx_region ?_ | ((with_reducible refine isK ?_); (first | refine svT F (h := ?_) | refine svF F (h := ?_) | ((refine svB F (fun hc => ?_) (fun hc => ?_)) <;> (try (exact no hc))))) | ((with_reducible refine isD ?_); (first | (refine svDraw (id := 3) [0] [] [(0, [1, 2, 3])] [1, 2, 3, 0, 4, 5, 6] F M (h := ?_); clear F M a w))) | with_reducible refine wp_scope_straight ?_ | with_reducible refine wp_label ?_ | go_step))))
    refine svLoop F M ((0, nm) : Nat × List UInt8) (fun z => [(5, .int .i64 z.1), (3, str z.2)]) (fun z => []) (fun z => z.1 ≤ ds.length ∧ z.2 = joinB 32 (nm :: (ds.take z.1).map (fmtW ⟨k, ix, tg, am⟩))) (fun z => ds.length - z.1) [6] ⟨Nat.zero_le _, by simp [joinB]⟩ ?_
    (rintro ⟨j, s⟩ ⟨q1, q2⟩ a w F M; (try simp only [List.cons_append, List.nil_append] at F M q1 q2 ⊢))
    by_cases hj : j < ds.length
    · obtain ⟨d, hdj⟩ : ∃ d, ds[j]? = some d := ⟨ds[j], by simp [hj]⟩
      have hdm := List.mem_of_getElem? hdj
      have hch : (ds.map Od.ch)[j]? = some d.ch := by rw [List.getElem?_map, hdj]; rfl
      obtain ⟨g2, g3⟩ := g1 d hdm
      have hsl : s.length ≤ 1000 := by
        have := join_le 32 nm ((ds.take j).map (fmtW ⟨k, ix, tg, am⟩)) (by intro x hx; obtain ⟨d, _, rfl⟩ := List.mem_map.1 hx; exact hw20 d)
        rw [q2]; simp only [List.length_map, List.length_take] at this; omega
      have hwl := hw20 d
      have hnx : s ++ [32] ++ fmtW ⟨k, ix, tg, am⟩ d = joinB 32 (nm :: (ds.take (j + 1)).map (fmtW ⟨k, ix, tg, am⟩)) := by rw [q2, List.take_add_one, hdj]; simp [joinB]
      have hgf : ∀ {L : List Asn}, Reads 32 [.int .u64 (d.get ⟨k, ix, tg, am⟩)] (str (fmtW ⟨k, ix, tg, am⟩ d)) L := fun {L} => by
        have hu : d.get ⟨k, ix, tg, am⟩ ≤ 18446744073709551615 := by
          cases d <;> simp only [Od.get] at g2 g3 ⊢ <;> omega
        have := rfmt_int (d.get ⟨k, ix, tg, am⟩) g2 hu (L := L)
        rw [← hwD] at this
        exact this
      generalize fmtW ⟨k, ix, tg, am⟩ d = X at *
      cases d
      · simp only [Od.get] at hgf g2
        have hcv : IntKind.u64.wrap ix = ix := by rw [IntKind.wrap_u64]; omega
        (repeat' (first | ((first | refine sv1 F M (h := ?_) (hr := by ((apply rt_conv; (exact rfl); (exact rfl); (exact inferInstance); (exact inferInstance); (exact hcv)))) | refine pv1 (h := ?_) (hr := by ((apply rt_conv; (exact rfl); (exact rfl); (exact inferInstance); (exact inferInstance); (exact hcv))))); (try (clear F a; intro a F))) | (refine sx_nil ?_; (try (replace F := F.filt [0, 1, 2, 3, 4, 5, 6, 9, 22, 30, 37] rfl))) | (refine sv1 F M (h := ?_); clear F a; intro a F) | refine pv1 (h := ?_) | (refine sv3 F M (h := ?_); clear M; intro w M) | (refine sv2 F M (h := ?_); clear F M a; intro nb a w F M) | refine pv3 (h := ?_) | (refine pv2 (h := ?_); intro nb) | ((first | refine svC F M (h := ?_) | refine svC0 F M (h := ?_) | refine pvC (h := ?_) | refine pvC0 (h := ?_)); (((refine acCall (k := 32) ?_); (refine Spec.of_reads hgf rfl ?_))); (first | refine ⟨rvsA, ?_⟩ | (clear F M a; intro a w F M) | (clear M; intro w M))) | (refine svK F (h := ?_); clear F a; intro a F) | refine svK0 F (h := ?_) | ((refine sx_guardb F rfl (fun hg => ?_) (fun hg => ?_)) <;> (rw [hg] at F; (try (exact no hg)))) | (refine pvF (h := ?_); intro nb) | refine pvK (h := ?_) | refine pvK0 (h := ?_) | (refine pv_nil ?_; intro a w F M; (try (replace F := F.filt [0, 1, 2, 3, 4, 5, 6, 9, 22, 30, 37] rfl))) | ((fail_if_success (with_reducible first | refine isW ?_ | refine isP ?_ | refine isL ?_)); (first | with_reducible refine sx_region ?_ | ((with_reducible refine isK ?_); (first | refine svT F (h := ?_) | refine svF F (h := ?_) | ((refine svB F (fun hc => ?_) (fun hc => ?_)) <;> (try (exact no hc))))) | ((with_reducible refine isD ?_); (first | (refine svDraw (id := 3) [0] [] [(0, [1, 2, 3])] [1, 2, 3, 0, 4, 5, 6] F M (h := ?_); clear F M a w))) | with_reducible refine wp_scope_straight ?_ | with_reducible refine wp_label ?_ | go_step))))
        exact sv_again F M ((j + 1, s ++ [32] ++ X) : Nat × List UInt8) kpA permsA ⟨by simp only; omega, hnx⟩ (by simp only; omega)
      · simp only [Od.get] at hgf g2
        have hcv : IntKind.u64.wrap tg = tg := by rw [IntKind.wrap_u64]; omega
        (repeat' (first | ((first | refine sv1 F M (h := ?_) (hr := by ((apply rt_conv; (exact rfl); (exact rfl); (exact inferInstance); (exact inferInstance); (exact hcv)))) | refine pv1 (h := ?_) (hr := by ((apply rt_conv; (exact rfl); (exact rfl); (exact inferInstance); (exact inferInstance); (exact hcv))))); (try (clear F a; intro a F))) | (refine sx_nil ?_; (try (replace F := F.filt [0, 1, 2, 3, 4, 5, 6, 9, 22, 30, 37] rfl))) | (refine sv1 F M (h := ?_); clear F a; intro a F) | refine pv1 (h := ?_) | (refine sv3 F M (h := ?_); clear M; intro w M) | (refine sv2 F M (h := ?_); clear F M a; intro nb a w F M) | refine pv3 (h := ?_) | (refine pv2 (h := ?_); intro nb) | ((first | refine svC F M (h := ?_) | refine svC0 F M (h := ?_) | refine pvC (h := ?_) | refine pvC0 (h := ?_)); (((refine acCall (k := 32) ?_); (refine Spec.of_reads hgf rfl ?_))); (first | refine ⟨rvsA, ?_⟩ | (clear F M a; intro a w F M) | (clear M; intro w M))) | (refine svK F (h := ?_); clear F a; intro a F) | refine svK0 F (h := ?_) | ((refine sx_guardb F rfl (fun hg => ?_) (fun hg => ?_)) <;> (rw [hg] at F; (try (exact no hg)))) | (refine pvF (h := ?_); intro nb) | refine pvK (h := ?_) | refine pvK0 (h := ?_) | (refine pv_nil ?_; intro a w F M; (try (replace F := F.filt [0, 1, 2, 3, 4, 5, 6, 9, 22, 30, 37] rfl))) | ((fail_if_success (with_reducible first | refine isW ?_ | refine isP ?_ | refine isL ?_)); (first | with_reducible refine sx_region ?_ | ((with_reducible refine isK ?_); (first | refine svT F (h := ?_) | refine svF F (h := ?_) | ((refine svB F (fun hc => ?_) (fun hc => ?_)) <;> (try (exact no hc))))) | ((with_reducible refine isD ?_); (first | (refine svDraw (id := 3) [0] [] [(0, [1, 2, 3])] [1, 2, 3, 0, 4, 5, 6] F M (h := ?_); clear F M a w))) | with_reducible refine wp_scope_straight ?_ | with_reducible refine wp_label ?_ | go_step))))
        exact sv_again F M ((j + 1, s ++ [32] ++ X) : Nat × List UInt8) kpA permsA ⟨by simp only; omega, hnx⟩ (by simp only; omega)
      · simp only [Od.get] at hgf g2
        have hcv : IntKind.u64.wrap am = am := by rw [IntKind.wrap_u64]; omega
        (repeat' (first | ((first | refine sv1 F M (h := ?_) (hr := by ((apply rt_conv; (exact rfl); (exact rfl); (exact inferInstance); (exact inferInstance); (exact hcv)))) | refine pv1 (h := ?_) (hr := by ((apply rt_conv; (exact rfl); (exact rfl); (exact inferInstance); (exact inferInstance); (exact hcv))))); (try (clear F a; intro a F))) | (refine sx_nil ?_; (try (replace F := F.filt [0, 1, 2, 3, 4, 5, 6, 9, 22, 30, 37] rfl))) | (refine sv1 F M (h := ?_); clear F a; intro a F) | refine pv1 (h := ?_) | (refine sv3 F M (h := ?_); clear M; intro w M) | (refine sv2 F M (h := ?_); clear F M a; intro nb a w F M) | refine pv3 (h := ?_) | (refine pv2 (h := ?_); intro nb) | ((first | refine svC F M (h := ?_) | refine svC0 F M (h := ?_) | refine pvC (h := ?_) | refine pvC0 (h := ?_)); (((refine acCall (k := 32) ?_); (refine Spec.of_reads hgf rfl ?_))); (first | refine ⟨rvsA, ?_⟩ | (clear F M a; intro a w F M) | (clear M; intro w M))) | (refine svK F (h := ?_); clear F a; intro a F) | refine svK0 F (h := ?_) | ((refine sx_guardb F rfl (fun hg => ?_) (fun hg => ?_)) <;> (rw [hg] at F; (try (exact no hg)))) | (refine pvF (h := ?_); intro nb) | refine pvK (h := ?_) | refine pvK0 (h := ?_) | (refine pv_nil ?_; intro a w F M; (try (replace F := F.filt [0, 1, 2, 3, 4, 5, 6, 9, 22, 30, 37] rfl))) | ((fail_if_success (with_reducible first | refine isW ?_ | refine isP ?_ | refine isL ?_)); (first | with_reducible refine sx_region ?_ | ((with_reducible refine isK ?_); (first | refine svT F (h := ?_) | refine svF F (h := ?_) | ((refine svB F (fun hc => ?_) (fun hc => ?_)) <;> (try (exact no hc))))) | ((with_reducible refine isD ?_); (first | (refine svDraw (id := 3) [0] [] [(0, [1, 2, 3])] [1, 2, 3, 0, 4, 5, 6] F M (h := ?_); clear F M a w))) | with_reducible refine wp_scope_straight ?_ | with_reducible refine wp_label ?_ | go_step))))
        exact sv_again F M ((j + 1, s ++ [32] ++ X) : Nat × List UInt8) kpA permsA ⟨by simp only; omega, hnx⟩ (by simp only; omega)
    · obtain rfl : j = ds.length := by omega
      rw [List.take_length] at q2
      subst q2
      (repeat' (first | (refine sx_nil ?_; (try (replace F := F.filt [0, 1, 2, 3, 4, 5, 6, 9, 22, 30, 37] rfl))) | (refine sv1 F M (h := ?_); clear F a; intro a F) | refine pv1 (h := ?_) | (refine sv3 F M (h := ?_); clear M; intro w M) | (refine sv2 F M (h := ?_); clear F M a; intro nb a w F M) | refine pv3 (h := ?_) | (refine pv2 (h := ?_); intro nb) | ((first | refine svC F M (h := ?_) | refine svC0 F M (h := ?_) | refine pvC (h := ?_) | refine pvC0 (h := ?_)); (fail); (first | refine ⟨rvsA, ?_⟩ | (clear F M a; intro a w F M) | (clear M; intro w M))) | (refine svK F (h := ?_); clear F a; intro a F) | refine svK0 F (h := ?_) | ((refine sx_guardb F rfl (fun hg => ?_) (fun hg => ?_)) <;> (rw [hg] at F; (try (exact no hg)))) | (refine pvF (h := ?_); intro nb) | refine pvK (h := ?_) | refine pvK0 (h := ?_) | (refine pv_nil ?_; intro a w F M; (try (replace F := F.filt [0, 1, 2, 3, 4, 5, 6, 9, 22, 30, 37] rfl))) | ((fail_if_success (with_reducible first | refine isW ?_ | refine isP ?_ | refine isL ?_)); (first | with_reducible refine sx_region ?_ | ((with_reducible refine isK ?_); (first | refine svT F (h := ?_) | refine svF F (h := ?_) | ((refine svB F (fun hc => ?_) (fun hc => ?_)) <;> (try (exact no hc))))) | ((with_reducible refine isD ?_); (first | (refine svDraw (id := 3) [0] [] [(0, [1, 2, 3])] [1, 2, 3, 0, 4, 5, 6] F M (h := ?_); clear F M a w))) | with_reducible refine wp_scope_straight ?_ | with_reducible refine wp_label ?_ | go_step))))
      all_goals (first | refine svEnd F M ?_ | refine svRet F M ?_)
      all_goals exact ⟨_, _, rfl, ⟨rfl, rfl⟩, M.perms permsA⟩
end Go.Proofs.YtaggjikjohamjaaDoor
end
section
namespace Go.Proofs.YtaggjikjohamjaaDoor
open Go.RowKit Go.Maps
set_option linter.unusedVariables false
set_option maxRecDepth 100000
set_option linter.unusedSimpArgs false
set_option maxHeartbeats 8000000
structure SpZ where
  i : Nat
  f : Nat
  h : SlH
  out : List (List UInt8)
theorem split_cut {c : UInt8} {p r : List UInt8} (h : c ∉ p) : splitB c (p ++ c :: r) = p :: splitB c r := by
  rw [splitB_app, splitB_none h]; rfl
theorem rsplit_spec (s : List UInt8) (c : UInt8) (hs : s.length ≤ 100000) (R : List Asn) : Spec 35 [str s, .int .u8 (c.toNat : Int)] R fun u L' => ∃ h, u = sl h ∧ L' = ownT 9 strL 1 (sl h) (splitB c s) :: R := by
  obtain ⟨X, hX⟩ : ∃ X, splitB c s = X := ⟨_, rfl⟩
  rw [hX]
  (intro G w M; refine sx_enter (vs := ([str s, .int .u8 (c.toNat : Int)] : List Value)) Tryd.func35 (n := 35) rfl rfl rfl rfl ?_; intro a F; (try simp only [List.cons_append, List.nil_append] at M))
  have M := M.own_nil 9 1
  (repeat' (first | (refine sx_nil ?_; (try (replace F := F.filt [0, 1, 4, 5, 6, 7, 11, 24] rfl))) | (refine sv1 F M (h := ?_); clear F a; intro a F) | refine pv1 (h := ?_) | (refine sv3 F M (h := ?_); clear M; intro w M) | (refine sv2 F M (h := ?_); clear F M a; intro nb a w F M) | refine pv3 (h := ?_) | (refine pv2 (h := ?_); intro nb) | ((first | refine svC F M (h := ?_) | refine svC0 F M (h := ?_) | refine pvC (h := ?_) | refine pvC0 (h := ?_)); (fail); (first | refine ⟨rvsA, ?_⟩ | (clear F M a; intro a w F M) | (clear M; intro w M))) | (refine svK F (h := ?_); clear F a; intro a F) | refine svK0 F (h := ?_) | ((refine sx_guardb F rfl (fun hg => ?_) (fun hg => ?_)) <;> (rw [hg] at F; (try (exact no hg)))) | (refine pvF (h := ?_); intro nb) | refine pvK (h := ?_) | refine pvK0 (h := ?_) | (refine pv_nil ?_; intro a w F M; (try (replace F := F.filt [0, 1, 4, 5, 6, 7, 11, 24] rfl))) | ((fail_if_success (with_reducible first | refine isW ?_ | refine isP ?_ | refine isL ?_)); (first | with_reducible refine sx_region ?_ | ((with_reducible refine isK ?_); (first | refine svT F (h := ?_) | refine svF F (h := ?_) | ((refine svB F (fun hc => ?_) (fun hc => ?_)) <;> (try (exact no hc))))) | ((with_reducible refine isD ?_); fail) | with_reducible refine wp_scope_straight ?_ | with_reducible refine wp_label ?_ | go_step))))
  refine svLoop F M (⟨0, 0, nilH, []⟩ : SpZ) (fun z => [(7, .int .i64 z.i), (6, .int .i64 z.f), (5, sl z.h)]) (fun z => [ownT 9 strL 1 (sl z.h) z.out]) (fun z => z.i ≤ s.length + 1 ∧ z.out.length ≤ z.i ∧ (if z.i ≤ s.length then z.f ≤ z.i ∧ c ∉ (s.drop z.f).take (z.i - z.f) ∧ z.out ++ splitB c (s.drop z.f) = X else z.out = X)) (fun z => s.length + 1 - z.i) [] ⟨Nat.zero_le _, Nat.zero_le _, by rw [if_pos (Nat.zero_le _)]; exact ⟨Nat.le_refl _, by simp, hX⟩⟩ ?_ (hR := by (repeat (first | exact Pulls.nil | (apply Pulls.cons; (focus ((repeat (first | exact Pull.here | apply Pull.there)); done))))))
  (rintro ⟨i, f, h, out⟩ ⟨q1, q2, q3⟩ a w F M; (try simp only [List.cons_append, List.nil_append] at F M q1 q2 q3 ⊢))
  by_cases hi : i ≤ s.length
  · rw [if_pos hi] at q3
    obtain ⟨q3, q4, q5⟩ := q3
    obtain ⟨P, hP⟩ : ∃ P, (s.drop f).take (i - f) = P := ⟨_, rfl⟩
    have hdf : s.drop f = P ++ s.drop i := by
      rw [← hP]
      have e1 : s.drop i = (s.drop f).drop (i - f) := by rw [List.drop_drop]; congr 1; omega
      rw [e1, List.take_append_drop]
    rw [hP] at q4
    have emid : (s.drop f).take (i - f) = P := hP
    by_cases he : i = s.length
    · have hd : s.drop i = [] := by rw [he, List.drop_length]
      rw [hd, List.append_nil] at hdf
      rw [hdf, splitB_none q4] at q5
      have he2 : (i : Int) = (s.length : Int) := by omega
      (repeat' (first | (refine sx_nil ?_; (try (replace F := F.filt [0, 1, 4, 5, 6, 7, 11, 24] rfl))) | (refine sv1 F M (h := ?_); clear F a; intro a F) | refine pv1 (h := ?_) | (refine sv3 F M (h := ?_); clear M; intro w M) | (refine sv2 F M (h := ?_); clear F M a; intro nb a w F M) | refine pv3 (h := ?_) | (refine pv2 (h := ?_); intro nb) | ((first | refine svC F M (h := ?_) | refine svC0 F M (h := ?_) | refine pvC (h := ?_) | refine pvC0 (h := ?_)); ((refine ac_appendH (f := strL) (xs := out) (ys := [(s.drop f).take (i - f)]) rfl rfl inferInstance rfl rfl pullA inferInstance gsA rfl rfl (by simp; omega) ?_; intro nv)); (first | refine ⟨rvsA, ?_⟩ | (clear F M a; intro a w F M) | (clear M; intro w M))) | (refine svK F (h := ?_); clear F a; intro a F) | refine svK0 F (h := ?_) | ((refine sx_guardb F rfl (fun hg => ?_) (fun hg => ?_)) <;> (rw [hg] at F; (try (exact no hg)))) | (refine pvF (h := ?_); intro nb) | refine pvK (h := ?_) | refine pvK0 (h := ?_) | (refine pv_nil ?_; intro a w F M; (try (replace F := F.filt [0, 1, 4, 5, 6, 7, 11, 24] rfl))) | ((fail_if_success (with_reducible first | refine isW ?_ | refine isP ?_ | refine isL ?_)); (first | with_reducible refine sx_region ?_ | ((with_reducible refine isK ?_); (first | refine svT F (h := ?_) | refine svF F (h := ?_) | ((refine svB F (fun hc => ?_) (fun hc => ?_)) <;> (try (exact no hc))))) | ((with_reducible refine isD ?_); fail) | with_reducible refine wp_scope_straight ?_ | with_reducible refine wp_label ?_ | go_step))))
      rw [emid] at M
      exact sv_again F M (⟨i + 1, i + 1, nv, out ++ [P]⟩ : SpZ) kpA permsA ⟨by simp only; omega, by simp; omega, by rw [if_neg (by simp only; omega)]; exact q5⟩ (by simp only; omega)
    · obtain ⟨x, hx⟩ : ∃ x, s[i]? = some x := ⟨s[i]'(by omega), by rw [List.getElem?_eq_getElem]⟩
      have hdi := drop_cons hx
      have he2 : ¬ (i : Int) = (s.length : Int) := by omega
      by_cases hxc : x = c
      · subst hxc
        rw [hdi] at hdf
        rw [hdf, split_cut q4] at q5
        (repeat' (first | (refine sx_nil ?_; (try (replace F := F.filt [0, 1, 4, 5, 6, 7, 11, 24] rfl))) | (refine sv1 F M (h := ?_); clear F a; intro a F) | refine pv1 (h := ?_) | (refine sv3 F M (h := ?_); clear M; intro w M) | (refine sv2 F M (h := ?_); clear F M a; intro nb a w F M) | refine pv3 (h := ?_) | (refine pv2 (h := ?_); intro nb) | ((first | refine svC F M (h := ?_) | refine svC0 F M (h := ?_) | refine pvC (h := ?_) | refine pvC0 (h := ?_)); ((refine ac_appendH (f := strL) (xs := out) (ys := [(s.drop f).take (i - f)]) rfl rfl inferInstance rfl rfl pullA inferInstance gsA rfl rfl (by simp; omega) ?_; intro nv)); (first | refine ⟨rvsA, ?_⟩ | (clear F M a; intro a w F M) | (clear M; intro w M))) | (refine svK F (h := ?_); clear F a; intro a F) | refine svK0 F (h := ?_) | ((refine sx_guardb F rfl (fun hg => ?_) (fun hg => ?_)) <;> (rw [hg] at F; (try (exact no hg)))) | (refine pvF (h := ?_); intro nb) | refine pvK (h := ?_) | refine pvK0 (h := ?_) | (refine pv_nil ?_; intro a w F M; (try (replace F := F.filt [0, 1, 4, 5, 6, 7, 11, 24] rfl))) | ((fail_if_success (with_reducible first | refine isW ?_ | refine isP ?_ | refine isL ?_)); (first | with_reducible refine sx_region ?_ | ((with_reducible refine isK ?_); (first | refine svT F (h := ?_) | refine svF F (h := ?_) | ((refine svB F (fun hc => ?_) (fun hc => ?_)) <;> (try (exact no hc))))) | ((with_reducible refine isD ?_); fail) | with_reducible refine wp_scope_straight ?_ | with_reducible refine wp_label ?_ | go_step))))
        rw [emid] at M
        exact sv_again F M (⟨i + 1, i + 1, nv, out ++ [P]⟩ : SpZ) kpA permsA ⟨by simp only; omega, by simp; omega, by rw [if_pos (by simp only; omega)]; exact ⟨Nat.le_refl _, by simp, by simpa using q5⟩⟩ (by simp only; omega)
      · have hne : ¬ ((x.toNat : Int) = (c.toNat : Int)) := fun h => hxc (u8_int.1 h)
        (repeat' (first | (refine sx_nil ?_; (try (replace F := F.filt [0, 1, 4, 5, 6, 7, 11, 24] rfl))) | (refine sv1 F M (h := ?_); clear F a; intro a F) | refine pv1 (h := ?_) | (refine sv3 F M (h := ?_); clear M; intro w M) | (refine sv2 F M (h := ?_); clear F M a; intro nb a w F M) | refine pv3 (h := ?_) | (refine pv2 (h := ?_); intro nb) | ((first | refine svC F M (h := ?_) | refine svC0 F M (h := ?_) | refine pvC (h := ?_) | refine pvC0 (h := ?_)); (fail); (first | refine ⟨rvsA, ?_⟩ | (clear F M a; intro a w F M) | (clear M; intro w M))) | (refine svK F (h := ?_); clear F a; intro a F) | refine svK0 F (h := ?_) | ((refine sx_guardb F rfl (fun hg => ?_) (fun hg => ?_)) <;> (rw [hg] at F; (try (exact no hg)))) | (refine pvF (h := ?_); intro nb) | refine pvK (h := ?_) | refine pvK0 (h := ?_) | (refine pv_nil ?_; intro a w F M; (try (replace F := F.filt [0, 1, 4, 5, 6, 7, 11, 24] rfl))) | ((fail_if_success (with_reducible first | refine isW ?_ | refine isP ?_ | refine isL ?_)); (first | with_reducible refine sx_region ?_ | ((with_reducible refine isK ?_); (first | refine svT F (h := ?_) | refine svF F (h := ?_) | ((refine svB F (fun hc => ?_) (fun hc => ?_)) <;> (try (exact no hc))))) | ((with_reducible refine isD ?_); fail) | with_reducible refine wp_scope_straight ?_ | with_reducible refine wp_label ?_ | go_step))))
        refine sv_again F M (⟨i + 1, f, h, out⟩ : SpZ) kpA permsA ⟨by simp only; omega, by simp only; omega, ?_⟩ (by simp only; omega)
        rw [if_pos (by simp only; omega)]
        refine ⟨by simp only; omega, ?_, q5⟩
        have e2 : (s.drop f).take (i + 1 - f) = P ++ [x] := by
          have hpl : P.length = i - f := by rw [← hP, List.length_take, List.length_drop]; omega
          rw [hdf, hdi, show i + 1 - f = (P ++ [x]).length by rw [List.length_append]; show _ = P.length + 1; omega, show P ++ x :: s.drop (i + 1) = (P ++ [x]) ++ s.drop (i + 1) by rw [List.append_assoc]; rfl]
          exact List.take_left
        rw [e2]
        simp only [List.mem_append, List.mem_cons, List.not_mem_nil, or_false, not_or]
        exact ⟨q4, fun h => hxc h.symm⟩
  · rw [if_neg hi] at q3
    subst q3
    (repeat' (first | (refine sx_nil ?_; (try (replace F := F.filt [0, 1, 4, 5, 6, 7, 11, 24] rfl))) | (refine sv1 F M (h := ?_); clear F a; intro a F) | refine pv1 (h := ?_) | (refine sv3 F M (h := ?_); clear M; intro w M) | (refine sv2 F M (h := ?_); clear F M a; intro nb a w F M) | refine pv3 (h := ?_) | (refine pv2 (h := ?_); intro nb) | ((first | refine svC F M (h := ?_) | refine svC0 F M (h := ?_) | refine pvC (h := ?_) | refine pvC0 (h := ?_)); (fail); (first | refine ⟨rvsA, ?_⟩ | (clear F M a; intro a w F M) | (clear M; intro w M))) | (refine svK F (h := ?_); clear F a; intro a F) | refine svK0 F (h := ?_) | ((refine sx_guardb F rfl (fun hg => ?_) (fun hg => ?_)) <;> (rw [hg] at F; (try (exact no hg)))) | (refine pvF (h := ?_); intro nb) | refine pvK (h := ?_) | refine pvK0 (h := ?_) | (refine pv_nil ?_; intro a w F M; (try (replace F := F.filt [0, 1, 4, 5, 6, 7, 11, 24] rfl))) | ((fail_if_success (with_reducible first | refine isW ?_ | refine isP ?_ | refine isL ?_)); (first | with_reducible refine sx_region ?_ | ((with_reducible refine isK ?_); (first | refine svT F (h := ?_) | refine svF F (h := ?_) | ((refine svB F (fun hc => ?_) (fun hc => ?_)) <;> (try (exact no hc))))) | ((with_reducible refine isD ?_); fail) | with_reducible refine wp_scope_straight ?_ | with_reducible refine wp_label ?_ | go_step))))
    all_goals (first | refine svEnd F M ?_ | refine svRet F M ?_)
    all_goals exact ⟨_, _, rfl, ⟨h, rfl, rfl⟩, M.perms permsA⟩
end Go.Proofs.YtaggjikjohamjaaDoor
end
section
namespace Go.Proofs.YtaggjikjohamjaaDoor
open Go.RowKit Go.Maps
set_option linter.unusedVariables false
set_option maxRecDepth 100000
set_option linter.unusedSimpArgs false
set_option maxHeartbeats 8000000
theorem rparse_spec (s : List UInt8) (hs : s.length ≤ 100000) (R : List Asn) : Spec 13 [str s] R fun u L' => u = .tuple [opV (parsM s), .bool (parsO s).isSome].toArray ∧ L' = R := by
  have hsp := fun R => rsplit_spec s 32 hs R
  have hmem := splitB_mem 32 s
  have hlen := splitB_len 32 s
  have hcl := List.count_le_length (a := (32 : UInt8)) (l := s)
  unfold parsM
  obtain ⟨T, hT⟩ : ∃ T, parsO s = T := ⟨_, rfl⟩
  rw [hT]
  unfold parsO at hT
  generalize splitB 32 s = W at *
  obtain ⟨w0, ws, rfl⟩ : ∃ w0 ws, W = w0 :: ws := by
    cases W with
    | nil => simp at hlen
    | cons a b => exact ⟨a, b, rfl⟩
  have hx0 : (w0 :: ws)[Int.toNat 0]? = some w0 := rfl
  rw [List.head?_cons, Option.getD_some, List.tail_cons] at hT
  have e7 : names7.length = 7 := rfl
  (intro G w M; refine sx_enter (vs := ([str s] : List Value)) Tryd.func13 (n := 83) rfl rfl rfl rfl ?_; intro a F; (try simp only [List.cons_append, List.nil_append] at M))
  (repeat' (first | (refine sx_nil ?_; (try (replace F := F.filt [0, 2, 3, 4, 5, 6, 7, 8, 9, 10, 14, 35, 41, 64, 68, 71, 76] rfl))) | (refine sv1 F M (h := ?_); clear F a; intro a F) | refine pv1 (h := ?_) | (refine sv3 F M (h := ?_); clear M; intro w M) | (refine sv2 F M (h := ?_); clear F M a; intro nb a w F M) | refine pv3 (h := ?_) | (refine pv2 (h := ?_); intro nb) | ((first | refine svC F M (h := ?_) | refine svC0 F M (h := ?_) | refine pvC (h := ?_) | refine pvC0 (h := ?_)); (((refine acW (k := 35) (hsp _) ?_); rintro u L' ⟨h, rfl, rfl⟩)); (first | refine ⟨rvsA, ?_⟩ | (clear F M a; intro a w F M) | (clear M; intro w M))) | (refine svK F (h := ?_); clear F a; intro a F) | refine svK0 F (h := ?_) | ((refine sx_guardb F rfl (fun hg => ?_) (fun hg => ?_)) <;> (rw [hg] at F; (try (exact no hg)))) | (refine pvF (h := ?_); intro nb) | refine pvK (h := ?_) | refine pvK0 (h := ?_) | (refine pv_nil ?_; intro a w F M; (try (replace F := F.filt [0, 2, 3, 4, 5, 6, 7, 8, 9, 10, 14, 35, 41, 64, 68, 71, 76] rfl))) | ((fail_if_success (with_reducible first | refine isW ?_ | refine isP ?_ | refine isL ?_)); (first | with_reducible refine sx_region ?_ | ((with_reducible refine isK ?_); (first | refine svT F (h := ?_) | refine svF F (h := ?_) | ((refine svB F (fun hc => ?_) (fun hc => ?_)) <;> (try (exact no hc))))) | ((with_reducible refine isD ?_); (first | (refine svDraw (id := 6) [0] [] [(0, [1, 2, 5, 6, 7])] [1, 2, 5, 6, 7, 0, 3, 4, 8, 9, 10, 11, 12, 13, 14, 15, 16] F M (h := ?_); clear F M a w))) | with_reducible refine wp_scope_straight ?_ | with_reducible refine wp_label ?_ | go_step))))
  refine svLoop F M (1 : Nat) (fun k => [(5, .int .i64 k)]) (fun _ => []) (fun k => 1 ≤ k ∧ k ≤ 8 ∧ ∀ j : Nat, 1 ≤ j → j < k → ¬ (nameOf j = w0 ∧ ∀ ds, odsOf j = some ds → (w0 :: ws).length = ds.length + 1)) (fun k => 8 - k) [6, 7, 8, 9, 10] ⟨Nat.le_refl _, by omega, fun j h1 h2 => by omega⟩ ?_
  (rintro k ⟨q1, q2, q3⟩ a w F M; (try simp only [List.cons_append, List.nil_append] at F M q1 q2 q3 ⊢))
  by_cases hk : k ≤ 7
  · obtain ⟨ds, hd⟩ : ∃ ds, odsOf (k : Int) = some ds := by
      rcases (by omega : k = 1 ∨ k = 2 ∨ k = 3 ∨ k = 4 ∨ k = 5 ∨ k = 6 ∨ k = 7) with rfl | rfl | rfl | rfl | rfl | rfl | rfl <;> exact ⟨_, rfl⟩
    obtain ⟨hn1, hn2, _⟩ := names7_at (k := (k : Int)) (by omega) (by omega)
    obtain ⟨kn1, _⟩ := kind_name hd
    have hop := fun R => rops_spec (k : Int) R
    rw [(odsS_some hd).1] at hop
    have hml : (ds.map Od.ch).length = ds.length := List.length_map ..
    obtain ⟨hl2, hz⟩ := ods_len hd
    obtain ⟨nm, hnm⟩ : ∃ nm, nameOf (k : Int) = nm := ⟨_, rfl⟩
    rw [hnm] at hn1 hn2 kn1
    by_cases hw : nm = w0
    · have d1 : decide (nm ≠ w0) = false := by simpa using hw
      by_cases hln : (w0 :: ws).length = ds.length + 1
      · have hT2 : opW ds ws (oz k) = T := by
          rw [← hw, kn1] at hT
          simp only [hd] at hT
          rw [hw, if_pos hln] at hT
          exact hT
        have hwl : ws.length = ds.length := by simpa using hln
        have hln2 : ((w0 :: ws).length : Int) = ((ds.map Od.ch).length : Int) + 1 := by rw [hml]; omega
        (repeat' (first | (refine sx_nil ?_; (try (replace F := F.filt [0, 2, 3, 4, 5, 6, 7, 8, 9, 10, 14, 35, 41, 64, 68, 71, 76] rfl))) | (refine sv1 F M (h := ?_); clear F a; intro a F) | refine pv1 (h := ?_) | (refine sv3 F M (h := ?_); clear M; intro w M) | (refine sv2 F M (h := ?_); clear F M a; intro nb a w F M) | refine pv3 (h := ?_) | (refine pv2 (h := ?_); intro nb) | ((first | refine svC F M (h := ?_) | refine svC0 F M (h := ?_) | refine pvC (h := ?_) | refine pvC0 (h := ?_)); ((first | ((refine acW (k := 31) (hop _) ?_); rintro u L' ⟨rfl, rfl⟩) | ((refine acW (k := 30) rnames_spec ?_); rintro u L' ⟨hn, rfl, rfl⟩))); (first | refine ⟨rvsA, ?_⟩ | (clear F M a; intro a w F M) | (clear M; intro w M))) | (refine svK F (h := ?_); clear F a; intro a F) | refine svK0 F (h := ?_) | ((refine sx_guardb F rfl (fun hg => ?_) (fun hg => ?_)) <;> (rw [hg] at F; (try (exact no hg)))) | (refine pvF (h := ?_); intro nb) | refine pvK (h := ?_) | refine pvK0 (h := ?_) | (refine pv_nil ?_; intro a w F M; (try (replace F := F.filt [0, 2, 3, 4, 5, 6, 7, 8, 9, 10, 14, 35, 41, 64, 68, 71, 76] rfl))) | ((fail_if_success (with_reducible first | refine isW ?_ | refine isP ?_ | refine isL ?_)); (first | with_reducible refine sx_region ?_ | ((with_reducible refine isK ?_); (first | refine svT F (h := ?_) | refine svF F (h := ?_) | ((refine svB F (fun hc => ?_) (fun hc => ?_)) <;> (try (exact no hc))))) | ((with_reducible refine isD ?_); (first | (refine svDraw (id := 6) [0] [] [(0, [1, 2, 5, 6, 7])] [1, 2, 5, 6, 7, 0, 3, 4, 8, 9, 10, 11, 12, 13, 14, 15, 16] F M (h := ?_); clear F M a w))) | with_reducible refine wp_scope_straight ?_ | with_reducible refine wp_label ?_ | go_step))))
        rw [d1]
        (repeat' (first | (refine sx_nil ?_; (try (replace F := F.filt [0, 2, 3, 4, 5, 6, 7, 8, 9, 10, 14, 35, 41, 64, 68, 71, 76] rfl))) | (refine sv1 F M (h := ?_); clear F a; intro a F) | refine pv1 (h := ?_) | (refine sv3 F M (h := ?_); clear M; intro w M) | (refine sv2 F M (h := ?_); clear F M a; intro nb a w F M) | refine pv3 (h := ?_) | (refine pv2 (h := ?_); intro nb) | ((first | refine svC F M (h := ?_) | refine svC0 F M (h := ?_) | refine pvC (h := ?_) | refine pvC0 (h := ?_)); ((first | ((refine acW (k := 31) (hop _) ?_); rintro u L' ⟨rfl, rfl⟩) | ((refine acW (k := 30) rnames_spec ?_); rintro u L' ⟨hn, rfl, rfl⟩))); (first | refine ⟨rvsA, ?_⟩ | (clear F M a; intro a w F M) | (clear M; intro w M))) | (refine svK F (h := ?_); clear F a; intro a F) | refine svK0 F (h := ?_) | ((refine sx_guardb F rfl (fun hg => ?_) (fun hg => ?_)) <;> (rw [hg] at F; (try (exact no hg)))) | (refine pvF (h := ?_); intro nb) | refine pvK (h := ?_) | refine pvK0 (h := ?_) | (refine pv_nil ?_; intro a w F M; (try (replace F := F.filt [0, 2, 3, 4, 5, 6, 7, 8, 9, 10, 14, 35, 41, 64, 68, 71, 76] rfl))) | ((fail_if_success (with_reducible first | refine isW ?_ | refine isP ?_ | refine isL ?_)); (first | with_reducible refine sx_region ?_ | ((with_reducible refine isK ?_); (first | refine svT F (h := ?_) | refine svF F (h := ?_) | ((refine svB F (fun hc => ?_) (fun hc => ?_)) <;> (try (exact no hc))))) | ((with_reducible refine isD ?_); (first | (refine svDraw (id := 6) [0] [] [(0, [1, 2, 5, 6, 7])] [1, 2, 5, 6, 7, 0, 3, 4, 8, 9, 10, 11, 12, 13, 14, 15, 16] F M (h := ?_); clear F M a w))) | with_reducible refine wp_scope_straight ?_ | with_reducible refine wp_label ?_ | go_step))))
        obtain ⟨b7, hb7⟩ : ∃ b7, b7 = nb := ⟨_, rfl⟩
        rw [← hb7] at F M
        refine svLoop F M ((0, oz k) : Nat × Opn) (fun z => [(8, .int .i64 z.1)]) (fun z => [pt b7 (opL z.2) 24]) (fun z => z.1 ≤ ds.length ∧ opW (ds.drop z.1) (ws.drop z.1) z.2 = T) (fun z => ds.length - z.1) [9, 10] ⟨Nat.zero_le _, hT2⟩ ?_ (hR := by (repeat (first | exact Pulls.nil | (apply Pulls.cons; (focus ((repeat (first | exact Pull.here | apply Pull.there)); done))))))
        (rintro ⟨j, p⟩ ⟨p1, p2⟩ a w F M; (try simp only [List.cons_append, List.nil_append] at F M p1 p2 ⊢))
        by_cases hj : j < ds.length
        · obtain ⟨d, hdj⟩ : ∃ d, ds[j]? = some d := ⟨ds[j], by simp [hj]⟩
          obtain ⟨x, hxj⟩ : ∃ x, ws[j]? = some x := ⟨ws[j]'(by omega), by rw [List.getElem?_eq_getElem]⟩
          have hxj2 : (w0 :: ws)[((j : Int) + 1).toNat]? = some x := by rw [show ((j : Int) + 1).toNat = j + 1 by omega]; exact hxj
          have hch : (ds.map Od.ch)[j]? = some d.ch := by rw [List.getElem?_map, hdj]; rfl
          have hxl := hmem x (List.mem_cons_of_mem _ (List.mem_of_getElem? hxj))
          have hgp : ∀ {L : List Asn}, Reads 36 [str x] (.tuple [.int .u64 ((pU x).getD 0 : Nat), .bool (pU x).isSome].toArray) L := rparse_reads x (by omega)
          rw [drop_cons hdj, drop_cons hxj, opW, List.head?_cons, Option.getD_some, List.tail_cons] at p2
          cases hu : pU x with
          | none =>
            rw [hu] at hgp p2
            simp only at p2
            subst p2
            simp only [Option.getD_none, Option.isSome_none] at hgp
            (repeat' (first | (refine sx_nil ?_; (try (replace F := F.filt [0, 2, 3, 4, 5, 6, 7, 8, 9, 10, 14, 35, 41, 64, 68, 71, 76] rfl))) | (refine sv1 F M (h := ?_); clear F a; intro a F) | refine pv1 (h := ?_) | (refine sv3 F M (h := ?_); clear M; intro w M) | (refine sv2 F M (h := ?_); clear F M a; intro nb a w F M) | refine pv3 (h := ?_) | (refine pv2 (h := ?_); intro nb) | ((first | refine svC F M (h := ?_) | refine svC0 F M (h := ?_) | refine pvC (h := ?_) | refine pvC0 (h := ?_)); (((refine acCall (k := 36) ?_); (refine Spec.of_reads hgp rfl ?_))); (first | refine ⟨rvsA, ?_⟩ | (clear F M a; intro a w F M) | (clear M; intro w M))) | (refine svK F (h := ?_); clear F a; intro a F) | refine svK0 F (h := ?_) | ((refine sx_guardb F rfl (fun hg => ?_) (fun hg => ?_)) <;> (rw [hg] at F; (try (exact no hg)))) | (refine pvF (h := ?_); intro nb) | refine pvK (h := ?_) | refine pvK0 (h := ?_) | (refine pv_nil ?_; intro a w F M; (try (replace F := F.filt [0, 2, 3, 4, 5, 6, 7, 8, 9, 10, 14, 35, 41, 64, 68, 71, 76] rfl))) | ((fail_if_success (with_reducible first | refine isW ?_ | refine isP ?_ | refine isL ?_)); (first | with_reducible refine sx_region ?_ | ((with_reducible refine isK ?_); (first | refine svT F (h := ?_) | refine svF F (h := ?_) | ((refine svB F (fun hc => ?_) (fun hc => ?_)) <;> (try (exact no hc))))) | ((with_reducible refine isD ?_); (first | (refine svDraw (id := 6) [0] [] [(0, [1, 2, 5, 6, 7])] [1, 2, 5, 6, 7, 0, 3, 4, 8, 9, 10, 11, 12, 13, 14, 15, 16] F M (h := ?_); clear F M a w))) | with_reducible refine wp_scope_straight ?_ | with_reducible refine wp_label ?_ | go_step))))
            all_goals (first | refine svEnd F M ?_ | refine svRet F M ?_)
            all_goals exact ⟨_, _, rfl, ⟨rfl, rfl⟩, M.perms permsA⟩
          | some u =>
            have hu2 := (pU_lt hu).1
            rw [hu] at hgp p2
            simp only [Option.getD_some, Option.isSome_some] at hgp p2
            obtain ⟨pk, pi, pt', pa⟩ := p
            have d97 : ∀ x : Od, decide (((Od.ch x).toNat : Int) ≠ 97) = decide (x ≠ .a) := fun x => by cases x <;> decide
            cases d
            · have dA : decide (((Od.ch .i).toNat : Int) ≠ 97) = true := by decide
              by_cases h6 : 65535 < u
              · rw [if_pos ⟨by decide, h6⟩] at p2
                subst p2
                have h6' : (65535 : Int) < (u : Int) := by omega
                (repeat' (first | (refine sx_nil ?_; (try (replace F := F.filt [0, 2, 3, 4, 5, 6, 7, 8, 9, 10, 14, 35, 41, 64, 68, 71, 76] rfl))) | (refine sv1 F M (h := ?_); clear F a; intro a F) | refine pv1 (h := ?_) | (refine sv3 F M (h := ?_); clear M; intro w M) | (refine sv2 F M (h := ?_); clear F M a; intro nb a w F M) | refine pv3 (h := ?_) | (refine pv2 (h := ?_); intro nb) | ((first | refine svC F M (h := ?_) | refine svC0 F M (h := ?_) | refine pvC (h := ?_) | refine pvC0 (h := ?_)); (((refine acCall (k := 36) ?_); (refine Spec.of_reads hgp rfl ?_))); (first | refine ⟨rvsA, ?_⟩ | (clear F M a; intro a w F M) | (clear M; intro w M))) | (refine svK F (h := ?_); clear F a; intro a F) | refine svK0 F (h := ?_) | ((refine sx_guardb F rfl (fun hg => ?_) (fun hg => ?_)) <;> (rw [hg] at F; (try (exact no hg)))) | (refine pvF (h := ?_); intro nb) | refine pvK (h := ?_) | refine pvK0 (h := ?_) | (refine pv_nil ?_; intro a w F M; (try (replace F := F.filt [0, 2, 3, 4, 5, 6, 7, 8, 9, 10, 14, 35, 41, 64, 68, 71, 76] rfl))) | ((fail_if_success (with_reducible first | refine isW ?_ | refine isP ?_ | refine isL ?_)); (first | with_reducible refine sx_region ?_ | ((with_reducible refine isK ?_); (first | refine svT F (h := ?_) | refine svF F (h := ?_) | ((refine svB F (fun hc => ?_) (fun hc => ?_)) <;> (try (exact no hc))))) | ((with_reducible refine isD ?_); (first | (refine svDraw (id := 6) [0] [] [(0, [1, 2, 5, 6, 7])] [1, 2, 5, 6, 7, 0, 3, 4, 8, 9, 10, 11, 12, 13, 14, 15, 16] F M (h := ?_); clear F M a w))) | with_reducible refine wp_scope_straight ?_ | with_reducible refine wp_label ?_ | go_step))))
                all_goals (try rw [dA])
                all_goals (repeat' (first | (refine sx_nil ?_; (try (replace F := F.filt [0, 2, 3, 4, 5, 6, 7, 8, 9, 10, 14, 35, 41, 64, 68, 71, 76] rfl))) | (refine sv1 F M (h := ?_); clear F a; intro a F) | refine pv1 (h := ?_) | (refine sv3 F M (h := ?_); clear M; intro w M) | (refine sv2 F M (h := ?_); clear F M a; intro nb a w F M) | refine pv3 (h := ?_) | (refine pv2 (h := ?_); intro nb) | ((first | refine svC F M (h := ?_) | refine svC0 F M (h := ?_) | refine pvC (h := ?_) | refine pvC0 (h := ?_)); (((refine acCall (k := 36) ?_); (refine Spec.of_reads hgp rfl ?_))); (first | refine ⟨rvsA, ?_⟩ | (clear F M a; intro a w F M) | (clear M; intro w M))) | (refine svK F (h := ?_); clear F a; intro a F) | refine svK0 F (h := ?_) | ((refine sx_guardb F rfl (fun hg => ?_) (fun hg => ?_)) <;> (rw [hg] at F; (try (exact no hg)))) | (refine pvF (h := ?_); intro nb) | refine pvK (h := ?_) | refine pvK0 (h := ?_) | (refine pv_nil ?_; intro a w F M; (try (replace F := F.filt [0, 2, 3, 4, 5, 6, 7, 8, 9, 10, 14, 35, 41, 64, 68, 71, 76] rfl))) | ((fail_if_success (with_reducible first | refine isW ?_ | refine isP ?_ | refine isL ?_)); (first | with_reducible refine sx_region ?_ | ((with_reducible refine isK ?_); (first | refine svT F (h := ?_) | refine svF F (h := ?_) | ((refine svB F (fun hc => ?_) (fun hc => ?_)) <;> (try (exact no hc))))) | ((with_reducible refine isD ?_); (first | (refine svDraw (id := 6) [0] [] [(0, [1, 2, 5, 6, 7])] [1, 2, 5, 6, 7, 0, 3, 4, 8, 9, 10, 11, 12, 13, 14, 15, 16] F M (h := ?_); clear F M a w))) | with_reducible refine wp_scope_straight ?_ | with_reducible refine wp_label ?_ | go_step))))
                all_goals (first | refine svEnd F M ?_ | refine svRet F M ?_)
                all_goals exact ⟨_, _, rfl, ⟨rfl, rfl⟩, M.perms permsA⟩
              · rw [if_neg (fun h => h6 h.2)] at p2
                have h6' : ¬ (65535 : Int) < (u : Int) := by omega
                have hcv : IntKind.i64.wrap (u : Int) = (u : Int) := IntWalk.i64_in _ ⟨by omega, by omega⟩
                (repeat' (first | ((first | refine sv1 F M (h := ?_) (hr := by ((apply rt_conv; (exact rfl); (exact rfl); (exact inferInstance); (exact inferInstance); (exact hcv)))) | refine pv1 (h := ?_) (hr := by ((apply rt_conv; (exact rfl); (exact rfl); (exact inferInstance); (exact inferInstance); (exact hcv))))); (try (clear F a; intro a F))) | (refine sx_nil ?_; (try (replace F := F.filt [0, 2, 3, 4, 5, 6, 7, 8, 9, 10, 14, 35, 41, 64, 68, 71, 76] rfl))) | (refine sv1 F M (h := ?_); clear F a; intro a F) | refine pv1 (h := ?_) | (refine sv3 F M (h := ?_); clear M; intro w M) | (refine sv2 F M (h := ?_); clear F M a; intro nb a w F M) | refine pv3 (h := ?_) | (refine pv2 (h := ?_); intro nb) | ((first | refine svC F M (h := ?_) | refine svC0 F M (h := ?_) | refine pvC (h := ?_) | refine pvC0 (h := ?_)); (((refine acCall (k := 36) ?_); (refine Spec.of_reads hgp rfl ?_))); (first | refine ⟨rvsA, ?_⟩ | (clear F M a; intro a w F M) | (clear M; intro w M))) | (refine svK F (h := ?_); clear F a; intro a F) | refine svK0 F (h := ?_) | ((refine sx_guardb F rfl (fun hg => ?_) (fun hg => ?_)) <;> (rw [hg] at F; (try (exact no hg)))) | (refine pvF (h := ?_); intro nb) | refine pvK (h := ?_) | refine pvK0 (h := ?_) | (refine pv_nil ?_; intro a w F M; (try (replace F := F.filt [0, 2, 3, 4, 5, 6, 7, 8, 9, 10, 14, 35, 41, 64, 68, 71, 76] rfl))) | ((fail_if_success (with_reducible first | refine isW ?_ | refine isP ?_ | refine isL ?_)); (first | with_reducible refine sx_region ?_ | ((with_reducible refine isK ?_); (first | refine svT F (h := ?_) | refine svF F (h := ?_) | ((refine svB F (fun hc => ?_) (fun hc => ?_)) <;> (try (exact no hc))))) | ((with_reducible refine isD ?_); (first | (refine svDraw (id := 6) [0] [] [(0, [1, 2, 5, 6, 7])] [1, 2, 5, 6, 7, 0, 3, 4, 8, 9, 10, 11, 12, 13, 14, 15, 16] F M (h := ?_); clear F M a w))) | with_reducible refine wp_scope_straight ?_ | with_reducible refine wp_label ?_ | go_step))))
                all_goals (try rw [dA])
                all_goals (repeat' (first | ((first | refine sv1 F M (h := ?_) (hr := by ((apply rt_conv; (exact rfl); (exact rfl); (exact inferInstance); (exact inferInstance); (exact hcv)))) | refine pv1 (h := ?_) (hr := by ((apply rt_conv; (exact rfl); (exact rfl); (exact inferInstance); (exact inferInstance); (exact hcv))))); (try (clear F a; intro a F))) | (refine sx_nil ?_; (try (replace F := F.filt [0, 2, 3, 4, 5, 6, 7, 8, 9, 10, 14, 35, 41, 64, 68, 71, 76] rfl))) | (refine sv1 F M (h := ?_); clear F a; intro a F) | refine pv1 (h := ?_) | (refine sv3 F M (h := ?_); clear M; intro w M) | (refine sv2 F M (h := ?_); clear F M a; intro nb a w F M) | refine pv3 (h := ?_) | (refine pv2 (h := ?_); intro nb) | ((first | refine svC F M (h := ?_) | refine svC0 F M (h := ?_) | refine pvC (h := ?_) | refine pvC0 (h := ?_)); (((refine acCall (k := 36) ?_); (refine Spec.of_reads hgp rfl ?_))); (first | refine ⟨rvsA, ?_⟩ | (clear F M a; intro a w F M) | (clear M; intro w M))) | (refine svK F (h := ?_); clear F a; intro a F) | refine svK0 F (h := ?_) | ((refine sx_guardb F rfl (fun hg => ?_) (fun hg => ?_)) <;> (rw [hg] at F; (try (exact no hg)))) | (refine pvF (h := ?_); intro nb) | refine pvK (h := ?_) | refine pvK0 (h := ?_) | (refine pv_nil ?_; intro a w F M; (try (replace F := F.filt [0, 2, 3, 4, 5, 6, 7, 8, 9, 10, 14, 35, 41, 64, 68, 71, 76] rfl))) | ((fail_if_success (with_reducible first | refine isW ?_ | refine isP ?_ | refine isL ?_)); (first | with_reducible refine sx_region ?_ | ((with_reducible refine isK ?_); (first | refine svT F (h := ?_) | refine svF F (h := ?_) | ((refine svB F (fun hc => ?_) (fun hc => ?_)) <;> (try (exact no hc))))) | ((with_reducible refine isD ?_); (first | (refine svDraw (id := 6) [0] [] [(0, [1, 2, 5, 6, 7])] [1, 2, 5, 6, 7, 0, 3, 4, 8, 9, 10, 11, 12, 13, 14, 15, 16] F M (h := ?_); clear F M a w))) | with_reducible refine wp_scope_straight ?_ | with_reducible refine wp_label ?_ | go_step))))
                exact sv_again F M ((j + 1, ⟨pk, u, pt', pa⟩) : Nat × Opn) kpA permsA ⟨by simp only; omega, p2⟩ (by simp only; omega)
            · have dA : decide (((Od.ch .t).toNat : Int) ≠ 97) = true := by decide
              by_cases h6 : 65535 < u
              · rw [if_pos ⟨by decide, h6⟩] at p2
                subst p2
                have h6' : (65535 : Int) < (u : Int) := by omega
                (repeat' (first | (refine sx_nil ?_; (try (replace F := F.filt [0, 2, 3, 4, 5, 6, 7, 8, 9, 10, 14, 35, 41, 64, 68, 71, 76] rfl))) | (refine sv1 F M (h := ?_); clear F a; intro a F) | refine pv1 (h := ?_) | (refine sv3 F M (h := ?_); clear M; intro w M) | (refine sv2 F M (h := ?_); clear F M a; intro nb a w F M) | refine pv3 (h := ?_) | (refine pv2 (h := ?_); intro nb) | ((first | refine svC F M (h := ?_) | refine svC0 F M (h := ?_) | refine pvC (h := ?_) | refine pvC0 (h := ?_)); (((refine acCall (k := 36) ?_); (refine Spec.of_reads hgp rfl ?_))); (first | refine ⟨rvsA, ?_⟩ | (clear F M a; intro a w F M) | (clear M; intro w M))) | (refine svK F (h := ?_); clear F a; intro a F) | refine svK0 F (h := ?_) | ((refine sx_guardb F rfl (fun hg => ?_) (fun hg => ?_)) <;> (rw [hg] at F; (try (exact no hg)))) | (refine pvF (h := ?_); intro nb) | refine pvK (h := ?_) | refine pvK0 (h := ?_) | (refine pv_nil ?_; intro a w F M; (try (replace F := F.filt [0, 2, 3, 4, 5, 6, 7, 8, 9, 10, 14, 35, 41, 64, 68, 71, 76] rfl))) | ((fail_if_success (with_reducible first | refine isW ?_ | refine isP ?_ | refine isL ?_)); (first | with_reducible refine sx_region ?_ | ((with_reducible refine isK ?_); (first | refine svT F (h := ?_) | refine svF F (h := ?_) | ((refine svB F (fun hc => ?_) (fun hc => ?_)) <;> (try (exact no hc))))) | ((with_reducible refine isD ?_); (first | (refine svDraw (id := 6) [0] [] [(0, [1, 2, 5, 6, 7])] [1, 2, 5, 6, 7, 0, 3, 4, 8, 9, 10, 11, 12, 13, 14, 15, 16] F M (h := ?_); clear F M a w))) | with_reducible refine wp_scope_straight ?_ | with_reducible refine wp_label ?_ | go_step))))
                all_goals (try rw [dA])
                all_goals (repeat' (first | (refine sx_nil ?_; (try (replace F := F.filt [0, 2, 3, 4, 5, 6, 7, 8, 9, 10, 14, 35, 41, 64, 68, 71, 76] rfl))) | (refine sv1 F M (h := ?_); clear F a; intro a F) | refine pv1 (h := ?_) | (refine sv3 F M (h := ?_); clear M; intro w M) | (refine sv2 F M (h := ?_); clear F M a; intro nb a w F M) | refine pv3 (h := ?_) | (refine pv2 (h := ?_); intro nb) | ((first | refine svC F M (h := ?_) | refine svC0 F M (h := ?_) | refine pvC (h := ?_) | refine pvC0 (h := ?_)); (((refine acCall (k := 36) ?_); (refine Spec.of_reads hgp rfl ?_))); (first | refine ⟨rvsA, ?_⟩ | (clear F M a; intro a w F M) | (clear M; intro w M))) | (refine svK F (h := ?_); clear F a; intro a F) | refine svK0 F (h := ?_) | ((refine sx_guardb F rfl (fun hg => ?_) (fun hg => ?_)) <;> (rw [hg] at F; (try (exact no hg)))) | (refine pvF (h := ?_); intro nb) | refine pvK (h := ?_) | refine pvK0 (h := ?_) | (refine pv_nil ?_; intro a w F M; (try (replace F := F.filt [0, 2, 3, 4, 5, 6, 7, 8, 9, 10, 14, 35, 41, 64, 68, 71, 76] rfl))) | ((fail_if_success (with_reducible first | refine isW ?_ | refine isP ?_ | refine isL ?_)); (first | with_reducible refine sx_region ?_ | ((with_reducible refine isK ?_); (first | refine svT F (h := ?_) | refine svF F (h := ?_) | ((refine svB F (fun hc => ?_) (fun hc => ?_)) <;> (try (exact no hc))))) | ((with_reducible refine isD ?_); (first | (refine svDraw (id := 6) [0] [] [(0, [1, 2, 5, 6, 7])] [1, 2, 5, 6, 7, 0, 3, 4, 8, 9, 10, 11, 12, 13, 14, 15, 16] F M (h := ?_); clear F M a w))) | with_reducible refine wp_scope_straight ?_ | with_reducible refine wp_label ?_ | go_step))))
                all_goals (first | refine svEnd F M ?_ | refine svRet F M ?_)
                all_goals exact ⟨_, _, rfl, ⟨rfl, rfl⟩, M.perms permsA⟩
              · rw [if_neg (fun h => h6 h.2)] at p2
                have h6' : ¬ (65535 : Int) < (u : Int) := by omega
                have hcv : IntKind.i64.wrap (u : Int) = (u : Int) := IntWalk.i64_in _ ⟨by omega, by omega⟩
                (repeat' (first | ((first | refine sv1 F M (h := ?_) (hr := by ((apply rt_conv; (exact rfl); (exact rfl); (exact inferInstance); (exact inferInstance); (exact hcv)))) | refine pv1 (h := ?_) (hr := by ((apply rt_conv; (exact rfl); (exact rfl); (exact inferInstance); (exact inferInstance); (exact hcv))))); (try (clear F a; intro a F))) | (refine sx_nil ?_; (try (replace F := F.filt [0, 2, 3, 4, 5, 6, 7, 8, 9, 10, 14, 35, 41, 64, 68, 71, 76] rfl))) | (refine sv1 F M (h := ?_); clear F a; intro a F) | refine pv1 (h := ?_) | (refine sv3 F M (h := ?_); clear M; intro w M) | (refine sv2 F M (h := ?_); clear F M a; intro nb a w F M) | refine pv3 (h := ?_) | (refine pv2 (h := ?_); intro nb) | ((first | refine svC F M (h := ?_) | refine svC0 F M (h := ?_) | refine pvC (h := ?_) | refine pvC0 (h := ?_)); (((refine acCall (k := 36) ?_); (refine Spec.of_reads hgp rfl ?_))); (first | refine ⟨rvsA, ?_⟩ | (clear F M a; intro a w F M) | (clear M; intro w M))) | (refine svK F (h := ?_); clear F a; intro a F) | refine svK0 F (h := ?_) | ((refine sx_guardb F rfl (fun hg => ?_) (fun hg => ?_)) <;> (rw [hg] at F; (try (exact no hg)))) | (refine pvF (h := ?_); intro nb) | refine pvK (h := ?_) | refine pvK0 (h := ?_) | (refine pv_nil ?_; intro a w F M; (try (replace F := F.filt [0, 2, 3, 4, 5, 6, 7, 8, 9, 10, 14, 35, 41, 64, 68, 71, 76] rfl))) | ((fail_if_success (with_reducible first | refine isW ?_ | refine isP ?_ | refine isL ?_)); (first | with_reducible refine sx_region ?_ | ((with_reducible refine isK ?_); (first | refine svT F (h := ?_) | refine svF F (h := ?_) | ((refine svB F (fun hc => ?_) (fun hc => ?_)) <;> (try (exact no hc))))) | ((with_reducible refine isD ?_); (first | (refine svDraw (id := 6) [0] [] [(0, [1, 2, 5, 6, 7])] [1, 2, 5, 6, 7, 0, 3, 4, 8, 9, 10, 11, 12, 13, 14, 15, 16] F M (h := ?_); clear F M a w))) | with_reducible refine wp_scope_straight ?_ | with_reducible refine wp_label ?_ | go_step))))
                all_goals (try rw [dA])
                all_goals (repeat' (first | ((first | refine sv1 F M (h := ?_) (hr := by ((apply rt_conv; (exact rfl); (exact rfl); (exact inferInstance); (exact inferInstance); (exact hcv)))) | refine pv1 (h := ?_) (hr := by ((apply rt_conv; (exact rfl); (exact rfl); (exact inferInstance); (exact inferInstance); (exact hcv))))); (try (clear F a; intro a F))) | (refine sx_nil ?_; (try (replace F := F.filt [0, 2, 3, 4, 5, 6, 7, 8, 9, 10, 14, 35, 41, 64, 68, 71, 76] rfl))) | (refine sv1 F M (h := ?_); clear F a; intro a F) | refine pv1 (h := ?_) | (refine sv3 F M (h := ?_); clear M; intro w M) | (refine sv2 F M (h := ?_); clear F M a; intro nb a w F M) | refine pv3 (h := ?_) | (refine pv2 (h := ?_); intro nb) | ((first | refine svC F M (h := ?_) | refine svC0 F M (h := ?_) | refine pvC (h := ?_) | refine pvC0 (h := ?_)); (((refine acCall (k := 36) ?_); (refine Spec.of_reads hgp rfl ?_))); (first | refine ⟨rvsA, ?_⟩ | (clear F M a; intro a w F M) | (clear M; intro w M))) | (refine svK F (h := ?_); clear F a; intro a F) | refine svK0 F (h := ?_) | ((refine sx_guardb F rfl (fun hg => ?_) (fun hg => ?_)) <;> (rw [hg] at F; (try (exact no hg)))) | (refine pvF (h := ?_); intro nb) | refine pvK (h := ?_) | refine pvK0 (h := ?_) | (refine pv_nil ?_; intro a w F M; (try (replace F := F.filt [0, 2, 3, 4, 5, 6, 7, 8, 9, 10, 14, 35, 41, 64, 68, 71, 76] rfl))) | ((fail_if_success (with_reducible first | refine isW ?_ | refine isP ?_ | refine isL ?_)); (first | with_reducible refine sx_region ?_ | ((with_reducible refine isK ?_); (first | refine svT F (h := ?_) | refine svF F (h := ?_) | ((refine svB F (fun hc => ?_) (fun hc => ?_)) <;> (try (exact no hc))))) | ((with_reducible refine isD ?_); (first | (refine svDraw (id := 6) [0] [] [(0, [1, 2, 5, 6, 7])] [1, 2, 5, 6, 7, 0, 3, 4, 8, 9, 10, 11, 12, 13, 14, 15, 16] F M (h := ?_); clear F M a w))) | with_reducible refine wp_scope_straight ?_ | with_reducible refine wp_label ?_ | go_step))))
                exact sv_again F M ((j + 1, ⟨pk, pi, u, pa⟩) : Nat × Opn) kpA permsA ⟨by simp only; omega, p2⟩ (by simp only; omega)
            · rw [if_neg (fun h => h.1 rfl)] at p2
              have dA : decide (((Od.ch .a).toNat : Int) ≠ 97) = false := by decide
              (repeat' (first | (refine sx_nil ?_; (try (replace F := F.filt [0, 2, 3, 4, 5, 6, 7, 8, 9, 10, 14, 35, 41, 64, 68, 71, 76] rfl))) | (refine sv1 F M (h := ?_); clear F a; intro a F) | refine pv1 (h := ?_) | (refine sv3 F M (h := ?_); clear M; intro w M) | (refine sv2 F M (h := ?_); clear F M a; intro nb a w F M) | refine pv3 (h := ?_) | (refine pv2 (h := ?_); intro nb) | ((first | refine svC F M (h := ?_) | refine svC0 F M (h := ?_) | refine pvC (h := ?_) | refine pvC0 (h := ?_)); (((refine acCall (k := 36) ?_); (refine Spec.of_reads hgp rfl ?_))); (first | refine ⟨rvsA, ?_⟩ | (clear F M a; intro a w F M) | (clear M; intro w M))) | (refine svK F (h := ?_); clear F a; intro a F) | refine svK0 F (h := ?_) | ((refine sx_guardb F rfl (fun hg => ?_) (fun hg => ?_)) <;> (rw [hg] at F; (try (exact no hg)))) | (refine pvF (h := ?_); intro nb) | refine pvK (h := ?_) | refine pvK0 (h := ?_) | (refine pv_nil ?_; intro a w F M; (try (replace F := F.filt [0, 2, 3, 4, 5, 6, 7, 8, 9, 10, 14, 35, 41, 64, 68, 71, 76] rfl))) | ((fail_if_success (with_reducible first | refine isW ?_ | refine isP ?_ | refine isL ?_)); (first | with_reducible refine sx_region ?_ | ((with_reducible refine isK ?_); (first | refine svT F (h := ?_) | refine svF F (h := ?_) | ((refine svB F (fun hc => ?_) (fun hc => ?_)) <;> (try (exact no hc))))) | ((with_reducible refine isD ?_); (first | (refine svDraw (id := 6) [0] [] [(0, [1, 2, 5, 6, 7])] [1, 2, 5, 6, 7, 0, 3, 4, 8, 9, 10, 11, 12, 13, 14, 15, 16] F M (h := ?_); clear F M a w))) | with_reducible refine wp_scope_straight ?_ | with_reducible refine wp_label ?_ | go_step))))
              all_goals (try rw [dA])
              all_goals (repeat' (first | (refine sx_nil ?_; (try (replace F := F.filt [0, 2, 3, 4, 5, 6, 7, 8, 9, 10, 14, 35, 41, 64, 68, 71, 76] rfl))) | (refine sv1 F M (h := ?_); clear F a; intro a F) | refine pv1 (h := ?_) | (refine sv3 F M (h := ?_); clear M; intro w M) | (refine sv2 F M (h := ?_); clear F M a; intro nb a w F M) | refine pv3 (h := ?_) | (refine pv2 (h := ?_); intro nb) | ((first | refine svC F M (h := ?_) | refine svC0 F M (h := ?_) | refine pvC (h := ?_) | refine pvC0 (h := ?_)); (((refine acCall (k := 36) ?_); (refine Spec.of_reads hgp rfl ?_))); (first | refine ⟨rvsA, ?_⟩ | (clear F M a; intro a w F M) | (clear M; intro w M))) | (refine svK F (h := ?_); clear F a; intro a F) | refine svK0 F (h := ?_) | ((refine sx_guardb F rfl (fun hg => ?_) (fun hg => ?_)) <;> (rw [hg] at F; (try (exact no hg)))) | (refine pvF (h := ?_); intro nb) | refine pvK (h := ?_) | refine pvK0 (h := ?_) | (refine pv_nil ?_; intro a w F M; (try (replace F := F.filt [0, 2, 3, 4, 5, 6, 7, 8, 9, 10, 14, 35, 41, 64, 68, 71, 76] rfl))) | ((fail_if_success (with_reducible first | refine isW ?_ | refine isP ?_ | refine isL ?_)); (first | with_reducible refine sx_region ?_ | ((with_reducible refine isK ?_); (first | refine svT F (h := ?_) | refine svF F (h := ?_) | ((refine svB F (fun hc => ?_) (fun hc => ?_)) <;> (try (exact no hc))))) | ((with_reducible refine isD ?_); (first | (refine svDraw (id := 6) [0] [] [(0, [1, 2, 5, 6, 7])] [1, 2, 5, 6, 7, 0, 3, 4, 8, 9, 10, 11, 12, 13, 14, 15, 16] F M (h := ?_); clear F M a w))) | with_reducible refine wp_scope_straight ?_ | with_reducible refine wp_label ?_ | go_step))))
              exact sv_again F M ((j + 1, ⟨pk, pi, pt', u⟩) : Nat × Opn) kpA permsA ⟨by simp only; omega, p2⟩ (by simp only; omega)
        · obtain rfl : j = ds.length := by omega
          rw [List.drop_length, opW] at p2
          subst p2
          (repeat' (first | (refine sx_nil ?_; (try (replace F := F.filt [0, 2, 3, 4, 5, 6, 7, 8, 9, 10, 14, 35, 41, 64, 68, 71, 76] rfl))) | (refine sv1 F M (h := ?_); clear F a; intro a F) | refine pv1 (h := ?_) | (refine sv3 F M (h := ?_); clear M; intro w M) | (refine sv2 F M (h := ?_); clear F M a; intro nb a w F M) | refine pv3 (h := ?_) | (refine pv2 (h := ?_); intro nb) | ((first | refine svC F M (h := ?_) | refine svC0 F M (h := ?_) | refine pvC (h := ?_) | refine pvC0 (h := ?_)); (fail); (first | refine ⟨rvsA, ?_⟩ | (clear F M a; intro a w F M) | (clear M; intro w M))) | (refine svK F (h := ?_); clear F a; intro a F) | refine svK0 F (h := ?_) | ((refine sx_guardb F rfl (fun hg => ?_) (fun hg => ?_)) <;> (rw [hg] at F; (try (exact no hg)))) | (refine pvF (h := ?_); intro nb) | refine pvK (h := ?_) | refine pvK0 (h := ?_) | (refine pv_nil ?_; intro a w F M; (try (replace F := F.filt [0, 2, 3, 4, 5, 6, 7, 8, 9, 10, 14, 35, 41, 64, 68, 71, 76] rfl))) | ((fail_if_success (with_reducible first | refine isW ?_ | refine isP ?_ | refine isL ?_)); (first | with_reducible refine sx_region ?_ | ((with_reducible refine isK ?_); (first | refine svT F (h := ?_) | refine svF F (h := ?_) | ((refine svB F (fun hc => ?_) (fun hc => ?_)) <;> (try (exact no hc))))) | ((with_reducible refine isD ?_); (first | (refine svDraw (id := 6) [0] [] [(0, [1, 2, 5, 6, 7])] [1, 2, 5, 6, 7, 0, 3, 4, 8, 9, 10, 11, 12, 13, 14, 15, 16] F M (h := ?_); clear F M a w))) | with_reducible refine wp_scope_straight ?_ | with_reducible refine wp_label ?_ | go_step))))
          all_goals (first | refine svEnd F M ?_ | refine svRet F M ?_)
          all_goals exact ⟨_, _, rfl, ⟨rfl, rfl⟩, M.perms permsA⟩
      · have hln2 : ¬ ((w0 :: ws).length : Int) = ((ds.map Od.ch).length : Int) + 1 := by rw [hml]; omega
        (repeat' (first | (refine sx_nil ?_; (try (replace F := F.filt [0, 2, 3, 4, 5, 6, 7, 8, 9, 10, 14, 35, 41, 64, 68, 71, 76] rfl))) | (refine sv1 F M (h := ?_); clear F a; intro a F) | refine pv1 (h := ?_) | (refine sv3 F M (h := ?_); clear M; intro w M) | (refine sv2 F M (h := ?_); clear F M a; intro nb a w F M) | refine pv3 (h := ?_) | (refine pv2 (h := ?_); intro nb) | ((first | refine svC F M (h := ?_) | refine svC0 F M (h := ?_) | refine pvC (h := ?_) | refine pvC0 (h := ?_)); ((first | ((refine acW (k := 31) (hop _) ?_); rintro u L' ⟨rfl, rfl⟩) | ((refine acW (k := 30) rnames_spec ?_); rintro u L' ⟨hn, rfl, rfl⟩))); (first | refine ⟨rvsA, ?_⟩ | (clear F M a; intro a w F M) | (clear M; intro w M))) | (refine svK F (h := ?_); clear F a; intro a F) | refine svK0 F (h := ?_) | ((refine sx_guardb F rfl (fun hg => ?_) (fun hg => ?_)) <;> (rw [hg] at F; (try (exact no hg)))) | (refine pvF (h := ?_); intro nb) | refine pvK (h := ?_) | refine pvK0 (h := ?_) | (refine pv_nil ?_; intro a w F M; (try (replace F := F.filt [0, 2, 3, 4, 5, 6, 7, 8, 9, 10, 14, 35, 41, 64, 68, 71, 76] rfl))) | ((fail_if_success (with_reducible first | refine isW ?_ | refine isP ?_ | refine isL ?_)); (first | with_reducible refine sx_region ?_ | ((with_reducible refine isK ?_); (first | refine svT F (h := ?_) | refine svF F (h := ?_) | ((refine svB F (fun hc => ?_) (fun hc => ?_)) <;> (try (exact no hc))))) | ((with_reducible refine isD ?_); (first | (refine svDraw (id := 6) [0] [] [(0, [1, 2, 5, 6, 7])] [1, 2, 5, 6, 7, 0, 3, 4, 8, 9, 10, 11, 12, 13, 14, 15, 16] F M (h := ?_); clear F M a w))) | with_reducible refine wp_scope_straight ?_ | with_reducible refine wp_label ?_ | go_step))))
        rw [d1]
        (repeat' (first | (refine sx_nil ?_; (try (replace F := F.filt [0, 2, 3, 4, 5, 6, 7, 8, 9, 10, 14, 35, 41, 64, 68, 71, 76] rfl))) | (refine sv1 F M (h := ?_); clear F a; intro a F) | refine pv1 (h := ?_) | (refine sv3 F M (h := ?_); clear M; intro w M) | (refine sv2 F M (h := ?_); clear F M a; intro nb a w F M) | refine pv3 (h := ?_) | (refine pv2 (h := ?_); intro nb) | ((first | refine svC F M (h := ?_) | refine svC0 F M (h := ?_) | refine pvC (h := ?_) | refine pvC0 (h := ?_)); ((first | ((refine acW (k := 31) (hop _) ?_); rintro u L' ⟨rfl, rfl⟩) | ((refine acW (k := 30) rnames_spec ?_); rintro u L' ⟨hn, rfl, rfl⟩))); (first | refine ⟨rvsA, ?_⟩ | (clear F M a; intro a w F M) | (clear M; intro w M))) | (refine svK F (h := ?_); clear F a; intro a F) | refine svK0 F (h := ?_) | ((refine sx_guardb F rfl (fun hg => ?_) (fun hg => ?_)) <;> (rw [hg] at F; (try (exact no hg)))) | (refine pvF (h := ?_); intro nb) | refine pvK (h := ?_) | refine pvK0 (h := ?_) | (refine pv_nil ?_; intro a w F M; (try (replace F := F.filt [0, 2, 3, 4, 5, 6, 7, 8, 9, 10, 14, 35, 41, 64, 68, 71, 76] rfl))) | ((fail_if_success (with_reducible first | refine isW ?_ | refine isP ?_ | refine isL ?_)); (first | with_reducible refine sx_region ?_ | ((with_reducible refine isK ?_); (first | refine svT F (h := ?_) | refine svF F (h := ?_) | ((refine svB F (fun hc => ?_) (fun hc => ?_)) <;> (try (exact no hc))))) | ((with_reducible refine isD ?_); (first | (refine svDraw (id := 6) [0] [] [(0, [1, 2, 5, 6, 7])] [1, 2, 5, 6, 7, 0, 3, 4, 8, 9, 10, 11, 12, 13, 14, 15, 16] F M (h := ?_); clear F M a w))) | with_reducible refine wp_scope_straight ?_ | with_reducible refine wp_label ?_ | go_step))))
        refine sv_again F M (k + 1) kpA permsA ⟨by omega, by omega, fun j h1 h2 => ?_⟩ (by omega)
        by_cases hjk : j = k
        · subst hjk
          exact fun h => hln (h.2 ds hd)
        · exact q3 j h1 (by omega)
    · have d1 : decide (nm ≠ w0) = true := by simpa using hw
      (repeat' (first | (refine sx_nil ?_; (try (replace F := F.filt [0, 2, 3, 4, 5, 6, 7, 8, 9, 10, 14, 35, 41, 64, 68, 71, 76] rfl))) | (refine sv1 F M (h := ?_); clear F a; intro a F) | refine pv1 (h := ?_) | (refine sv3 F M (h := ?_); clear M; intro w M) | (refine sv2 F M (h := ?_); clear F M a; intro nb a w F M) | refine pv3 (h := ?_) | (refine pv2 (h := ?_); intro nb) | ((first | refine svC F M (h := ?_) | refine svC0 F M (h := ?_) | refine pvC (h := ?_) | refine pvC0 (h := ?_)); ((first | ((refine acW (k := 31) (hop _) ?_); rintro u L' ⟨rfl, rfl⟩) | ((refine acW (k := 30) rnames_spec ?_); rintro u L' ⟨hn, rfl, rfl⟩))); (first | refine ⟨rvsA, ?_⟩ | (clear F M a; intro a w F M) | (clear M; intro w M))) | (refine svK F (h := ?_); clear F a; intro a F) | refine svK0 F (h := ?_) | ((refine sx_guardb F rfl (fun hg => ?_) (fun hg => ?_)) <;> (rw [hg] at F; (try (exact no hg)))) | (refine pvF (h := ?_); intro nb) | refine pvK (h := ?_) | refine pvK0 (h := ?_) | (refine pv_nil ?_; intro a w F M; (try (replace F := F.filt [0, 2, 3, 4, 5, 6, 7, 8, 9, 10, 14, 35, 41, 64, 68, 71, 76] rfl))) | ((fail_if_success (with_reducible first | refine isW ?_ | refine isP ?_ | refine isL ?_)); (first | with_reducible refine sx_region ?_ | ((with_reducible refine isK ?_); (first | refine svT F (h := ?_) | refine svF F (h := ?_) | ((refine svB F (fun hc => ?_) (fun hc => ?_)) <;> (try (exact no hc))))) | ((with_reducible refine isD ?_); (first | (refine svDraw (id := 6) [0] [] [(0, [1, 2, 5, 6, 7])] [1, 2, 5, 6, 7, 0, 3, 4, 8, 9, 10, 11, 12, 13, 14, 15, 16] F M (h := ?_); clear F M a w))) | with_reducible refine wp_scope_straight ?_ | with_reducible refine wp_label ?_ | go_step))))
      rw [d1]
      (repeat' (first | (refine sx_nil ?_; (try (replace F := F.filt [0, 2, 3, 4, 5, 6, 7, 8, 9, 10, 14, 35, 41, 64, 68, 71, 76] rfl))) | (refine sv1 F M (h := ?_); clear F a; intro a F) | refine pv1 (h := ?_) | (refine sv3 F M (h := ?_); clear M; intro w M) | (refine sv2 F M (h := ?_); clear F M a; intro nb a w F M) | refine pv3 (h := ?_) | (refine pv2 (h := ?_); intro nb) | ((first | refine svC F M (h := ?_) | refine svC0 F M (h := ?_) | refine pvC (h := ?_) | refine pvC0 (h := ?_)); ((first | ((refine acW (k := 31) (hop _) ?_); rintro u L' ⟨rfl, rfl⟩) | ((refine acW (k := 30) rnames_spec ?_); rintro u L' ⟨hn, rfl, rfl⟩))); (first | refine ⟨rvsA, ?_⟩ | (clear F M a; intro a w F M) | (clear M; intro w M))) | (refine svK F (h := ?_); clear F a; intro a F) | refine svK0 F (h := ?_) | ((refine sx_guardb F rfl (fun hg => ?_) (fun hg => ?_)) <;> (rw [hg] at F; (try (exact no hg)))) | (refine pvF (h := ?_); intro nb) | refine pvK (h := ?_) | refine pvK0 (h := ?_) | (refine pv_nil ?_; intro a w F M; (try (replace F := F.filt [0, 2, 3, 4, 5, 6, 7, 8, 9, 10, 14, 35, 41, 64, 68, 71, 76] rfl))) | ((fail_if_success (with_reducible first | refine isW ?_ | refine isP ?_ | refine isL ?_)); (first | with_reducible refine sx_region ?_ | ((with_reducible refine isK ?_); (first | refine svT F (h := ?_) | refine svF F (h := ?_) | ((refine svB F (fun hc => ?_) (fun hc => ?_)) <;> (try (exact no hc))))) | ((with_reducible refine isD ?_); (first | (refine svDraw (id := 6) [0] [] [(0, [1, 2, 5, 6, 7])] [1, 2, 5, 6, 7, 0, 3, 4, 8, 9, 10, 11, 12, 13, 14, 15, 16] F M (h := ?_); clear F M a w))) | with_reducible refine wp_scope_straight ?_ | with_reducible refine wp_label ?_ | go_step))))
      refine sv_again F M (k + 1) kpA permsA ⟨by omega, by omega, fun j h1 h2 => ?_⟩ (by omega)
      by_cases hjk : j = k
      · subst hjk
        exact fun h => hw (hnm ▸ h.1)
      · exact q3 j h1 (by omega)
  · have hTn : T = none := by
      rw [← hT]
      cases hkd : kindOf w0 with
      | none => rfl
      | some k0 =>
        obtain ⟨n1, n2, n3⟩ := kindOf_name hkd
        obtain ⟨j, rfl⟩ : ∃ j : Nat, k0 = j := ⟨k0.toNat, by omega⟩
        obtain ⟨ds, hd⟩ := kind_ods hkd
        simp only [hd]
        rw [if_neg]
        intro hln
        refine q3 j (by omega) (by omega) ⟨n1.symm, fun ds' hd' => ?_⟩
        rw [hd] at hd'
        obtain rfl := Option.some.inj hd'
        exact hln
    subst hTn
    (repeat' (first | (refine sx_nil ?_; (try (replace F := F.filt [0, 2, 3, 4, 5, 6, 7, 8, 9, 10, 14, 35, 41, 64, 68, 71, 76] rfl))) | (refine sv1 F M (h := ?_); clear F a; intro a F) | refine pv1 (h := ?_) | (refine sv3 F M (h := ?_); clear M; intro w M) | (refine sv2 F M (h := ?_); clear F M a; intro nb a w F M) | refine pv3 (h := ?_) | (refine pv2 (h := ?_); intro nb) | ((first | refine svC F M (h := ?_) | refine svC0 F M (h := ?_) | refine pvC (h := ?_) | refine pvC0 (h := ?_)); (fail); (first | refine ⟨rvsA, ?_⟩ | (clear F M a; intro a w F M) | (clear M; intro w M))) | (refine svK F (h := ?_); clear F a; intro a F) | refine svK0 F (h := ?_) | ((refine sx_guardb F rfl (fun hg => ?_) (fun hg => ?_)) <;> (rw [hg] at F; (try (exact no hg)))) | (refine pvF (h := ?_); intro nb) | refine pvK (h := ?_) | refine pvK0 (h := ?_) | (refine pv_nil ?_; intro a w F M; (try (replace F := F.filt [0, 2, 3, 4, 5, 6, 7, 8, 9, 10, 14, 35, 41, 64, 68, 71, 76] rfl))) | ((fail_if_success (with_reducible first | refine isW ?_ | refine isP ?_ | refine isL ?_)); (first | with_reducible refine sx_region ?_ | ((with_reducible refine isK ?_); (first | refine svT F (h := ?_) | refine svF F (h := ?_) | ((refine svB F (fun hc => ?_) (fun hc => ?_)) <;> (try (exact no hc))))) | ((with_reducible refine isD ?_); (first | (refine svDraw (id := 6) [0] [] [(0, [1, 2, 5, 6, 7])] [1, 2, 5, 6, 7, 0, 3, 4, 8, 9, 10, 11, 12, 13, 14, 15, 16] F M (h := ?_); clear F M a w))) | with_reducible refine wp_scope_straight ?_ | with_reducible refine wp_label ?_ | go_step))))
    all_goals (first | refine svEnd F M ?_ | refine svRet F M ?_)
    all_goals exact ⟨_, _, rfl, ⟨rfl, rfl⟩, M.perms permsA⟩
end Go.Proofs.YtaggjikjohamjaaDoor
end
section
namespace Go.Proofs.YtaggjikjohamjaaDoor
open Go.RowKit Go.Maps
set_option linter.unusedVariables false
set_option maxRecDepth 100000
set_option linter.unusedSimpArgs false
set_option maxHeartbeats 8000000
def rdGo (l : List (List UInt8)) : List Opn := (l.filter fun x => decide (x ≠ [])).map parsM
theorem rdGo_cons (x : List UInt8) (l : List (List UInt8)) : rdGo (x :: l) = if x ≠ [] then parsM x :: rdGo l else rdGo l := by
  unfold rdGo
  rw [List.filter_cons]
  by_cases h : x = []
  · subst h; rfl
  · rw [if_pos (by simpa using h), if_pos h]; rfl
theorem read_spec (t : List UInt8) (hs : t.length ≤ 10000) (R : List Asn) (hm : Gives R MxL) (hL : Gives R Laid) : Spec 14 [str t] R fun u L' => ∃ h, u = sl h ∧ L' = ownT 24 opL 4 (sl h) (readM t) :: R := by
  have hsp := fun R (hm : Gives R MxL) => split_spec t 10 (by omega) R hm
  have hmem := splitB_mem 10 t
  have hlen := splitB_len 10 t
  have hcl := List.count_le_length (a := (10 : UInt8)) (l := t)
  obtain ⟨X, hX⟩ : ∃ X, readM t = X := ⟨_, rfl⟩
  rw [hX]
  have hX : rdGo (splitB 10 t) = X := hX
  generalize splitB 10 t = L at *
  (intro G w M; refine sx_enter (vs := ([str t] : List Value)) Tryd.func14 (n := 28) rfl rfl rfl rfl ?_; intro a F; (try simp only [List.cons_append, List.nil_append] at M))
  have hm2 : Gives (R ++ G) MxL := Gives.app hm
  have hL2 : Gives (R ++ G) Laid := Gives.app hL
  have M := M.own_nil 24 4
  (repeat' (first | (refine sx_nil ?_; (try (replace F := F.filt [0, 2, 3, 5, 6, 9, 10, 11, 12, 16] rfl))) | (refine sv1 F M (h := ?_); clear F a; intro a F) | refine pv1 (h := ?_) | (refine sv3 F M (h := ?_); clear M; intro w M) | (refine sv2 F M (h := ?_); clear F M a; intro nb a w F M) | refine pv3 (h := ?_) | (refine pv2 (h := ?_); intro nb) | ((first | refine svC F M (h := ?_) | refine svC0 F M (h := ?_) | refine pvC (h := ?_) | refine pvC0 (h := ?_)); (((refine acW (k := 27) (hsp _ ?_) ?_); (exact gvA); rintro u L' ⟨h, rfl, rfl⟩)); (first | refine ⟨rvsA, ?_⟩ | (clear F M a; intro a w F M) | (clear M; intro w M))) | (refine svK F (h := ?_); clear F a; intro a F) | refine svK0 F (h := ?_) | ((refine sx_guardb F rfl (fun hg => ?_) (fun hg => ?_)) <;> (rw [hg] at F; (try (exact no hg)))) | (refine pvF (h := ?_); intro nb) | refine pvK (h := ?_) | refine pvK0 (h := ?_) | (refine pv_nil ?_; intro a w F M; (try (replace F := F.filt [0, 2, 3, 5, 6, 9, 10, 11, 12, 16] rfl))) | ((fail_if_success (with_reducible first | refine isW ?_ | refine isP ?_ | refine isL ?_)); (first | with_reducible refine sx_region ?_ | ((with_reducible refine isK ?_); (first | refine svT F (h := ?_) | refine svF F (h := ?_) | ((refine svB F (fun hc => ?_) (fun hc => ?_)) <;> (try (exact no hc))))) | ((with_reducible refine isD ?_); fail) | with_reducible refine wp_scope_straight ?_ | with_reducible refine wp_label ?_ | go_step))))
  refine svLoop F M ((0, nilH, []) : Nat × SlH × List Opn) (fun z => [(11, .int .i64 z.1), (3, sl z.2.1)]) (fun z => [ownT 24 opL 4 (sl z.2.1) z.2.2]) (fun z => z.1 ≤ L.length ∧ z.2.2 ++ rdGo (L.drop z.1) = X ∧ z.2.2.length ≤ z.1) (fun z => L.length - z.1) [5, 6, 7] ⟨Nat.zero_le _, hX, Nat.zero_le _⟩ ?_ (hR := by (repeat (first | exact Pulls.nil | (apply Pulls.cons; (focus ((repeat (first | exact Pull.here | apply Pull.there)); done))))))
  (rintro ⟨k, hh, out⟩ ⟨q1, q2, q3⟩ a w F M; (try simp only [List.cons_append, List.nil_append] at F M q1 q2 q3 ⊢))
  by_cases hk : k < L.length
  · obtain ⟨x, hx⟩ : ∃ x, L[k]? = some x := ⟨L[k], by simp [hk]⟩
    have hxl := hmem x (List.mem_of_getElem? hx)
    rw [drop_cons hx, rdGo_cons] at q2
    by_cases he : x = []
    · rw [if_neg (by simpa using he)] at q2
      have d1 : decide (x ≠ []) = false := by simpa using he
      (repeat' (first | (refine sx_nil ?_; (try (replace F := F.filt [0, 2, 3, 5, 6, 9, 10, 11, 12, 16] rfl))) | (refine sv1 F M (h := ?_); clear F a; intro a F) | refine pv1 (h := ?_) | (refine sv3 F M (h := ?_); clear M; intro w M) | (refine sv2 F M (h := ?_); clear F M a; intro nb a w F M) | refine pv3 (h := ?_) | (refine pv2 (h := ?_); intro nb) | ((first | refine svC F M (h := ?_) | refine svC0 F M (h := ?_) | refine pvC (h := ?_) | refine pvC0 (h := ?_)); (fail); (first | refine ⟨rvsA, ?_⟩ | (clear F M a; intro a w F M) | (clear M; intro w M))) | (refine svK F (h := ?_); clear F a; intro a F) | refine svK0 F (h := ?_) | ((refine sx_guardb F rfl (fun hg => ?_) (fun hg => ?_)) <;> (rw [hg] at F; (try (exact no hg)))) | (refine pvF (h := ?_); intro nb) | refine pvK (h := ?_) | refine pvK0 (h := ?_) | (refine pv_nil ?_; intro a w F M; (try (replace F := F.filt [0, 2, 3, 5, 6, 9, 10, 11, 12, 16] rfl))) | ((fail_if_success (with_reducible first | refine isW ?_ | refine isP ?_ | refine isL ?_)); (first | with_reducible refine sx_region ?_ | ((with_reducible refine isK ?_); (first | refine svT F (h := ?_) | refine svF F (h := ?_) | ((refine svB F (fun hc => ?_) (fun hc => ?_)) <;> (try (exact no hc))))) | ((with_reducible refine isD ?_); fail) | with_reducible refine wp_scope_straight ?_ | with_reducible refine wp_label ?_ | go_step))))
      exact sv_again F M ((k + 1, hh, out) : Nat × SlH × List Opn) kpA permsA ⟨by simp only; omega, q2, by simp only; omega⟩ (by simp only; omega)
    · rw [if_pos he] at q2
      have d1 : decide (x ≠ []) = true := by simpa using he
      have hpa := fun R (hm : Gives R MxL) (hL : Gives R Laid) => parse_spec x (by omega) R hm hL
      generalize parsM x = p at *
      generalize (parsO x).isSome = b at *
      (repeat' (first | (refine sx_nil ?_; (try (replace F := F.filt [0, 2, 3, 5, 6, 9, 10, 11, 12, 16] rfl))) | (refine sv1 F M (h := ?_); clear F a; intro a F) | refine pv1 (h := ?_) | (refine sv3 F M (h := ?_); clear M; intro w M) | (refine sv2 F M (h := ?_); clear F M a; intro nb a w F M) | refine pv3 (h := ?_) | (refine pv2 (h := ?_); intro nb) | ((first | refine svC F M (h := ?_) | refine svC0 F M (h := ?_) | refine pvC (h := ?_) | refine pvC0 (h := ?_)); ((first | ((refine acW (k := 9) (hpa _ ?_ ?_) ?_); (exact gvA); (exact gvA); rintro u L' ⟨rfl, rfl⟩) | (refine ac_appendH (f := opL) (xs := out) (ys := [p]) rfl rfl inferInstance rfl rfl pullA inferInstance gsA rfl rfl (by simp; omega) ?_; intro nv))); (first | refine ⟨rvsA, ?_⟩ | (clear F M a; intro a w F M) | (clear M; intro w M))) | (refine svK F (h := ?_); clear F a; intro a F) | refine svK0 F (h := ?_) | ((refine sx_guardb F rfl (fun hg => ?_) (fun hg => ?_)) <;> (rw [hg] at F; (try (exact no hg)))) | (refine pvF (h := ?_); intro nb) | refine pvK (h := ?_) | refine pvK0 (h := ?_) | (refine pv_nil ?_; intro a w F M; (try (replace F := F.filt [0, 2, 3, 5, 6, 9, 10, 11, 12, 16] rfl))) | ((fail_if_success (with_reducible first | refine isW ?_ | refine isP ?_ | refine isL ?_)); (first | with_reducible refine sx_region ?_ | ((with_reducible refine isK ?_); (first | refine svT F (h := ?_) | refine svF F (h := ?_) | ((refine svB F (fun hc => ?_) (fun hc => ?_)) <;> (try (exact no hc))))) | ((with_reducible refine isD ?_); fail) | with_reducible refine wp_scope_straight ?_ | with_reducible refine wp_label ?_ | go_step))))
      exact sv_again F M ((k + 1, nv, out ++ [p]) : Nat × SlH × List Opn) kpA permsA ⟨by simp only; omega, by simpa using q2, by simp; omega⟩ (by simp only; omega)
  · obtain rfl : k = L.length := by omega
    rw [List.drop_length] at q2
    have q2 : out ++ [] = X := q2
    rw [List.append_nil] at q2
    subst q2
    (repeat' (first | (refine sx_nil ?_; (try (replace F := F.filt [0, 2, 3, 5, 6, 9, 10, 11, 12, 16] rfl))) | (refine sv1 F M (h := ?_); clear F a; intro a F) | refine pv1 (h := ?_) | (refine sv3 F M (h := ?_); clear M; intro w M) | (refine sv2 F M (h := ?_); clear F M a; intro nb a w F M) | refine pv3 (h := ?_) | (refine pv2 (h := ?_); intro nb) | ((first | refine svC F M (h := ?_) | refine svC0 F M (h := ?_) | refine pvC (h := ?_) | refine pvC0 (h := ?_)); (fail); (first | refine ⟨rvsA, ?_⟩ | (clear F M a; intro a w F M) | (clear M; intro w M))) | (refine svK F (h := ?_); clear F a; intro a F) | refine svK0 F (h := ?_) | ((refine sx_guardb F rfl (fun hg => ?_) (fun hg => ?_)) <;> (rw [hg] at F; (try (exact no hg)))) | (refine pvF (h := ?_); intro nb) | refine pvK (h := ?_) | refine pvK0 (h := ?_) | (refine pv_nil ?_; intro a w F M; (try (replace F := F.filt [0, 2, 3, 5, 6, 9, 10, 11, 12, 16] rfl))) | ((fail_if_success (with_reducible first | refine isW ?_ | refine isP ?_ | refine isL ?_)); (first | with_reducible refine sx_region ?_ | ((with_reducible refine isK ?_); (first | refine svT F (h := ?_) | refine svF F (h := ?_) | ((refine svB F (fun hc => ?_) (fun hc => ?_)) <;> (try (exact no hc))))) | ((with_reducible refine isD ?_); fail) | with_reducible refine wp_scope_straight ?_ | with_reducible refine wp_label ?_ | go_step))))
    all_goals (first | refine svEnd F M ?_ | refine svRet F M ?_)
    all_goals exact ⟨_, _, rfl, ⟨hh, rfl, rfl⟩, M.perms permsA⟩
theorem rread_spec (t : List UInt8) (hs : t.length ≤ 10000) (R : List Asn) : Spec 16 [str t] R fun u L' => ∃ h, u = sl h ∧ L' = ownT 24 opL 4 (sl h) (readM t) :: R := by
  have hsp := fun R => rsplit_spec t 10 (by omega) R
  have hmem := splitB_mem 10 t
  have hlen := splitB_len 10 t
  have hcl := List.count_le_length (a := (10 : UInt8)) (l := t)
  obtain ⟨X, hX⟩ : ∃ X, readM t = X := ⟨_, rfl⟩
  rw [hX]
  have hX : rdGo (splitB 10 t) = X := hX
  generalize splitB 10 t = L at *
  (intro G w M; refine sx_enter (vs := ([str t] : List Value)) Tryd.func16 (n := 34) rfl rfl rfl rfl ?_; intro a F; (try simp only [List.cons_append, List.nil_append] at M))
  have M := M.own_nil 24 4
  (repeat' (first | (refine sx_nil ?_; (try (replace F := F.filt [0, 2, 3, 4, 5, 6, 13, 20] rfl))) | (refine sv1 F M (h := ?_); clear F a; intro a F) | refine pv1 (h := ?_) | (refine sv3 F M (h := ?_); clear M; intro w M) | (refine sv2 F M (h := ?_); clear F M a; intro nb a w F M) | refine pv3 (h := ?_) | (refine pv2 (h := ?_); intro nb) | ((first | refine svC F M (h := ?_) | refine svC0 F M (h := ?_) | refine pvC (h := ?_) | refine pvC0 (h := ?_)); (((refine acW (k := 35) (hsp _) ?_); rintro u L' ⟨h, rfl, rfl⟩)); (first | refine ⟨rvsA, ?_⟩ | (clear F M a; intro a w F M) | (clear M; intro w M))) | (refine svK F (h := ?_); clear F a; intro a F) | refine svK0 F (h := ?_) | ((refine sx_guardb F rfl (fun hg => ?_) (fun hg => ?_)) <;> (rw [hg] at F; (try (exact no hg)))) | (refine pvF (h := ?_); intro nb) | refine pvK (h := ?_) | refine pvK0 (h := ?_) | (refine pv_nil ?_; intro a w F M; (try (replace F := F.filt [0, 2, 3, 4, 5, 6, 13, 20] rfl))) | ((fail_if_success (with_reducible first | refine isW ?_ | refine isP ?_ | refine isL ?_)); (first | with_reducible refine sx_region ?_ | ((with_reducible refine isK ?_); (first | refine svT F (h := ?_) | refine svF F (h := ?_) | ((refine svB F (fun hc => ?_) (fun hc => ?_)) <;> (try (exact no hc))))) | ((with_reducible refine isD ?_); fail) | with_reducible refine wp_scope_straight ?_ | with_reducible refine wp_label ?_ | go_step))))
  refine svLoop F M ((0, nilH, []) : Nat × SlH × List Opn) (fun z => [(5, .int .i64 z.1), (3, sl z.2.1)]) (fun z => [ownT 24 opL 4 (sl z.2.1) z.2.2]) (fun z => z.1 ≤ L.length ∧ z.2.2 ++ rdGo (L.drop z.1) = X ∧ z.2.2.length ≤ z.1) (fun z => L.length - z.1) [6, 7] ⟨Nat.zero_le _, hX, Nat.zero_le _⟩ ?_ (hR := by (repeat (first | exact Pulls.nil | (apply Pulls.cons; (focus ((repeat (first | exact Pull.here | apply Pull.there)); done))))))
  (rintro ⟨k, hh, out⟩ ⟨q1, q2, q3⟩ a w F M; (try simp only [List.cons_append, List.nil_append] at F M q1 q2 q3 ⊢))
  by_cases hk : k < L.length
  · obtain ⟨x, hx⟩ : ∃ x, L[k]? = some x := ⟨L[k], by simp [hk]⟩
    have hxl := hmem x (List.mem_of_getElem? hx)
    rw [drop_cons hx, rdGo_cons] at q2
    by_cases he : x = []
    · rw [if_neg (by simpa using he)] at q2
      have d1 : decide (x ≠ []) = false := by simpa using he
      (repeat' (first | (refine sx_nil ?_; (try (replace F := F.filt [0, 2, 3, 4, 5, 6, 13, 20] rfl))) | (refine sv1 F M (h := ?_); clear F a; intro a F) | refine pv1 (h := ?_) | (refine sv3 F M (h := ?_); clear M; intro w M) | (refine sv2 F M (h := ?_); clear F M a; intro nb a w F M) | refine pv3 (h := ?_) | (refine pv2 (h := ?_); intro nb) | ((first | refine svC F M (h := ?_) | refine svC0 F M (h := ?_) | refine pvC (h := ?_) | refine pvC0 (h := ?_)); (fail); (first | refine ⟨rvsA, ?_⟩ | (clear F M a; intro a w F M) | (clear M; intro w M))) | (refine svK F (h := ?_); clear F a; intro a F) | refine svK0 F (h := ?_) | ((refine sx_guardb F rfl (fun hg => ?_) (fun hg => ?_)) <;> (rw [hg] at F; (try (exact no hg)))) | (refine pvF (h := ?_); intro nb) | refine pvK (h := ?_) | refine pvK0 (h := ?_) | (refine pv_nil ?_; intro a w F M; (try (replace F := F.filt [0, 2, 3, 4, 5, 6, 13, 20] rfl))) | ((fail_if_success (with_reducible first | refine isW ?_ | refine isP ?_ | refine isL ?_)); (first | with_reducible refine sx_region ?_ | ((with_reducible refine isK ?_); (first | refine svT F (h := ?_) | refine svF F (h := ?_) | ((refine svB F (fun hc => ?_) (fun hc => ?_)) <;> (try (exact no hc))))) | ((with_reducible refine isD ?_); fail) | with_reducible refine wp_scope_straight ?_ | with_reducible refine wp_label ?_ | go_step))))
      exact sv_again F M ((k + 1, hh, out) : Nat × SlH × List Opn) kpA permsA ⟨by simp only; omega, q2, by simp only; omega⟩ (by simp only; omega)
    · rw [if_pos he] at q2
      have d1 : decide (x ≠ []) = true := by simpa using he
      have hpa := fun R => rparse_spec x (by omega) R
      generalize parsM x = p at *
      generalize (parsO x).isSome = b at *
      (repeat' (first | (refine sx_nil ?_; (try (replace F := F.filt [0, 2, 3, 4, 5, 6, 13, 20] rfl))) | (refine sv1 F M (h := ?_); clear F a; intro a F) | refine pv1 (h := ?_) | (refine sv3 F M (h := ?_); clear M; intro w M) | (refine sv2 F M (h := ?_); clear F M a; intro nb a w F M) | refine pv3 (h := ?_) | (refine pv2 (h := ?_); intro nb) | ((first | refine svC F M (h := ?_) | refine svC0 F M (h := ?_) | refine pvC (h := ?_) | refine pvC0 (h := ?_)); ((first | ((refine acW (k := 13) (hpa _) ?_); rintro u L' ⟨rfl, rfl⟩) | (refine ac_appendH (f := opL) (xs := out) (ys := [p]) rfl rfl inferInstance rfl rfl pullA inferInstance gsA rfl rfl (by simp; omega) ?_; intro nv))); (first | refine ⟨rvsA, ?_⟩ | (clear F M a; intro a w F M) | (clear M; intro w M))) | (refine svK F (h := ?_); clear F a; intro a F) | refine svK0 F (h := ?_) | ((refine sx_guardb F rfl (fun hg => ?_) (fun hg => ?_)) <;> (rw [hg] at F; (try (exact no hg)))) | (refine pvF (h := ?_); intro nb) | refine pvK (h := ?_) | refine pvK0 (h := ?_) | (refine pv_nil ?_; intro a w F M; (try (replace F := F.filt [0, 2, 3, 4, 5, 6, 13, 20] rfl))) | ((fail_if_success (with_reducible first | refine isW ?_ | refine isP ?_ | refine isL ?_)); (first | with_reducible refine sx_region ?_ | ((with_reducible refine isK ?_); (first | refine svT F (h := ?_) | refine svF F (h := ?_) | ((refine svB F (fun hc => ?_) (fun hc => ?_)) <;> (try (exact no hc))))) | ((with_reducible refine isD ?_); fail) | with_reducible refine wp_scope_straight ?_ | with_reducible refine wp_label ?_ | go_step))))
      exact sv_again F M ((k + 1, nv, out ++ [p]) : Nat × SlH × List Opn) kpA permsA ⟨by simp only; omega, by simpa using q2, by simp; omega⟩ (by simp only; omega)
  · obtain rfl : k = L.length := by omega
    rw [List.drop_length] at q2
    have q2 : out ++ [] = X := q2
    rw [List.append_nil] at q2
    subst q2
    (repeat' (first | (refine sx_nil ?_; (try (replace F := F.filt [0, 2, 3, 4, 5, 6, 13, 20] rfl))) | (refine sv1 F M (h := ?_); clear F a; intro a F) | refine pv1 (h := ?_) | (refine sv3 F M (h := ?_); clear M; intro w M) | (refine sv2 F M (h := ?_); clear F M a; intro nb a w F M) | refine pv3 (h := ?_) | (refine pv2 (h := ?_); intro nb) | ((first | refine svC F M (h := ?_) | refine svC0 F M (h := ?_) | refine pvC (h := ?_) | refine pvC0 (h := ?_)); (fail); (first | refine ⟨rvsA, ?_⟩ | (clear F M a; intro a w F M) | (clear M; intro w M))) | (refine svK F (h := ?_); clear F a; intro a F) | refine svK0 F (h := ?_) | ((refine sx_guardb F rfl (fun hg => ?_) (fun hg => ?_)) <;> (rw [hg] at F; (try (exact no hg)))) | (refine pvF (h := ?_); intro nb) | refine pvK (h := ?_) | refine pvK0 (h := ?_) | (refine pv_nil ?_; intro a w F M; (try (replace F := F.filt [0, 2, 3, 4, 5, 6, 13, 20] rfl))) | ((fail_if_success (with_reducible first | refine isW ?_ | refine isP ?_ | refine isL ?_)); (first | with_reducible refine sx_region ?_ | ((with_reducible refine isK ?_); (first | refine svT F (h := ?_) | refine svF F (h := ?_) | ((refine svB F (fun hc => ?_) (fun hc => ?_)) <;> (try (exact no hc))))) | ((with_reducible refine isD ?_); fail) | with_reducible refine wp_scope_straight ?_ | with_reducible refine wp_label ?_ | go_step))))
    all_goals (first | refine svEnd F M ?_ | refine svRet F M ?_)
    all_goals exact ⟨_, _, rfl, ⟨hh, rfl, rfl⟩, M.perms permsA⟩
end Go.Proofs.YtaggjikjohamjaaDoor
end
section
namespace Go.Proofs.YtaggjikjohamjaaDoor
open Go.RowKit
set_option linter.unusedVariables false
set_option maxRecDepth 100000
set_option linter.unusedSimpArgs false
/-- All but the last, and the last. -/
def lastL : List Oper → Option (List Oper × Oper)
  | [] => none
  | a :: r => match lastL r with
    | some (p, o) => some (a :: p, o)
    | none => some ([], a)
theorem lastL_spec : ∀ (l : List Oper) {p : List Oper} {o : Oper}, lastL l = some (p, o) → l = p ++ [o]
  | [], p, o, h => by simp [lastL] at h
  | a :: r, p, o, h => by
    simp only [lastL] at h
    split at h
    · rename_i p' o' hr
      have h := Option.some.inj h
      obtain ⟨rfl, rfl⟩ := Prod.mk.inj h
      rw [lastL_spec r hr]; rfl
    · rename_i hr
      have h := Option.some.inj h
      obtain ⟨rfl, rfl⟩ := Prod.mk.inj h
      cases r with
      | nil => rfl
      | cons b r => simp only [lastL] at hr; split at hr <;> cases hr
def lastOK (pre : Array Oper) (o : Oper) : Bool :=
  (pre.all fun p => match p.guard with | none => true | some (g, _) => Nat.blt g pre.size) &&
  (o.after.all fun e => !Region.binds .any e || Nat.blt e.on pre.size) &&
  ((List.range pre.size).all fun j => o.after.any fun e => Region.binds .any e && (Nat.beq e.on j || ((Region.before pre).getD e.on 0).testBit j))
/-- What is asked behind the others: the last operation. -/
def QL (ops : Array Oper) (o : Oper) (Q : Exit → Act → World → Prop) : Exit → Act → World → Prop := fun e a w => match e with
  | .normal => wpList Tryd.prog ops Q [o] a w
  | e => Q e a w
section
variable {ops : Array Oper} {Q : Exit → Act → World → Prop} {o : Oper} {a : Act} {w : World} {n : Nat} {l : List (Nat × Value)} {L : List Asn}
theorem ql_open (h : wpList Tryd.prog ops Q [o] a w) : QL ops o Q .normal a w := h
theorem ql_wp {o' : Oper} {N N' : Act → World → Prop} (h : o'.wp Tryd.prog a w N (QL ops o Q)) (hN : ∀ a w, N a w → N' a w) : o'.wp Tryd.prog a w N' Q := by
  have h := Oper.wp_mono (Q := QL ops o Q) hN h
  unfold Oper.wp at *
  generalize (execOp a.eval o').run Tryd.prog w = r at *
  cases r with
  | ok n w' =>
    cases n <;> simp only [Oper.upon] at h ⊢
    case enter f args =>
      refine h.mono fun e w'' he => ?_
      cases e <;> exact he
    all_goals exact h
  | halt x w' => cases x <;> exact h
theorem ql_lets (h : LetsOut (QL ops o Q)) : LetsOut Q := h
theorem getD_push_lt {xs : Array Bool} {i : Nat} {b d : Bool} (h : i < xs.size) : (xs.push b).getD i d = xs.getD i d := by
  simp [Array.getElem?_push, Nat.ne_of_lt h]
theorem set_push {xs : Array Bool} {i : Nat} {b c : Bool} (h : i < xs.size) : (xs.push b).setIfInBounds i c = (xs.setIfInBounds i c).push b := by
  apply Array.ext_getElem?
  intro k
  simp only [Array.getElem?_setIfInBounds, Array.getElem?_push, Array.size_push, Array.size_setIfInBounds]
  by_cases hk : i = k
  · subst hk
    have : i ≠ xs.size := Nat.ne_of_lt h
    simp [h, this]; omega
  · simp only [if_neg hk]
theorem wpAny_push {pre : Array Oper} (hB : fixB pre = true) (hla : lastOK pre o = true) : ∀ (fuel : Nat) (listed : Array Bool) (a : Act) (w : World), listed.size = pre.size → (∀ (j : Nat) (oj : Oper), pre[j]? = some oj → listed.getD j true = true → ∀ e ∈ oj.after, Region.binds .any e = true → listed.getD e.on true = true) →
    wpAny Tryd.prog .any pre (QL (pre.push o) o Q) fuel listed a w → wpAny Tryd.prog .any (pre.push o) Q (fuel + 1) (listed.push false) a w := by
  simp only [lastOK, Bool.and_eq_true] at hla
  obtain ⟨⟨hg, hb⟩, hall⟩ := hla
  have hops : ∀ i, i < pre.size → (pre.push o)[i]? = pre[i]? := fun i hi => by simp [Array.getElem?_push, Nat.ne_of_lt hi]
  have hlast : (pre.push o)[pre.size]? = some o := by simp
  have hoe : ∀ e ∈ o.after, Region.binds .any e = true → e.on < pre.size := fun e he heb => by
    have := Array.all_eq_true_iff_forall_mem.1 hb e he
    simp only [heb, Bool.not_true, Bool.false_or] at this
    simpa [Nat.blt_eq] using this

  have full : ∀ (listed : Array Bool), listed.size = pre.size → (∀ (j : Nat) (oj : Oper), pre[j]? = some oj → listed.getD j true = true → ∀ e ∈ oj.after, Region.binds .any e = true → listed.getD e.on true = true) → (∀ e ∈ o.after, Region.binds .any e = true → listed.getD e.on true = true) → ∀ j, j < pre.size → listed.getD j true = true := by
    intro listed hl hc he j hj
    have h1 := List.all_eq_true.1 hall j (List.mem_range.2 hj)
    obtain ⟨k, hk, h2⟩ := Array.any_eq_true.1 h1
    obtain ⟨e, hem, hek⟩ : ∃ e, e ∈ o.after ∧ e = o.after[k] := ⟨_, Array.getElem_mem hk, rfl⟩
    rw [← hek] at h2
    simp only [Bool.and_eq_true, Bool.or_eq_true] at h2
    obtain ⟨heb, h3⟩ := h2
    have h4 := he e hem heb
    rcases h3 with h3 | h3
    · rw [← Nat.eq_of_beq_eq_true h3]; exact h4
    · have hlt := hoe e hem heb
      have hpe : pre[e.on]? = some pre[e.on] := by simp [hlt]
      exact anc_listed (S := fun k => listed.getD k true = true) (fun k ok hk => (fixB_spec hB hk).1) (fun k ok hk hS e' he' hb' => hc k ok hk hS e' he' hb') e.on _ hpe (fun e' he' hb' => hc e.on _ hpe h4 e' he' hb') j h3
  have hready : ∀ (listed : Array Bool) (i : Nat), listed.size = pre.size → (∀ (j : Nat) (oj : Oper), pre[j]? = some oj → listed.getD j true = true → ∀ e ∈ oj.after, Region.binds .any e = true → listed.getD e.on true = true) → i ∈ Region.ready .any (pre.push o) (listed.push false) →
      (i < pre.size ∧ i ∈ Region.ready .any pre listed) ∨ (i = pre.size ∧ ∀ j, j < pre.size → listed.getD j true = true) := by
    intro listed i hl hc hi
    obtain ⟨h1, oi, h2, h3⟩ := mem_ready.1 hi
    rcases Nat.lt_trichotomy i pre.size with hlt | rfl | hgt
    · left
      refine ⟨hlt, mem_ready.2 ⟨by rw [getD_push_lt (by omega)] at h1; exact h1, oi, by rw [hops i hlt] at h2; exact h2, fun e he heb => ?_⟩⟩
      have h4 := h3 e he heb
      rw [hops i hlt] at h2
      have h5 := (fixB_spec hB h2).1 e he heb
      rwa [getD_push_lt (by omega)] at h4
    · right
      refine ⟨rfl, full listed hl hc fun e he heb => ?_⟩
      rw [hlast] at h2
      cases h2
      have h4 := h3 e he heb
      have h5 := hoe e he heb
      rw [getD_push_lt (by omega)] at h4
      have : e.on < listed.size := by omega
      simpa [this] using h4
    · exfalso
      have : (pre.push o)[i]? = none := by simp; omega
      rw [this] at h2; cases h2

  have hend : ∀ (fuel : Nat) (listed : Array Bool) (a : Act) (w : World), listed.size = pre.size → (∀ j, j < pre.size → listed.getD j true = true) → (Region.ready .any pre listed = []) → QL (pre.push o) o Q .normal a w → wpOp Tryd.prog (pre.push o) Q pre.size (wpAny Tryd.prog .any (pre.push o) Q fuel ((listed.push false).setIfInBounds pre.size true)) a w := by
    intro fuel listed a w hl hfull hr h
    have hnone : Region.ready .any (pre.push o) ((listed.push false).setIfInBounds pre.size true) = [] := by
      apply List.eq_nil_iff_forall_not_mem.2
      intro i hi
      obtain ⟨h1, oi, h2, h3⟩ := mem_ready.1 hi
      have hlt : i < (pre.push o).size := (Array.getElem?_eq_some_iff.1 h2).1
      rw [Array.size_push] at hlt
      by_cases hip : i = pre.size
      · subst hip
        simp [hl] at h1
      · have hlt' : i < pre.size := by omega
        have h4 := hfull i hlt'
        have : ((listed.push false).setIfInBounds pre.size true).getD i true = listed.getD i true := by
          have hne : pre.size ≠ i := fun e => hip e.symm
          have hne2 : i ≠ listed.size := by omega
          simp [Array.getElem?_setIfInBounds, hne, Array.getElem?_push, hne2]
        rw [this, h4] at h1; cases h1
    have hK : ∀ a w, Q .normal a w → wpAny Tryd.prog .any (pre.push o) Q fuel ((listed.push false).setIfInBounds pre.size true) a w := by
      intro a w hq
      cases fuel with
      | zero => exact ⟨hnone, hq⟩
      | succ fuel => exact ⟨fun _ => hq, fun i hi => by rw [hnone] at hi; simp at hi⟩
    have h' : wpList Tryd.prog (pre.push o) Q [o] a w := h
    unfold wpOp
    rw [hlast]
    simp only [wpList] at h'
    simp only []
    split
    · rename_i hw
      rw [if_pos hw] at h'
      exact h'.imp (Oper.wp_mono hK) id
    · rename_i hw
      rw [if_neg hw] at h'
      exact hK _ _ h'
  intro fuel
  induction fuel with
  | zero =>
    intro listed a w hl hc ⟨hr, hq⟩
    have hfull := ready_nil_all hB hl hr
    refine ⟨fun hr' => ?_, fun i hi => ?_⟩
    · exfalso
      have : pre.size ∈ Region.ready .any (pre.push o) (listed.push false) := mem_ready.2 ⟨by simp [← hl], o, hlast, fun e he heb => by
        have h5 := hoe e he heb
        rw [getD_push_lt (by omega)]
        have := hfull e.on h5
        have hlt : e.on < listed.size := by omega
        simpa [hlt] using this⟩
      rw [hr'] at this; simp at this
    · rcases hready listed i hl hc hi with ⟨_, h⟩ | ⟨rfl, hf⟩
      · rw [hr] at h; simp at h
      · exact hend 0 listed a w hl hf hr hq
  | succ fuel ih =>
    intro listed a w hl hc ⟨h0, h1⟩
    refine ⟨fun hr' => ?_, fun i hi => ?_⟩
    · exfalso
      have hnil : Region.ready .any pre listed = [] := by
        apply List.eq_nil_iff_forall_not_mem.2
        intro i hi
        obtain ⟨k1, oi, k2, k3⟩ := mem_ready.1 hi
        have hlt : i < pre.size := (Array.getElem?_eq_some_iff.1 k2).1
        have : i ∈ Region.ready .any (pre.push o) (listed.push false) := mem_ready.2 ⟨by rw [getD_push_lt (by omega)]; exact k1, oi, by rw [hops i hlt]; exact k2, fun e he heb => by
          have h5 := (fixB_spec hB k2).1 e he heb
          rw [getD_push_lt (by omega)]; exact k3 e he heb⟩
        rw [hr'] at this; simp at this
      have hfull := ready_nil_all hB hl hnil
      have : pre.size ∈ Region.ready .any (pre.push o) (listed.push false) := mem_ready.2 ⟨by simp [← hl], o, hlast, fun e he heb => by
        have h5 := hoe e he heb
        rw [getD_push_lt (by omega)]
        have := hfull e.on h5
        have hlt : e.on < listed.size := by omega
        simpa [hlt] using this⟩
      rw [hr'] at this; simp at this
    · rcases hready listed i hl hc hi with ⟨hlt, h⟩ | ⟨rfl, hf⟩
      · have h2 := h1 i h
        rw [set_push (by omega)]
        obtain ⟨k1, oi, k2, k3⟩ := mem_ready.1 h
        have hN : ∀ a w, wpAny Tryd.prog .any pre (QL (pre.push o) o Q) fuel (listed.setIfInBounds i true) a w → wpAny Tryd.prog .any (pre.push o) Q (fuel + 1) ((listed.setIfInBounds i true).push false) a w := fun a w hh => ih _ a w (by simp [hl]) (fun j oj hj hjl e he heb => by
          rw [getD_set (by omega)] at hjl ⊢
          split
          · rfl
          · split at hjl
            · rename_i hij
              subst hij
              rw [k2] at hj; cases hj
              have h4 := k3 e he heb
              have h5 := (fixB_spec hB k2).1 e he heb
              have h6 : e.on < listed.size := by omega
              simpa [h6] using h4
            · exact hc j oj hj hjl e he heb) hh
        unfold wpOp at h2 ⊢
        rw [k2] at h2
        rw [hops i hlt, k2]
        simp only [] at h2 ⊢
        have hw : Region.wanted oi (yielded (pre.push o) a.tmps) = Region.wanted oi (yielded pre a.tmps) := by
          unfold Region.wanted
          cases hgu : oi.guard with
          | none => rfl
          | some gb =>
            obtain ⟨g, b⟩ := gb
            have hgl : g < pre.size := by
              have := Array.all_eq_true_iff_forall_mem.1 hg oi (Array.mem_of_getElem? k2)
              rw [hgu] at this
              simpa [Nat.blt_eq] using this
            simp only [yielded, hops g hgl]
        rw [hw]
        split
        · rename_i hww
          rw [if_pos hww] at h2
          rcases h2 with h2 | ⟨h2, h3⟩
          · exact .inl (ql_wp h2 hN)
          · exact .inr ⟨h2, ql_lets h3⟩
        · rename_i hww
          rw [if_neg hww] at h2
          exact hN _ _ h2
      · have hnil : Region.ready .any pre listed = [] := by
          apply List.eq_nil_iff_forall_not_mem.2
          intro i hi
          obtain ⟨k1, oi, k2, k3⟩ := mem_ready.1 hi
          have := hf i (Array.getElem?_eq_some_iff.1 k2).1
          rw [this] at k1; cases k1
        exact hend (fuel + 1) listed a w hl hf hnil (h0 hnil)
/-- A region that draws its order, the last operation behind all others. -/
theorem svDrawL {id : Nat} {os pre : List Oper} (E Fl : List Nat) (S : List (Nat × List Nat)) (σ : List Nat) (F : Fr a n l) (M : Mem w L) (h : PW Tryd.prog pre.toArray n (QL os.toArray o Q) E Fl S σ [] l L) (hl : lastL os = some (pre, o) := by exact rfl) (hok : drawOK pre.toArray E Fl S σ n = true := by kernel_rfl) (hla : lastOK pre.toArray o = true := by kernel_rfl)
    (hFl : FlOK Tryd.prog pre.toArray Fl := by (first | (focus ((repeat (first | exact flok_nil | (apply flok_cons; (exact rfl); (exact rfl); (exact inferInstance); (exact rfl); (exact rfl)))); done)) | fail)) : (Code.region id os.toArray true).wp Tryd.prog Q a w := by
  have he := lastL_spec os hl
  have he' : os.toArray = pre.toArray.push o := by rw [he]; simp
  rw [he'] at h ⊢
  generalize pre.toArray = ops at *
  simp only [drawOK, Bool.and_eq_true] at hok
  obtain ⟨⟨⟨⟨⟨hB, ho⟩, hlen⟩, hall⟩, hfl⟩, hds⟩ := hok
  have hn : ∀ (i : Nat) (o : Oper) (d : Nat), ops[i]? = some o → o.dst = some d → d < n := fun i o d hi hd => by
    have := Array.all_eq_true_iff_forall_mem.1 hds o (Array.mem_of_getElem? hi)
    rw [hd] at this
    exact Nat.le_of_ble_eq_true this
  have hEF : ∀ i, Fl.contains i = true → E.contains i = false := fun i hi => by
    have := List.all_eq_true.1 hfl i (by simpa using hi)
    simp only [Bool.and_eq_true, Bool.not_eq_true'] at this
    exact this.1
  have hrep : ∀ j, (Array.replicate ops.size false).getD j true = true → ops.size ≤ j := fun j hj => by
    by_cases hlt : j < ops.size
    · simp [hlt] at hj
    · omega
  obtain ⟨done', rest', l', L', ear', hp, hh⟩ := norm hB hn (listed := Array.replicate ops.size false) (a := a) (w := { w with drawn := w.drawn + 1 }) σ [] l L [] ⟨h, ho, fun i hi => .inr (by simpa using List.all_eq_true.1 hall i (List.mem_range.2 hi)), by rw [List.map_nil, List.append_nil]; exact M.drew _, by simp, by simp, fun j hj hjl => by have := hrep j hjl; omega, by simp, by simp,
    fun j o hj hjl => by have := hrep j hjl; have := (Array.getElem?_eq_some_iff.1 hj).1; omega, F.ds, F.size, fun t v ht => (F.val t v ht).1, fun t v ht => .inl (F.val t v ht).2, by simp⟩
  have h1 := pw_any hB hn hFl hEF ops.size _ a _ (by simp) (by simp [unlisted]) ⟨done', rest', l', L', ear', hp, hh⟩
  have h2 := wpAny_push hB hla ops.size _ a _ (by simp) (fun j oj hj hjl => by have := hrep j hjl; have := (Array.getElem?_eq_some_iff.1 hj).1; omega) h1
  refine wp_region_any mixed ?_
  have e1 : (Array.replicate ops.size false).push false = Array.replicate (ops.push o).size false := by
    rw [Array.size_push, ← Array.replicate_succ]
  rw [e1] at h2
  have e2 : ops.size + 1 = (ops.push o).size := by simp
  rw [e2] at h2
  exact h2
end
end Go.Proofs.YtaggjikjohamjaaDoor
end
section
namespace Go.Proofs.YtaggjikjohamjaaDoor
open Go.RowKit Go.Maps
set_option linter.unusedVariables false
set_option maxRecDepth 100000
set_option linter.unusedSimpArgs false
set_option maxHeartbeats 8000000
section
variable {o : Oper} {n : Nat} {l : List (Nat × Value)} {L : List Asn} {C : Value → List Asn → Prop}
theorem ac_copyMT {α : Type} {f : α → List Value} {x y : Operand} {ats : Array TypeId} {t u : TypeId} (ho : o.op = .call { callee := .builtin .copy, args := #[x, y], argTypes := ats }) (hat : ats = #[t, u]) {e : TypeId} {z : Value} {size bytes : Nat} (ht : ST t e z size bytes) (he : EL f size) {b j dl dc : Nat} (hx : evl l x = some (.slice (some ⟨b, j * size, none⟩) dl dc))
    {v : Value} (hy : evl l y = some v) {ys : List α} {m : Nat} (hg : GS L size v m (ys.flatMap f)) (hm : m = ys.length) {k' : Nat} (hk : Nat.min m dl = k') {cap : Nat} {xs : List α} {hd : SlH} {L' : List Asn} (hp : Pull L (ownT e f size (sl hd) xs) L') (hh : hd = ⟨some ⟨b, 0, none⟩, xs.length, cap⟩) (hj : j + dl ≤ xs.length)
    (h : C (.int .i64 k') (ownT e f size (sl hd) (xs.take j ++ ys.take k' ++ xs.drop (j + k')) :: L')) : AC o l L n C := by
  subst hh; subst hm
  have hk1 : k' ≤ ys.length := by rw [← hk]; exact Nat.min_le_left _ _
  have hk2 : k' ≤ dl := by rw [← hk]; exact Nat.min_le_right _ _
  have hyl : (ys.take k').length = k' := by rw [List.length_take]; omega
  refine ac_copyM ho hat ht hx hy hg (flat_one ys) hk (flat_take he.len ys k') (m := xs.length) (cap := cap) hp hj ?_
  have hl : (xs.take j ++ ys.take k' ++ xs.drop (j + k')).length = xs.length := by simp; omega
  unfold ownT at h
  rw [hl] at h
  have e1 : (xs.flatMap f).take (j * size) ++ (ys.take k').flatMap f ++ (xs.flatMap f).drop (j * size + ((ys.take k').flatMap f).length) = (xs.take j ++ ys.take k' ++ xs.drop (j + k')).flatMap f := by
    rw [flat_lenE he, hyl, ← Nat.add_mul, flat_take he.len, flat_drop he.len]
    simp
  rw [e1]; exact h
theorem rt_fromC {t : TypeId} {x y : Operand} (ho : o.op = .slice t x (some y) none none) {b m c : Nat} (hx : evl l x = some (sl ⟨some ⟨b, 0, none⟩, m, c⟩)) {k : IntKind} {j : Nat} (hy : evl l y = some (.int k (j : Int))) {e : TypeId} {z : Value} {size bytes : Nat} (ht : ST t e z size bytes) (h1 : j ≤ m) (h2 : j < c) : RT o l L n (.slice (some ⟨b, j * size, none⟩) (m - j) (c - j)) := by
  have := rt_from (L := L) (n := n) ho hx hy ht h1
  have e1 : (sl (fromH ⟨some ⟨b, 0, none⟩, m, c⟩ j size)) = .slice (some ⟨b, j * size, none⟩) (m - j) (c - j) := by
    have : ¬ c = j := by omega
    simp [sl, this, Addr.add]
    try (intro h; omega)
  rw [e1] at this
  exact this
theorem gs_toT {α : Type} {f : α → List Value} {k : Nat} {L' : List Asn} {e : TypeId} {h : SlH} {xs : List α} (hp : Pull L (ownT e f k (sl h) xs) L') (he : EL f k) {j : Nat} (hj : j ≤ xs.length) : GS L k (sl ⟨h.a, j, h.c⟩) j ((xs.take j).flatMap f) := fun w M => by
  have := ((gs_own hp) w M).to hj
  rw [flat_take he.len] at this
  exact this
end
theorem mul1_spec (m : Nat) (hm : m < 18446744073709551616) (R : List Asn) : Spec 58 [.int .u64 1, .int .u64 (m : Int)] R fun u L' => u = .tuple [.int .u64 0, .int .u64 (m : Int)].toArray ∧ L' = R := fun G w M => by
  have := Tryd.bits_Mul 1 m (by decide) hm w
  have e1 : 1 * m / 18446744073709551616 = 0 := by omega
  have e2 : 1 * m % 18446744073709551616 = m := by omega
  rw [e1, e2] at this
  refine this.mono ?_
  rintro e w' ⟨rfl, rfl⟩
  exact ⟨_, _, rfl, ⟨rfl, rfl⟩, M⟩
def repL (o : Opn) (c m : Nat) : List Opn := List.replicate c o ++ List.replicate (m - c) (oz 0)
theorem repL_len {o : Opn} {c m : Nat} (h : c ≤ m) : (repL o c m).length = m := by simp [repL]; omega
theorem repeat_spec (h : SlH) (o : Opn) (m : Nat) (hm : m ≤ 1048576) (R : List Asn) : Spec 42 [sl h, .int .i64 (m : Int)] (ownT 24 opL 4 (sl h) [o] :: R) fun u L' => ∃ h, u = sl h ∧ L' = ownT 24 opL 4 (sl h) (List.replicate m o) :: R := by
  have hmu := fun R => mul1_spec m (by omega) R
  have c1 : IntKind.u64.wrap 1 = 1 := by rw [IntKind.wrap_u64]; rfl
  have c2 : IntKind.u64.wrap (m : Int) = (m : Int) := by rw [IntKind.wrap_u64]; omega
  have c3 : IntKind.i64.wrap (m : Int) = (m : Int) := IntWalk.i64_in _ ⟨by omega, by omega⟩
  (intro G w M; refine sx_enter (vs := ([sl h, .int .i64 (m : Int)] : List Value)) Tryd.func42 (n := 48) rfl rfl rfl rfl ?_; intro a F; (try simp only [List.cons_append, List.nil_append] at M))
  (repeat' (first | ((first | refine sv1 F M (h := ?_) (hr := by ((first | (apply rt_conv; (exact rfl); (exact rfl); (exact inferInstance); (exact inferInstance); (first | exact c1 | exact c2 | exact c3))))) | refine pv1 (h := ?_) (hr := by ((first | (apply rt_conv; (exact rfl); (exact rfl); (exact inferInstance); (exact inferInstance); (first | exact c1 | exact c2 | exact c3)))))); (try (clear F a; intro a F))) | (refine sx_nil ?_; (try (replace F := F.filt [0, 1, 4, 5, 6, 7, 8, 10, 26, 37] rfl))) | (refine sv1 F M (h := ?_); clear F a; intro a F) | refine pv1 (h := ?_) | (refine sv3 F M (h := ?_); clear M; intro w M) | (refine sv2 F M (h := ?_); clear F M a; intro nb a w F M) | refine pv3 (h := ?_) | (refine pv2 (h := ?_); intro nb) | ((first | refine svC F M (h := ?_) | refine svC0 F M (h := ?_) | refine pvC (h := ?_) | refine pvC0 (h := ?_)); ((first | ((refine acW (k := 58) (hmu _) ?_); rintro u L' ⟨rfl, rfl⟩) | (refine ac_makeT (f := opL) inferInstance (oz 0) rfl rfl inferInstance rfl (m := m) rfl rfl (by omega) (by omega) ?_; intro nm))); (first | refine ⟨rvsA, ?_⟩ | (clear F M a; intro a w F M) | (clear M; intro w M))) | (refine svK F (h := ?_); clear F a; intro a F) | refine svK0 F (h := ?_) | ((refine sx_guardb F rfl (fun hg => ?_) (fun hg => ?_)) <;> (rw [hg] at F; (try (exact no hg)))) | (refine pvF (h := ?_); intro nb) | refine pvK (h := ?_) | refine pvK0 (h := ?_) | (refine pv_nil ?_; intro a w F M; (try (replace F := F.filt [0, 1, 4, 5, 6, 7, 8, 10, 26, 37] rfl))) | ((fail_if_success (with_reducible first | refine isW ?_ | refine isP ?_ | refine isL ?_)); (first | with_reducible refine sx_region ?_ | ((with_reducible refine isK ?_); (first | refine svT F (h := ?_) | refine svF F (h := ?_) | ((refine svB F (fun hc => ?_) (fun hc => ?_)) <;> (try (exact no hc))))) | ((with_reducible refine isD ?_); (first | (refine svDrawL (id := 9) [7] [] [(7, [0])] [0, 1, 2, 3, 4, 5, 6, 7, 8] F M (h := ?_); clear F M a w))) | with_reducible refine wp_scope_straight ?_ | with_reducible refine wp_label ?_ | go_step))))
  (repeat' (first | (refine sx_nil ?_; (try (replace F := F.filt [0, 1, 4, 5, 6, 7, 8, 10, 26, 37] rfl))) | (refine sv1 F M (h := ?_); clear F a; intro a F) | refine pv1 (h := ?_) | (refine sv3 F M (h := ?_); clear M; intro w M) | (refine sv2 F M (h := ?_); clear F M a; intro nb a w F M) | refine pv3 (h := ?_) | (refine pv2 (h := ?_); intro nb) | ((first | refine svC F M (h := ?_) | refine svC0 F M (h := ?_) | refine pvC (h := ?_) | refine pvC0 (h := ?_)); ((refine ac_copyMT (f := opL) rfl rfl inferInstance inferInstance (b := nm) (j := 0) (dl := m) (dc := m) rfl rfl (ys := [o]) (k' := Nat.min 1 m) gsA rfl rfl (cap := m) (xs := List.replicate m (oz 0)) (hd := ⟨some ⟨nm, 0, none⟩, m, m⟩) pullA (by simp) (by simp) ?_)); (first | refine ⟨rvsA, ?_⟩ | (clear F M a; intro a w F M) | (clear M; intro w M))) | (refine svK F (h := ?_); clear F a; intro a F) | refine svK0 F (h := ?_) | ((refine sx_guardb F rfl (fun hg => ?_) (fun hg => ?_)) <;> (rw [hg] at F; (try (exact no hg)))) | (refine pvF (h := ?_); intro nb) | refine pvK (h := ?_) | refine pvK0 (h := ?_) | (refine pv_nil ?_; intro a w F M; (try (replace F := F.filt [0, 1, 4, 5, 6, 7, 8, 10, 26, 37] rfl))) | ((fail_if_success (with_reducible first | refine isW ?_ | refine isP ?_ | refine isL ?_)); (first | with_reducible refine sx_region ?_ | ((with_reducible refine isK ?_); (first | refine svT F (h := ?_) | refine svF F (h := ?_) | ((refine svB F (fun hc => ?_) (fun hc => ?_)) <;> (try (exact no hc))))) | ((with_reducible refine isD ?_); (first | (refine svDrawL (id := 9) [7] [] [(7, [0])] [0, 1, 2, 3, 4, 5, 6, 7, 8] F M (h := ?_); clear F M a w))) | with_reducible refine wp_scope_straight ?_ | with_reducible refine wp_label ?_ | go_step))))
  have e0 : (List.replicate m (oz 0)).take 0 ++ [o].take (Nat.min 1 m) ++ (List.replicate m (oz 0)).drop (0 + Nat.min 1 m) = repL o (Nat.min 1 m) m := by
    unfold repL
    cases m with
    | zero => rfl
    | succ m => rw [show Nat.min 1 (m + 1) = 1 from Nat.min_eq_left (by omega)]; simp
  rw [e0] at M
  have hk0 : Nat.min 1 m ≤ m ∧ (Nat.min 1 m = 0 → m = 0) := by
    have : Nat.min 1 m = min 1 m := rfl
    omega
  obtain ⟨k0, hk1⟩ : ∃ k0, Nat.min 1 m = k0 := ⟨_, rfl⟩
  rw [hk1] at M hk0
  rw [hk1] at F
  refine svLoop F M k0 (fun c => [(8, .int .i64 c)]) (fun c => [ownT 24 opL 4 (sl ⟨some ⟨nm, 0, none⟩, m, m⟩) (repL o c m)]) (fun c => c ≤ m ∧ (c = 0 → m = 0)) (fun c => m - c) [] hk0 ?_ (hR := by (repeat (first | exact Pulls.nil | (apply Pulls.cons; (focus ((repeat (first | exact Pull.here | apply Pull.there)); done))))))
  (rintro c ⟨q1, q2⟩ a w F M; (try simp only [List.cons_append, List.nil_append] at F M q1 q2 ⊢))
  have hrl := repL_len (o := o) q1
  by_cases hcm : c < m
  · obtain ⟨kk, hkk⟩ : ∃ kk, Nat.min c (m - c) = kk := ⟨_, rfl⟩
    have hk2 : kk ≤ c ∧ kk ≤ m - c ∧ (0 < c → 0 < kk) := by
      have : Nat.min c (m - c) = min c (m - c) := rfl
      omega
    have hstep : (repL o c m).take c ++ ((repL o c m).take c).take kk ++ (repL o c m).drop (c + kk) = repL o (c + kk) m := by
      unfold repL
      have e1 : (List.replicate c o ++ List.replicate (m - c) (oz 0)).take c = List.replicate c o := by
        rw [List.take_append_of_le_length (by simp)]; simp
      have e2 : (List.replicate c o ++ List.replicate (m - c) (oz 0)).drop (c + kk) = List.replicate (m - (c + kk)) (oz 0) := by
        rw [List.drop_append, List.drop_of_length_le (by simp)]; simp; omega
      rw [e1, e2, List.take_replicate, Nat.min_eq_left hk2.1, List.replicate_append_replicate]
    have htl : ((repL o c m).take c).length = c := by rw [List.length_take]; omega
    (repeat' (first | (refine pv1 (h := ?_) (hr := by ((first | (refine rt_fromC (b := nm) (m := m) (c := m) (j := c) (k := .i64) rfl rfl rfl inferInstance q1 hcm) | (refine rt_to (h := ⟨some ⟨nm, 0, none⟩, m, m⟩) (k := .i64) (j := c) rfl rfl rfl inferInstance q1))))) | (refine sx_nil ?_; skip) | (refine sv1 F M (h := ?_); clear F a; intro a F) | refine pv1 (h := ?_) | (refine sv3 F M (h := ?_); clear M; intro w M) | (refine sv2 F M (h := ?_); clear F M a; intro nb a w F M) | refine pv3 (h := ?_) | (refine pv2 (h := ?_); intro nb) | ((first | refine svC F M (h := ?_) | refine svC0 F M (h := ?_) | refine pvC (h := ?_) | refine pvC0 (h := ?_)); ((refine ac_copyMT (f := opL) rfl rfl inferInstance inferInstance (b := nm) (j := c) (dl := m - c) (dc := m - c) rfl rfl (ys := (repL o c m).take c) (gs_toT pullA inferInstance (by omega)) htl.symm hkk (cap := m) (xs := repL o c m) (hd := ⟨some ⟨nm, 0, none⟩, m, m⟩) pullA (by rw [hrl]) (by rw [hrl]; omega) ?_)); (first | refine ⟨rvsA, ?_⟩ | (clear F M a; intro a w F M) | (clear M; intro w M))) | (with_reducible refine ql_open ?_) | (refine svK F (h := ?_); clear F a; intro a F) | refine svK0 F (h := ?_) | ((refine sx_guardb F rfl (fun hg => ?_) (fun hg => ?_)) <;> (rw [hg] at F; (try (exact no hg)))) | (refine pvF (h := ?_); intro nb) | refine pvK (h := ?_) | refine pvK0 (h := ?_) | (refine pv_nil ?_; intro a w F M; skip) | ((fail_if_success (with_reducible first | refine isW ?_ | refine isP ?_ | refine isL ?_)); (first | with_reducible refine sx_region ?_ | ((with_reducible refine isK ?_); (first | refine svT F (h := ?_) | refine svF F (h := ?_) | ((refine svB F (fun hc => ?_) (fun hc => ?_)) <;> (try (exact no hc))))) | ((with_reducible refine isD ?_); (first | (refine svDrawL (id := 9) [7] [] [(7, [0])] [0, 1, 2, 3, 4, 5, 6, 7, 8] F M (h := ?_); clear F M a w))) | with_reducible refine wp_scope_straight ?_ | with_reducible refine wp_label ?_ | go_step))))
    rw [hstep] at M
    have e5 : (c : Int) + (kk : Int) = ((c + kk : Nat) : Int) := by omega
    rw [e5] at F
    exact sv_again F M (c + kk) kpA permsA ⟨by omega, by omega⟩ (by omega)
  · obtain rfl : c = m := by omega
    have e6 : repL o c c = List.replicate c o := by simp [repL]
    rw [e6] at M
    rw [e6] at hrl
    (repeat' (first | (refine sx_nil ?_; (try (replace F := F.filt [0, 1, 4, 5, 6, 7, 8, 10, 26, 37] rfl))) | (refine sv1 F M (h := ?_); clear F a; intro a F) | refine pv1 (h := ?_) | (refine sv3 F M (h := ?_); clear M; intro w M) | (refine sv2 F M (h := ?_); clear F M a; intro nb a w F M) | refine pv3 (h := ?_) | (refine pv2 (h := ?_); intro nb) | ((first | refine svC F M (h := ?_) | refine svC0 F M (h := ?_) | refine pvC (h := ?_) | refine pvC0 (h := ?_)); (fail); (first | refine ⟨rvsA, ?_⟩ | (clear F M a; intro a w F M) | (clear M; intro w M))) | (refine svK F (h := ?_); clear F a; intro a F) | refine svK0 F (h := ?_) | ((refine sx_guardb F rfl (fun hg => ?_) (fun hg => ?_)) <;> (rw [hg] at F; (try (exact no hg)))) | (refine pvF (h := ?_); intro nb) | refine pvK (h := ?_) | refine pvK0 (h := ?_) | (refine pv_nil ?_; intro a w F M; (try (replace F := F.filt [0, 1, 4, 5, 6, 7, 8, 10, 26, 37] rfl))) | ((fail_if_success (with_reducible first | refine isW ?_ | refine isP ?_ | refine isL ?_)); (first | with_reducible refine sx_region ?_ | ((with_reducible refine isK ?_); (first | refine svT F (h := ?_) | refine svF F (h := ?_) | ((refine svB F (fun hc => ?_) (fun hc => ?_)) <;> (try (exact no hc))))) | ((with_reducible refine isD ?_); (first | (refine svDrawL (id := 9) [7] [] [(7, [0])] [0, 1, 2, 3, 4, 5, 6, 7, 8] F M (h := ?_); clear F M a w))) | with_reducible refine wp_scope_straight ?_ | with_reducible refine wp_label ?_ | go_step))))
    all_goals (first | refine svEnd F M ?_ | refine svRet F M ?_)
    all_goals exact ⟨_, _, rfl, ⟨_, rfl, rfl⟩, M.perms permsA⟩
def tickO : Opn := ⟨7, 0, 0, 0⟩
theorem ticks_spec (n : Int) (hn : n ≤ 1048576) (R : List Asn) : Spec 21 [.int .i64 n] R fun u L' => ∃ h, u = sl h ∧ L' = ownT 24 opL 4 (sl h) (List.replicate n.toNat tickO) :: R := by
  have hrp := fun (h : SlH) R => repeat_spec h tickO n.toNat (by omega) R
  have hmx : min (max n 0) 1048576 = (n.toNat : Int) := by omega
  have e1 : (if 0 > n then 0 else n) = (n.toNat : Int) := by split <;> omega
  have e2 : (if (1048576 : Int) < (n.toNat : Int) then 1048576 else (n.toNat : Int)) = (n.toNat : Int) := by split <;> omega
  (intro G w M; refine sx_enter (vs := ([.int .i64 n] : List Value)) Tryd.func21 (n := 9) rfl rfl rfl rfl ?_; intro a F; (try simp only [List.cons_append, List.nil_append] at M))
  (repeat' (first | ((first | refine sv1 F M (h := ?_) (hr := by ((first | (refine rt_max2 rfl rfl e1) | (refine rt_min2 rfl rfl e2)))) | refine pv1 (h := ?_) (hr := by ((first | (refine rt_max2 rfl rfl e1) | (refine rt_min2 rfl rfl e2))))); (try (clear F a; intro a F))) | (refine sx_nil ?_; (try (replace F := F.filt [0, 2] rfl))) | (refine sv1 F M (h := ?_); clear F a; intro a F) | refine pv1 (h := ?_) | (refine sv3 F M (h := ?_); clear M; intro w M) | (refine sv2 F M (h := ?_); clear F M a; intro nb a w F M) | refine pv3 (h := ?_) | (refine pv2 (h := ?_); intro nb) | ((first | refine svC F M (h := ?_) | refine svC0 F M (h := ?_) | refine pvC (h := ?_) | refine pvC0 (h := ?_)); ((refine acK (L1 := ownT 24 opL 4 (sl ⟨some ⟨nb, 0, none⟩, 1, 1⟩) [tickO] :: _) (k := 42) (hrp _ _) ?_; rintro u L' ⟨h, rfl, rfl⟩)); (first | refine ⟨rvsA, ?_⟩ | (clear F M a; intro a w F M) | (clear M; intro w M))) | (refine svK F (h := ?_); clear F a; intro a F) | refine svK0 F (h := ?_) | ((refine sx_guardb F rfl (fun hg => ?_) (fun hg => ?_)) <;> (rw [hg] at F; (try (exact no hg)))) | (refine pvF (h := ?_); intro nb) | refine pvK (h := ?_) | refine pvK0 (h := ?_) | (refine pv_nil ?_; intro a w F M; (try (replace F := F.filt [0, 2] rfl))) | ((fail_if_success (with_reducible first | refine isW ?_ | refine isP ?_ | refine isL ?_)); (first | with_reducible refine sx_region ?_ | ((with_reducible refine isK ?_); (first | refine svT F (h := ?_) | refine svF F (h := ?_) | ((refine svB F (fun hc => ?_) (fun hc => ?_)) <;> (try (exact no hc))))) | ((with_reducible refine isD ?_); fail) | with_reducible refine wp_scope_straight ?_ | with_reducible refine wp_label ?_ | go_step))))
  all_goals (first | refine svEnd F M ?_ | refine svRet F M ?_)
  all_goals exact ⟨_, _, rfl, ⟨_, rfl, rfl⟩, M.perms permsA⟩
end Go.Proofs.YtaggjikjohamjaaDoor
end
section
namespace Go.Proofs.YtaggjikjohamjaaDoor
open Go.RowKit Go.Maps
set_option linter.unusedVariables false
set_option maxRecDepth 100000
set_option linter.unusedSimpArgs false
set_option maxHeartbeats 8000000
theorem gv_tens {L : List Asn} (h : Gives L Laid) : Gives L Tens := fun w M => (h w M).1
/-- deposit 32, tick, exit 0, fly -/
def aTxt : List UInt8 := [100, 101, 112, 111, 115, 105, 116, 32, 51, 50, 10, 116, 105, 99, 107, 10, 101, 120, 105, 116, 32, 48, 10, 102, 108, 121]
def aOps : List Opn := [⟨1, 0, 0, 32⟩, ⟨7, 0, 0, 0⟩, ⟨2, 0, 0, 0⟩, ⟨0, 0, 0, 0⟩]
/-- partial 3 7 -/
def aLin : List UInt8 := [112, 97, 114, 116, 105, 97, 108, 32, 51, 32, 55]
theorem a_read : readM aTxt = aOps := by decide +kernel
theorem a_fmt : fmtM ⟨6, 3, 0, 7⟩ = aLin := by decide +kernel
theorem alive20_spec (R : List Asn) (hm : Gives R MxL) (hL : Gives R Laid) : Spec 12 [] R fun u L' => u = .bool true ∧ L' = R := by
  have hrd := fun R hm hL => read_spec aTxt (by decide) R hm hL
  rw [a_read] at hrd
  have hfm := fun R hT => fmt_spec ⟨6, 3, 0, 7⟩ ⟨by decide, by decide⟩ ⟨⟨by decide, by decide⟩, ⟨by decide, by decide⟩, by decide, by decide⟩ R hT
  rw [a_fmt] at hfm
  have hsm := fun (v1 v2 : Value) R g1 g2 => same_spec v1 v2 aOps aOps R g1 g2
  rw [decide_eq_true (rfl : aOps = aOps)] at hsm
  have hct := fun (v : Value) R hg => count_spec v aOps 7 R hg
  rw [show cntK aOps 7 = 1 by decide] at hct
  have htk := fun R => ticks_spec 3 (by decide) R
  (intro G w M; refine sx_enter (vs := ([] : List Value)) Tryd.func12 (n := 25) rfl rfl rfl rfl ?_; intro a F; (try simp only [List.cons_append, List.nil_append] at M))
  have hm2 : Gives (R ++ G) MxL := Gives.app hm
  have hL2 : Gives (R ++ G) Laid := Gives.app hL
  have hT2 : Gives (R ++ G) Tens := gv_tens hL2
  (repeat' (first | (refine sx_nil ?_; (try (replace F := F.filt [0, 1] rfl))) | (refine sv1 F M (h := ?_); clear F a; intro a F) | refine pv1 (h := ?_) | (refine sv3 F M (h := ?_); clear M; intro w M) | (refine sv2 F M (h := ?_); clear F M a; intro nb a w F M) | refine pv3 (h := ?_) | (refine pv2 (h := ?_); intro nb) | ((first | refine svC F M (h := ?_) | refine svC0 F M (h := ?_) | refine pvC (h := ?_) | refine pvC0 (h := ?_)); ((first | ((refine acW (k := 14) (hrd _ ?_ ?_) ?_); (exact gvA); (exact gvA); rintro u L' ⟨h, rfl, rfl⟩) | ((refine acW (k := 15) (hsm _ _ _ ?_ ?_) ?_); (exact gs_own pullA); (exact gs_own pullA); rintro u L' ⟨rfl, rfl⟩) | ((refine acW (k := 8) (hfm _ ?_) ?_); (exact gvA); rintro u L' ⟨rfl, rfl⟩) | ((refine acW (k := 20) (hct _ _ ?_) ?_); (exact gs_own pullA); rintro u L' ⟨rfl, rfl⟩) | ((refine acW (k := 21) (htk _) ?_); rintro u L' ⟨h2, rfl, rfl⟩))); (first | refine ⟨rvsA, ?_⟩ | (clear F M a; intro a w F M) | (clear M; intro w M))) | (refine svK F (h := ?_); clear F a; intro a F) | refine svK0 F (h := ?_) | ((refine sx_guardb F rfl (fun hg => ?_) (fun hg => ?_)) <;> (rw [hg] at F; (try (exact no hg)))) | (refine pvF (h := ?_); intro nb) | refine pvK (h := ?_) | refine pvK0 (h := ?_) | (refine pv_nil ?_; intro a w F M; (try (replace F := F.filt [0, 1] rfl))) | ((fail_if_success (with_reducible first | refine isW ?_ | refine isP ?_ | refine isL ?_)); (first | with_reducible refine sx_region ?_ | ((with_reducible refine isK ?_); (first | refine svT F (h := ?_) | refine svF F (h := ?_) | ((refine svB F (fun hc => ?_) (fun hc => ?_)) <;> (try (exact no hc))))) | ((with_reducible refine isD ?_); fail) | with_reducible refine wp_scope_straight ?_ | with_reducible refine wp_label ?_ | go_step))))
  all_goals (first | refine svEnd F M ?_ | refine svRet F M ?_)
  all_goals exact ⟨_, _, rfl, ⟨rfl, rfl⟩, M.perms permsA⟩
section
variable (h : SlH) (bs : List UInt8) (R : List Asn) (hg : BG R h bs) (hm : Gives R MxL) (hL : Gives R Laid)
include hg hm hL
theorem decodes_law : Spec 6 [sl h] R fun u L' => u = .bool true ∧ L' = R := by
  have hal := fun R hm hL => alive20_spec R hm hL
  by_cases hb : 2000 < bs.length
  · (intro G w M; refine sx_enter (vs := ([sl h] : List Value)) Tryd.func6 (n := 15) rfl rfl rfl rfl ?_; intro a F; (try simp only [List.cons_append, List.nil_append] at M))
    have gb := hg.app G
    have gg := gb.g
    have hm2 : Gives (R ++ G) MxL := Gives.app hm
    have hL2 : Gives (R ++ G) Laid := Gives.app hL
    (repeat' (first | (refine sx_nil ?_; (try (replace F := F.filt [0, 2, 5] rfl))) | (refine sv1 F M (h := ?_); clear F a; intro a F) | refine pv1 (h := ?_) | (refine sv3 F M (h := ?_); clear M; intro w M) | (refine sv2 F M (h := ?_); clear F M a; intro nb a w F M) | refine pv3 (h := ?_) | (refine pv2 (h := ?_); intro nb) | ((first | refine svC F M (h := ?_) | refine svC0 F M (h := ?_) | refine pvC (h := ?_) | refine pvC0 (h := ?_)); (((refine acW (k := 12) (hal _ ?_ ?_) ?_); (exact gvA); (exact gvA); rintro u L' ⟨rfl, rfl⟩)); (first | refine ⟨rvsA, ?_⟩ | (clear F M a; intro a w F M) | (clear M; intro w M))) | (refine svK F (h := ?_); clear F a; intro a F) | refine svK0 F (h := ?_) | ((refine sx_guardb F rfl (fun hg => ?_) (fun hg => ?_)) <;> (rw [hg] at F; (try (exact no hg)))) | (refine pvF (h := ?_); intro nb) | refine pvK (h := ?_) | refine pvK0 (h := ?_) | (refine pv_nil ?_; intro a w F M; (try (replace F := F.filt [0, 2, 5] rfl))) | ((fail_if_success (with_reducible first | refine isW ?_ | refine isP ?_ | refine isL ?_)); (first | with_reducible refine sx_region ?_ | ((with_reducible refine isK ?_); (first | refine svT F (h := ?_) | refine svF F (h := ?_) | ((refine svB F (fun hc => ?_) (fun hc => ?_)) <;> (try (exact no hc))))) | ((with_reducible refine isD ?_); fail) | with_reducible refine wp_scope_straight ?_ | with_reducible refine wp_label ?_ | go_step))))
    all_goals (first | refine svEnd F M ?_ | refine svRet F M ?_)
    all_goals exact ⟨_, _, rfl, ⟨rfl, rfl⟩, M.perms permsA⟩
  · have hsd := fun R hg => sdec_spec h bs (by omega) R hg
    have hrd := fun R hg => rdecall_spec h bs (by omega) R hg
    generalize decAll bs 0 = X at *
    have hsm := fun (v1 v2 : Value) R g1 g2 => same_spec v1 v2 X X R g1 g2
    rw [decide_eq_true (rfl : X = X)] at hsm
    (intro G w M; refine sx_enter (vs := ([sl h] : List Value)) Tryd.func6 (n := 15) rfl rfl rfl rfl ?_; intro a F; (try simp only [List.cons_append, List.nil_append] at M))
    have gb := hg.app G
    have gg := gb.g
    have hm2 : Gives (R ++ G) MxL := Gives.app hm
    have hL2 : Gives (R ++ G) Laid := Gives.app hL
    (repeat' (first | (refine sx_nil ?_; (try (replace F := F.filt [0, 2, 5] rfl))) | (refine sv1 F M (h := ?_); clear F a; intro a F) | refine pv1 (h := ?_) | (refine sv3 F M (h := ?_); clear M; intro w M) | (refine sv2 F M (h := ?_); clear F M a; intro nb a w F M) | refine pv3 (h := ?_) | (refine pv2 (h := ?_); intro nb) | ((first | refine svC F M (h := ?_) | refine svC0 F M (h := ?_) | refine pvC (h := ?_) | refine pvC0 (h := ?_)); ((first | ((refine acW (k := 12) (hal _ ?_ ?_) ?_); (exact gvA); (exact gvA); rintro u L' ⟨rfl, rfl⟩) | ((refine acW (k := 18) (hsd _ ?_) ?_); (focus ((repeat (first | assumption | apply BG.tail)); done)); rintro u L' ⟨h1, rfl, rfl⟩) | ((refine acW (k := 19) (hrd _ ?_) ?_); (focus ((repeat (first | assumption | apply BG.tail)); done)); rintro u L' ⟨h2, rfl, rfl⟩) | ((refine acW (k := 15) (hsm _ _ _ ?_ ?_) ?_); (exact gs_own pullA); (exact gs_own pullA); rintro u L' ⟨rfl, rfl⟩))); (first | refine ⟨rvsA, ?_⟩ | (clear F M a; intro a w F M) | (clear M; intro w M))) | (refine svK F (h := ?_); clear F a; intro a F) | refine svK0 F (h := ?_) | ((refine sx_guardb F rfl (fun hg => ?_) (fun hg => ?_)) <;> (rw [hg] at F; (try (exact no hg)))) | (refine pvF (h := ?_); intro nb) | refine pvK (h := ?_) | refine pvK0 (h := ?_) | (refine pv_nil ?_; intro a w F M; (try (replace F := F.filt [0, 2, 5] rfl))) | ((fail_if_success (with_reducible first | refine isW ?_ | refine isP ?_ | refine isL ?_)); (first | with_reducible refine sx_region ?_ | ((with_reducible refine isK ?_); (first | refine svT F (h := ?_) | refine svF F (h := ?_) | ((refine svB F (fun hc => ?_) (fun hc => ?_)) <;> (try (exact no hc))))) | ((with_reducible refine isD ?_); fail) | with_reducible refine wp_scope_straight ?_ | with_reducible refine wp_label ?_ | go_step))))
    all_goals (first | refine svEnd F M ?_ | refine svRet F M ?_)
    all_goals exact ⟨_, _, rfl, ⟨rfl, rfl⟩, M.perms permsA⟩
def cSum (l : List Opn) : Nat → Nat
  | 0 => 0
  | k + 1 => cSum l k + cntK l k
omit hg hm hL in
theorem cSum_le (l : List Opn) (k : Nat) : cSum l k ≤ k * l.length := by
  induction k with
  | zero => simp [cSum]
  | succ k ih => have := cntK_le l k; rw [cSum, Nat.succ_mul]; omega
theorem counts_law (n : Int) (hn : I64 n) : Spec 7 [sl h, .int .i64 n] R fun u L' => u = .bool true ∧ L' = R := by
  have hal := fun R hm hL => alive20_spec R hm hL
  by_cases hb : 2000 < bs.length
  · (intro G w M; refine sx_enter (vs := ([sl h, .int .i64 n] : List Value)) Tryd.func7 (n := 56) rfl rfl rfl rfl ?_; intro a F; (try simp only [List.cons_append, List.nil_append] at M))
    have gb := hg.app G
    have gg := gb.g
    have hm2 : Gives (R ++ G) MxL := Gives.app hm
    have hL2 : Gives (R ++ G) Laid := Gives.app hL
    (repeat' (first | (refine sx_nil ?_; (try (replace F := F.filt [0, 1, 4, 5, 6, 7, 8, 15, 20] rfl))) | (refine sv1 F M (h := ?_); clear F a; intro a F) | refine pv1 (h := ?_) | (refine sv3 F M (h := ?_); clear M; intro w M) | (refine sv2 F M (h := ?_); clear F M a; intro nb a w F M) | refine pv3 (h := ?_) | (refine pv2 (h := ?_); intro nb) | ((first | refine svC F M (h := ?_) | refine svC0 F M (h := ?_) | refine pvC (h := ?_) | refine pvC0 (h := ?_)); (((refine acW (k := 12) (hal _ ?_ ?_) ?_); (exact gvA); (exact gvA); rintro u L' ⟨rfl, rfl⟩)); (first | refine ⟨rvsA, ?_⟩ | (clear F M a; intro a w F M) | (clear M; intro w M))) | (refine svK F (h := ?_); clear F a; intro a F) | refine svK0 F (h := ?_) | ((refine sx_guardb F rfl (fun hg => ?_) (fun hg => ?_)) <;> (rw [hg] at F; (try (exact no hg)))) | (refine pvF (h := ?_); intro nb) | refine pvK (h := ?_) | refine pvK0 (h := ?_) | (refine pv_nil ?_; intro a w F M; (try (replace F := F.filt [0, 1, 4, 5, 6, 7, 8, 15, 20] rfl))) | ((fail_if_success (with_reducible first | refine isW ?_ | refine isP ?_ | refine isL ?_)); (first | with_reducible refine sx_region ?_ | ((with_reducible refine isK ?_); (first | refine svT F (h := ?_) | refine svF F (h := ?_) | ((refine svB F (fun hc => ?_) (fun hc => ?_)) <;> (try (exact no hc))))) | ((with_reducible refine isD ?_); fail) | with_reducible refine wp_scope_straight ?_ | with_reducible refine wp_label ?_ | go_step))))
    all_goals (first | refine svEnd F M ?_ | refine svRet F M ?_)
    all_goals exact ⟨_, _, rfl, ⟨rfl, rfl⟩, M.perms permsA⟩
  by_cases hn2 : 1048576 < n
  · (intro G w M; refine sx_enter (vs := ([sl h, .int .i64 n] : List Value)) Tryd.func7 (n := 56) rfl rfl rfl rfl ?_; intro a F; (try simp only [List.cons_append, List.nil_append] at M))
    have gb := hg.app G
    have gg := gb.g
    have hm2 : Gives (R ++ G) MxL := Gives.app hm
    have hL2 : Gives (R ++ G) Laid := Gives.app hL
    (repeat' (first | (refine sx_nil ?_; (try (replace F := F.filt [0, 1, 4, 5, 6, 7, 8, 15, 20] rfl))) | (refine sv1 F M (h := ?_); clear F a; intro a F) | refine pv1 (h := ?_) | (refine sv3 F M (h := ?_); clear M; intro w M) | (refine sv2 F M (h := ?_); clear F M a; intro nb a w F M) | refine pv3 (h := ?_) | (refine pv2 (h := ?_); intro nb) | ((first | refine svC F M (h := ?_) | refine svC0 F M (h := ?_) | refine pvC (h := ?_) | refine pvC0 (h := ?_)); (((refine acW (k := 12) (hal _ ?_ ?_) ?_); (exact gvA); (exact gvA); rintro u L' ⟨rfl, rfl⟩)); (first | refine ⟨rvsA, ?_⟩ | (clear F M a; intro a w F M) | (clear M; intro w M))) | (refine svK F (h := ?_); clear F a; intro a F) | refine svK0 F (h := ?_) | ((refine sx_guardb F rfl (fun hg => ?_) (fun hg => ?_)) <;> (rw [hg] at F; (try (exact no hg)))) | (refine pvF (h := ?_); intro nb) | refine pvK (h := ?_) | refine pvK0 (h := ?_) | (refine pv_nil ?_; intro a w F M; (try (replace F := F.filt [0, 1, 4, 5, 6, 7, 8, 15, 20] rfl))) | ((fail_if_success (with_reducible first | refine isW ?_ | refine isP ?_ | refine isL ?_)); (first | with_reducible refine sx_region ?_ | ((with_reducible refine isK ?_); (first | refine svT F (h := ?_) | refine svF F (h := ?_) | ((refine svB F (fun hc => ?_) (fun hc => ?_)) <;> (try (exact no hc))))) | ((with_reducible refine isD ?_); fail) | with_reducible refine wp_scope_straight ?_ | with_reducible refine wp_label ?_ | go_step))))
    all_goals (first | refine svEnd F M ?_ | refine svRet F M ?_)
    all_goals exact ⟨_, _, rfl, ⟨rfl, rfl⟩, M.perms permsA⟩
  · have hsd := fun R hg => sdec_spec h bs (by omega) R hg
    have hk := decAll_k bs bs.length 0 (by omega)
    have hxl := decAll_len bs bs.length 0 (by omega)
    generalize decAll bs 0 = X at *
    obtain ⟨s1, s2⟩ := cnt_sum X hk
    have s3 : cSum X 8 = X.length := by simpa [cSum] using s1
    have hct := fun (v : Value) (k : Int) R hg => count_spec v X k R hg
    have htk := fun R => ticks_spec n (by omega) R
    have hml : (List.replicate n.toNat tickO).length = n.toNat := List.length_replicate ..
    have hct7 := fun (v : Value) R hg => count_spec v (List.replicate n.toNat tickO) 7 R hg
    have hc7 : cntK (List.replicate n.toNat tickO) 7 = n.toNat := by
      unfold cntK
      rw [List.filter_replicate, if_pos (by decide), List.length_replicate]
    rw [hc7] at hct7
    generalize List.replicate n.toNat tickO = Y at *
    have e1 : (if 0 > n then 0 else n) = (n.toNat : Int) := by split <;> omega
    (intro G w M; refine sx_enter (vs := ([sl h, .int .i64 n] : List Value)) Tryd.func7 (n := 56) rfl rfl rfl rfl ?_; intro a F; (try simp only [List.cons_append, List.nil_append] at M))
    have gb := hg.app G
    have gg := gb.g
    have hm2 : Gives (R ++ G) MxL := Gives.app hm
    have hL2 : Gives (R ++ G) Laid := Gives.app hL
    (repeat' (first | (refine sx_nil ?_; (try (replace F := F.filt [0, 1, 4, 5, 6, 7, 8, 15, 20] rfl))) | (refine sv1 F M (h := ?_); clear F a; intro a F) | refine pv1 (h := ?_) | (refine sv3 F M (h := ?_); clear M; intro w M) | (refine sv2 F M (h := ?_); clear F M a; intro nb a w F M) | refine pv3 (h := ?_) | (refine pv2 (h := ?_); intro nb) | ((first | refine svC F M (h := ?_) | refine svC0 F M (h := ?_) | refine pvC (h := ?_) | refine pvC0 (h := ?_)); (((refine acW (k := 18) (hsd _ ?_) ?_); (focus ((repeat (first | assumption | apply BG.tail)); done)); rintro u L' ⟨h1, rfl, rfl⟩)); (first | refine ⟨rvsA, ?_⟩ | (clear F M a; intro a w F M) | (clear M; intro w M))) | (refine svK F (h := ?_); clear F a; intro a F) | refine svK0 F (h := ?_) | ((refine sx_guardb F rfl (fun hg => ?_) (fun hg => ?_)) <;> (rw [hg] at F; (try (exact no hg)))) | (refine pvF (h := ?_); intro nb) | refine pvK (h := ?_) | refine pvK0 (h := ?_) | (refine pv_nil ?_; intro a w F M; (try (replace F := F.filt [0, 1, 4, 5, 6, 7, 8, 15, 20] rfl))) | ((fail_if_success (with_reducible first | refine isW ?_ | refine isP ?_ | refine isL ?_)); (first | with_reducible refine sx_region ?_ | ((with_reducible refine isK ?_); (first | refine svT F (h := ?_) | refine svF F (h := ?_) | ((refine svB F (fun hc => ?_) (fun hc => ?_)) <;> (try (exact no hc))))) | ((with_reducible refine isD ?_); fail) | with_reducible refine wp_scope_straight ?_ | with_reducible refine wp_label ?_ | go_step))))
    refine svLoop F M (0 : Nat) (fun k => [(7, .int .i64 k), (6, .int .i64 (cSum X k : Nat))]) (fun _ => []) (fun k => k ≤ 8) (fun k => 8 - k) [] (Nat.zero_le _) ?_
    (rintro k q1 a w F M; (try simp only [List.cons_append, List.nil_append] at F M q1 ⊢))
    have hcl := cSum_le X k
    by_cases hk8 : k ≤ 7
    · have hck := cntK_le X k
      have hcx := fun (v : Value) R hg => hct v (k : Int) R hg
      have e2 : ((cSum X k : Nat) : Int) + (cntK X k : Nat) = (cSum X (k + 1) : Nat) := by rw [cSum]; omega
      have hb2 : cSum X k ≤ 100000 := by
        have : k * X.length ≤ 8 * X.length := Nat.mul_le_mul_right _ (by omega)
        omega
      (repeat' (first | (refine sx_nil ?_; (try (replace F := F.filt [0, 1, 4, 5, 6, 7, 8, 15, 20] rfl))) | (refine sv1 F M (h := ?_); clear F a; intro a F) | refine pv1 (h := ?_) | (refine sv3 F M (h := ?_); clear M; intro w M) | (refine sv2 F M (h := ?_); clear F M a; intro nb a w F M) | refine pv3 (h := ?_) | (refine pv2 (h := ?_); intro nb) | ((first | refine svC F M (h := ?_) | refine svC0 F M (h := ?_) | refine pvC (h := ?_) | refine pvC0 (h := ?_)); (((refine acW (k := 20) (hcx _ _ ?_) ?_); (exact gs_own pullA); rintro u L' ⟨rfl, rfl⟩)); (first | refine ⟨rvsA, ?_⟩ | (clear F M a; intro a w F M) | (clear M; intro w M))) | (refine svK F (h := ?_); clear F a; intro a F) | refine svK0 F (h := ?_) | ((refine sx_guardb F rfl (fun hg => ?_) (fun hg => ?_)) <;> (rw [hg] at F; (try (exact no hg)))) | (refine pvF (h := ?_); intro nb) | refine pvK (h := ?_) | refine pvK0 (h := ?_) | (refine pv_nil ?_; intro a w F M; (try (replace F := F.filt [0, 1, 4, 5, 6, 7, 8, 15, 20] rfl))) | ((fail_if_success (with_reducible first | refine isW ?_ | refine isP ?_ | refine isL ?_)); (first | with_reducible refine sx_region ?_ | ((with_reducible refine isK ?_); (first | refine svT F (h := ?_) | refine svF F (h := ?_) | ((refine svB F (fun hc => ?_) (fun hc => ?_)) <;> (try (exact no hc))))) | ((with_reducible refine isD ?_); fail) | with_reducible refine wp_scope_straight ?_ | with_reducible refine wp_label ?_ | go_step))))
      rw [e2] at F
      exact sv_again F M (k + 1) kpA permsA (by omega) (by omega)
    · obtain rfl : k = 8 := by omega
      rw [s3] at F
      have hc8 := fun (v : Value) R hg => hct v 8 R hg
      rw [s2] at hc8
      have d1 : decide ((X.length : Int) = (X.length : Int)) = true := by simp
      have d2 : decide ((Y.length : Int) = (n.toNat : Int)) = true := by rw [hml]; simp
      have d3 : decide ((n.toNat : Int) = (Y.length : Int)) = true := by rw [hml]; simp
      (repeat' (first | ((first | refine sv1 F M (h := ?_) (hr := by ((refine rt_max2 rfl rfl e1))) | refine pv1 (h := ?_) (hr := by ((refine rt_max2 rfl rfl e1)))); (try (clear F a; intro a F))) | (refine sx_nil ?_; (try (replace F := F.filt [0, 1, 4, 5, 6, 7, 8, 15, 20] rfl))) | (refine sv1 F M (h := ?_); clear F a; intro a F) | refine pv1 (h := ?_) | (refine sv3 F M (h := ?_); clear M; intro w M) | (refine sv2 F M (h := ?_); clear F M a; intro nb a w F M) | refine pv3 (h := ?_) | (refine pv2 (h := ?_); intro nb) | ((first | refine svC F M (h := ?_) | refine svC0 F M (h := ?_) | refine pvC (h := ?_) | refine pvC0 (h := ?_)); ((first | ((refine acW (k := 12) (hal _ ?_ ?_) ?_); (exact gvA); (exact gvA); rintro u L' ⟨rfl, rfl⟩) | ((refine acW (k := 21) (htk _) ?_); rintro u L' ⟨h2, rfl, rfl⟩) | ((refine acW (k := 20) (hc8 _ _ ?_) ?_); (exact gs_own pullA); rintro u L' ⟨rfl, rfl⟩) | ((refine acW (k := 20) (hct7 _ _ ?_) ?_); (exact gs_own pullA); rintro u L' ⟨rfl, rfl⟩))); (first | refine ⟨rvsA, ?_⟩ | (clear F M a; intro a w F M) | (clear M; intro w M))) | (refine svK F (h := ?_); clear F a; intro a F) | refine svK0 F (h := ?_) | ((refine sx_guardb F rfl (fun hg => ?_) (fun hg => ?_)) <;> (rw [hg] at F; (try (exact no hg)))) | (refine pvF (h := ?_); intro nb) | refine pvK (h := ?_) | refine pvK0 (h := ?_) | (refine pv_nil ?_; intro a w F M; (try (replace F := F.filt [0, 1, 4, 5, 6, 7, 8, 15, 20] rfl))) | ((fail_if_success (with_reducible first | refine isW ?_ | refine isP ?_ | refine isL ?_)); (first | with_reducible refine sx_region ?_ | ((with_reducible refine isK ?_); (first | refine svT F (h := ?_) | refine svF F (h := ?_) | ((refine svB F (fun hc => ?_) (fun hc => ?_)) <;> (try (exact no hc))))) | ((with_reducible refine isD ?_); fail) | with_reducible refine wp_scope_straight ?_ | with_reducible refine wp_label ?_ | go_step))))
      try rw [d1]
      (repeat' (first | ((first | refine sv1 F M (h := ?_) (hr := by ((refine rt_max2 rfl rfl e1))) | refine pv1 (h := ?_) (hr := by ((refine rt_max2 rfl rfl e1)))); (try (clear F a; intro a F))) | (refine sx_nil ?_; (try (replace F := F.filt [0, 1, 4, 5, 6, 7, 8, 15, 20] rfl))) | (refine sv1 F M (h := ?_); clear F a; intro a F) | refine pv1 (h := ?_) | (refine sv3 F M (h := ?_); clear M; intro w M) | (refine sv2 F M (h := ?_); clear F M a; intro nb a w F M) | refine pv3 (h := ?_) | (refine pv2 (h := ?_); intro nb) | ((first | refine svC F M (h := ?_) | refine svC0 F M (h := ?_) | refine pvC (h := ?_) | refine pvC0 (h := ?_)); ((first | ((refine acW (k := 12) (hal _ ?_ ?_) ?_); (exact gvA); (exact gvA); rintro u L' ⟨rfl, rfl⟩) | ((refine acW (k := 21) (htk _) ?_); rintro u L' ⟨h2, rfl, rfl⟩) | ((refine acW (k := 20) (hc8 _ _ ?_) ?_); (exact gs_own pullA); rintro u L' ⟨rfl, rfl⟩) | ((refine acW (k := 20) (hct7 _ _ ?_) ?_); (exact gs_own pullA); rintro u L' ⟨rfl, rfl⟩))); (first | refine ⟨rvsA, ?_⟩ | (clear F M a; intro a w F M) | (clear M; intro w M))) | (refine svK F (h := ?_); clear F a; intro a F) | refine svK0 F (h := ?_) | ((refine sx_guardb F rfl (fun hg => ?_) (fun hg => ?_)) <;> (rw [hg] at F; (try (exact no hg)))) | (refine pvF (h := ?_); intro nb) | refine pvK (h := ?_) | refine pvK0 (h := ?_) | (refine pv_nil ?_; intro a w F M; (try (replace F := F.filt [0, 1, 4, 5, 6, 7, 8, 15, 20] rfl))) | ((fail_if_success (with_reducible first | refine isW ?_ | refine isP ?_ | refine isL ?_)); (first | with_reducible refine sx_region ?_ | ((with_reducible refine isK ?_); (first | refine svT F (h := ?_) | refine svF F (h := ?_) | ((refine svB F (fun hc => ?_) (fun hc => ?_)) <;> (try (exact no hc))))) | ((with_reducible refine isD ?_); fail) | with_reducible refine wp_scope_straight ?_ | with_reducible refine wp_label ?_ | go_step))))
      try rw [d2]
      (repeat' (first | ((first | refine sv1 F M (h := ?_) (hr := by ((refine rt_max2 rfl rfl e1))) | refine pv1 (h := ?_) (hr := by ((refine rt_max2 rfl rfl e1)))); (try (clear F a; intro a F))) | (refine sx_nil ?_; (try (replace F := F.filt [0, 1, 4, 5, 6, 7, 8, 15, 20] rfl))) | (refine sv1 F M (h := ?_); clear F a; intro a F) | refine pv1 (h := ?_) | (refine sv3 F M (h := ?_); clear M; intro w M) | (refine sv2 F M (h := ?_); clear F M a; intro nb a w F M) | refine pv3 (h := ?_) | (refine pv2 (h := ?_); intro nb) | ((first | refine svC F M (h := ?_) | refine svC0 F M (h := ?_) | refine pvC (h := ?_) | refine pvC0 (h := ?_)); ((first | ((refine acW (k := 12) (hal _ ?_ ?_) ?_); (exact gvA); (exact gvA); rintro u L' ⟨rfl, rfl⟩) | ((refine acW (k := 21) (htk _) ?_); rintro u L' ⟨h2, rfl, rfl⟩) | ((refine acW (k := 20) (hc8 _ _ ?_) ?_); (exact gs_own pullA); rintro u L' ⟨rfl, rfl⟩) | ((refine acW (k := 20) (hct7 _ _ ?_) ?_); (exact gs_own pullA); rintro u L' ⟨rfl, rfl⟩))); (first | refine ⟨rvsA, ?_⟩ | (clear F M a; intro a w F M) | (clear M; intro w M))) | (refine svK F (h := ?_); clear F a; intro a F) | refine svK0 F (h := ?_) | ((refine sx_guardb F rfl (fun hg => ?_) (fun hg => ?_)) <;> (rw [hg] at F; (try (exact no hg)))) | (refine pvF (h := ?_); intro nb) | refine pvK (h := ?_) | refine pvK0 (h := ?_) | (refine pv_nil ?_; intro a w F M; (try (replace F := F.filt [0, 1, 4, 5, 6, 7, 8, 15, 20] rfl))) | ((fail_if_success (with_reducible first | refine isW ?_ | refine isP ?_ | refine isL ?_)); (first | with_reducible refine sx_region ?_ | ((with_reducible refine isK ?_); (first | refine svT F (h := ?_) | refine svF F (h := ?_) | ((refine svB F (fun hc => ?_) (fun hc => ?_)) <;> (try (exact no hc))))) | ((with_reducible refine isD ?_); fail) | with_reducible refine wp_scope_straight ?_ | with_reducible refine wp_label ?_ | go_step))))
      try rw [d3]
      (repeat' (first | ((first | refine sv1 F M (h := ?_) (hr := by ((refine rt_max2 rfl rfl e1))) | refine pv1 (h := ?_) (hr := by ((refine rt_max2 rfl rfl e1)))); (try (clear F a; intro a F))) | (refine sx_nil ?_; (try (replace F := F.filt [0, 1, 4, 5, 6, 7, 8, 15, 20] rfl))) | (refine sv1 F M (h := ?_); clear F a; intro a F) | refine pv1 (h := ?_) | (refine sv3 F M (h := ?_); clear M; intro w M) | (refine sv2 F M (h := ?_); clear F M a; intro nb a w F M) | refine pv3 (h := ?_) | (refine pv2 (h := ?_); intro nb) | ((first | refine svC F M (h := ?_) | refine svC0 F M (h := ?_) | refine pvC (h := ?_) | refine pvC0 (h := ?_)); ((first | ((refine acW (k := 12) (hal _ ?_ ?_) ?_); (exact gvA); (exact gvA); rintro u L' ⟨rfl, rfl⟩) | ((refine acW (k := 21) (htk _) ?_); rintro u L' ⟨h2, rfl, rfl⟩) | ((refine acW (k := 20) (hc8 _ _ ?_) ?_); (exact gs_own pullA); rintro u L' ⟨rfl, rfl⟩) | ((refine acW (k := 20) (hct7 _ _ ?_) ?_); (exact gs_own pullA); rintro u L' ⟨rfl, rfl⟩))); (first | refine ⟨rvsA, ?_⟩ | (clear F M a; intro a w F M) | (clear M; intro w M))) | (refine svK F (h := ?_); clear F a; intro a F) | refine svK0 F (h := ?_) | ((refine sx_guardb F rfl (fun hg => ?_) (fun hg => ?_)) <;> (rw [hg] at F; (try (exact no hg)))) | (refine pvF (h := ?_); intro nb) | refine pvK (h := ?_) | refine pvK0 (h := ?_) | (refine pv_nil ?_; intro a w F M; (try (replace F := F.filt [0, 1, 4, 5, 6, 7, 8, 15, 20] rfl))) | ((fail_if_success (with_reducible first | refine isW ?_ | refine isP ?_ | refine isL ?_)); (first | with_reducible refine sx_region ?_ | ((with_reducible refine isK ?_); (first | refine svT F (h := ?_) | refine svF F (h := ?_) | ((refine svB F (fun hc => ?_) (fun hc => ?_)) <;> (try (exact no hc))))) | ((with_reducible refine isD ?_); fail) | with_reducible refine wp_scope_straight ?_ | with_reducible refine wp_label ?_ | go_step))))
      all_goals (first | refine svEnd F M ?_ | refine svRet F M ?_)
      all_goals (refine ⟨_, _, rfl, ⟨?_, rfl⟩, M.perms permsA⟩; first | rfl | (simp only [tupOf, d1, d2, d3]; done) | (simp [tupOf, hml]; done))
end
end Go.Proofs.YtaggjikjohamjaaDoor
end
