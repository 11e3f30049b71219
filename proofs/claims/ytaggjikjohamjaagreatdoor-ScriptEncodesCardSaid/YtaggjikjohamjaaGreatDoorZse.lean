import Derived.Test.YtaggjikjohamjaaGreatDoorZsd
set_option linter.unusedVariables false
set_option linter.unusedSimpArgs false
section
namespace Go.Proofs.YtaggjikjohamjaaGreatDoor
open Go.RowKit Go.Maps
set_option linter.unusedVariables false
set_option maxRecDepth 100000
set_option linter.unusedSimpArgs false
set_option maxHeartbeats 8000000
theorem okM_enc {o : Opn} (h : okM o = true) : ∃ ds, odsOf o.k = some ds ∧ encM o = wrL o ds ∧ (encM o).length ≤ 17 := by
  obtain ⟨ds, hd⟩ := okM_true h
  have e : encM o = wrL o ds := by rw [encM, hd.k]
  exact ⟨ds, hd.k, e, by rw [e]; exact wrL_le o ds (ods_len hd.k).1⟩
theorem oenc_no (o : Opn) (hk : I64 o.k) (hr : OpR o) (h : okM o = false) (R : List Asn) : Spec 14 [opV o] R fun u L' => u = .tuple [.slice none 0 0, .bool false].toArray ∧ L' = R := by
  have hv := fun R => valid_spec o hk hr R
  rw [h] at hv
  obtain ⟨k, ix, tg, am⟩ := o
  (intro G w M; refine sx_enter (vs := ([opV ⟨k, ix, tg, am⟩] : List Value)) Tryz.func14 (n := 11) rfl rfl rfl rfl ?_; intro a F; (try simp only [List.cons_append, List.nil_append] at M))
  (repeat' (first | (refine sx_nil ?_; (try (replace F := F.filt [0, 1, 2, 3, 6] rfl))) | (refine sv1 F M (h := ?_); clear F a; intro a F) | refine pv1 (h := ?_) | (refine sv3 F M (h := ?_); clear M; intro w M) | (refine sv2 F M (h := ?_); clear F M a; intro nb a w F M) | refine pv3 (h := ?_) | (refine pv2 (h := ?_); intro nb) | ((first | refine svC F M (h := ?_) | refine svC0 F M (h := ?_) | refine pvC (h := ?_) | refine pvC0 (h := ?_)); (((refine acW (k := 20) (hv _) ?_); rintro u L' ⟨rfl, rfl⟩)); (first | refine ⟨rvsA, ?_⟩ | (clear F M a; intro a w F M) | (clear M; intro w M))) | (refine svK F (h := ?_); clear F a; intro a F) | refine svK0 F (h := ?_) | ((refine sx_guardb F rfl (fun hg => ?_) (fun hg => ?_)) <;> (rw [hg] at F; (try (exact no hg)))) | (refine pvF (h := ?_); intro nb) | refine pvK (h := ?_) | refine pvK0 (h := ?_) | (refine pv_nil ?_; intro a w F M; (try (replace F := F.filt [0, 1, 2, 3, 6] rfl))) | ((fail_if_success (with_reducible first | refine isW ?_ | refine isP ?_ | refine isL ?_)); (first | with_reducible refine sx_region ?_ | ((with_reducible refine isK ?_); (first | refine svT F (h := ?_) | refine svF F (h := ?_) | ((refine svB F (fun hc => ?_) (fun hc => ?_)) <;> (try (exact no hc))))) | ((with_reducible refine isD ?_); fail) | with_reducible refine wp_scope_straight ?_ | with_reducible refine wp_label ?_ | go_step))))
  (all_goals ((first | refine svEnd F M ?_ | refine svRet F M ?_); exact ⟨_, _, rfl, ⟨rfl, rfl⟩, M.perms permsA⟩))
theorem oenc_yes (o : Opn) (hk : I64 o.k) (hr : OpR o) (h : okM o = true) (R : List Asn) : Spec 14 [opV o] R fun u L' => ∃ h, u = .tuple [sl h, .bool true].toArray ∧ L' = ownT 5 u8L 1 (sl h) (encM o) :: R := by
  have hv := fun R => valid_spec o hk hr R
  rw [h] at hv
  obtain ⟨ds, hd, e, _⟩ := okM_enc h
  have hw := fun R => write_some o hk hr.2.2 ds hd R
  rw [← e] at hw
  obtain ⟨k, ix, tg, am⟩ := o
  (intro G w M; refine sx_enter (vs := ([opV ⟨k, ix, tg, am⟩] : List Value)) Tryz.func14 (n := 11) rfl rfl rfl rfl ?_; intro a F; (try simp only [List.cons_append, List.nil_append] at M))
  (repeat' (first | (refine sx_nil ?_; (try (replace F := F.filt [0, 1, 2, 3, 6] rfl))) | (refine sv1 F M (h := ?_); clear F a; intro a F) | refine pv1 (h := ?_) | (refine sv3 F M (h := ?_); clear M; intro w M) | (refine sv2 F M (h := ?_); clear F M a; intro nb a w F M) | refine pv3 (h := ?_) | (refine pv2 (h := ?_); intro nb) | ((first | refine svC F M (h := ?_) | refine svC0 F M (h := ?_) | refine pvC (h := ?_) | refine pvC0 (h := ?_)); ((first | ((refine acW (k := 20) (hv _) ?_); rintro u L' ⟨rfl, rfl⟩) | ((refine acW (k := 26) (hw _) ?_); rintro u L' ⟨h, rfl, rfl⟩))); (first | refine ⟨rvsA, ?_⟩ | (clear F M a; intro a w F M) | (clear M; intro w M))) | (refine svK F (h := ?_); clear F a; intro a F) | refine svK0 F (h := ?_) | ((refine sx_guardb F rfl (fun hg => ?_) (fun hg => ?_)) <;> (rw [hg] at F; (try (exact no hg)))) | (refine pvF (h := ?_); intro nb) | refine pvK (h := ?_) | refine pvK0 (h := ?_) | (refine pv_nil ?_; intro a w F M; (try (replace F := F.filt [0, 1, 2, 3, 6] rfl))) | ((fail_if_success (with_reducible first | refine isW ?_ | refine isP ?_ | refine isL ?_)); (first | with_reducible refine sx_region ?_ | ((with_reducible refine isK ?_); (first | refine svT F (h := ?_) | refine svF F (h := ?_) | ((refine svB F (fun hc => ?_) (fun hc => ?_)) <;> (try (exact no hc))))) | ((with_reducible refine isD ?_); fail) | with_reducible refine wp_scope_straight ?_ | with_reducible refine wp_label ?_ | go_step))))
  all_goals (first | refine svEnd F M ?_ | refine svRet F M ?_)
  all_goals exact ⟨_, _, rfl, ⟨h, rfl, rfl⟩, M.perms permsA⟩
theorem encAll_take {l : List Opn} {j : Nat} {o : Opn} (h : l[j]? = some o) : encAll (l.take (j + 1)) = encAll (l.take j) ++ encM o := by
  rw [encAll, encAll, List.take_add_one, h, List.flatMap_append]; simp
theorem encAll_le : ∀ (l : List Opn), (∀ o ∈ l, okM o = true) → (encAll l).length ≤ 17 * l.length
  | [], _ => by simp [encAll]
  | o :: l, h => by
    obtain ⟨_, _, _, h1⟩ := okM_enc (h o (by simp))
    have h2 := encAll_le l fun o ho => h o (by simp [ho])
    rw [encAll, List.flatMap_cons, List.length_append, List.length_cons]
    rw [encAll] at h2
    omega
section
variable (v : Value) (l : List Opn) (R : List Asn) (hg : GS R 4 v l.length (l.flatMap opL)) (hl : l.length ≤ 1000) (hwf : ∀ o ∈ l, I64 o.k ∧ OpR o)
include hg hl hwf
theorem senc_spec : Spec 5 [v] R fun u L' => ∃ h bs, (u = .tuple [sl h, .bool (l.all okM)].toArray ∧ bs = if l.all okM = true then encAll l else []) ∧ L' = ownT 5 u8L 1 (sl h) bs :: R := by
  obtain ⟨X, hX⟩ : ∃ X, l.all okM = X := ⟨_, rfl⟩
  rw [hX]
  (intro G w M; refine sx_enter (vs := ([v] : List Value)) Tryz.func5 (n := 27) rfl rfl rfl rfl ?_; intro a F; (try simp only [List.cons_append, List.nil_append] at M))
  have gg : GS (R ++ G) 4 v l.length (l.flatMap opL) := Gives.app hg
  have hlv := gg.len_le M
  have M := M.own_nil 5 1
  (repeat' (first | (refine sx_nil ?_; (try (replace F := F.filt [0, 2, 3, 4, 6, 7, 8, 9, 10, 11, 12, 21] rfl))) | (refine sv1 F M (h := ?_); clear F a; intro a F) | refine pv1 (h := ?_) | (refine sv3 F M (h := ?_); clear M; intro w M) | (refine sv2 F M (h := ?_); clear F M a; intro nb a w F M) | refine pv3 (h := ?_) | (refine pv2 (h := ?_); intro nb) | ((first | refine svC F M (h := ?_) | refine svC0 F M (h := ?_) | refine pvC (h := ?_) | refine pvC0 (h := ?_)); (fail); (first | refine ⟨rvsA, ?_⟩ | (clear F M a; intro a w F M) | (clear M; intro w M))) | (refine svK F (h := ?_); clear F a; intro a F) | refine svK0 F (h := ?_) | ((refine sx_guardb F rfl (fun hg => ?_) (fun hg => ?_)) <;> (rw [hg] at F; (try (exact no hg)))) | (refine pvF (h := ?_); intro nb) | refine pvK (h := ?_) | refine pvK0 (h := ?_) | (refine pv_nil ?_; intro a w F M; (try (replace F := F.filt [0, 2, 3, 4, 6, 7, 8, 9, 10, 11, 12, 21] rfl))) | ((fail_if_success (with_reducible first | refine isW ?_ | refine isP ?_ | refine isL ?_)); (first | with_reducible refine sx_region ?_ | ((with_reducible refine isK ?_); (first | refine svT F (h := ?_) | refine svF F (h := ?_) | ((refine svB F (fun hc => ?_) (fun hc => ?_)) <;> (try (exact no hc))))) | ((with_reducible refine isD ?_); fail) | with_reducible refine wp_scope_straight ?_ | with_reducible refine wp_label ?_ | go_step))))
  refine svLoop F M ((0, nilH, []) : Nat × SlH × List UInt8) (fun z => [(11, .int .i64 z.1), (4, sl z.2.1)]) (fun z => [ownT 5 u8L 1 (sl z.2.1) z.2.2]) (fun z => z.1 ≤ l.length ∧ z.2.2 = encAll (l.take z.1) ∧ (l.drop z.1).all okM = X ∧ ∀ o ∈ l.take z.1, okM o = true) (fun z => l.length - z.1) [6, 7, 8] ⟨Nat.zero_le _, rfl, hX, by simp⟩ ?_ (hR := by (repeat (first | exact Pulls.nil | (apply Pulls.cons; (focus ((repeat (first | exact Pull.here | apply Pull.there)); done))))))
  (rintro ⟨k, hh, bs⟩ ⟨q1, q2, q3, q4⟩ a w F M; (try simp only [List.cons_append, List.nil_append] at F M q1 q2 q3 q4 ⊢))
  by_cases hk : k < l.length
  · obtain ⟨o, ho⟩ : ∃ o, l[k]? = some o := ⟨l[k], by simp [hk]⟩
    obtain ⟨w1, w2⟩ := hwf o (List.mem_of_getElem? ho)
    have hbl := encAll_le _ q4
    rw [← q2, List.length_take] at hbl
    rw [drop_cons ho, List.all_cons] at q3
    cases hok : okM o
    · rw [hok, Bool.false_and] at q3
      subst q3
      have he := fun R => oenc_no o w1 w2 hok R
      obtain ⟨ok, oi, ot, oa⟩ := o
      (repeat' (first | (refine sx_nil ?_; (try (replace F := F.filt [0, 2, 3, 4, 6, 7, 8, 9, 10, 11, 12, 21] rfl))) | (refine sv1 F M (h := ?_); clear F a; intro a F) | refine pv1 (h := ?_) | (refine sv3 F M (h := ?_); clear M; intro w M) | (refine sv2 F M (h := ?_); clear F M a; intro nb a w F M) | refine pv3 (h := ?_) | (refine pv2 (h := ?_); intro nb) | ((first | refine svC F M (h := ?_) | refine svC0 F M (h := ?_) | refine pvC (h := ?_) | refine pvC0 (h := ?_)); (((refine acW (k := 14) (he _) ?_); rintro u L' ⟨rfl, rfl⟩)); (first | refine ⟨rvsA, ?_⟩ | (clear F M a; intro a w F M) | (clear M; intro w M))) | (refine svK F (h := ?_); clear F a; intro a F) | refine svK0 F (h := ?_) | ((refine sx_guardb F rfl (fun hg => ?_) (fun hg => ?_)) <;> (rw [hg] at F; (try (exact no hg)))) | (refine pvF (h := ?_); intro nb) | refine pvK (h := ?_) | refine pvK0 (h := ?_) | (refine pv_nil ?_; intro a w F M; (try (replace F := F.filt [0, 2, 3, 4, 6, 7, 8, 9, 10, 11, 12, 21] rfl))) | ((fail_if_success (with_reducible first | refine isW ?_ | refine isP ?_ | refine isL ?_)); (first | with_reducible refine sx_region ?_ | ((with_reducible refine isK ?_); (first | refine svT F (h := ?_) | refine svF F (h := ?_) | ((refine svB F (fun hc => ?_) (fun hc => ?_)) <;> (try (exact no hc))))) | ((with_reducible refine isD ?_); fail) | with_reducible refine wp_scope_straight ?_ | with_reducible refine wp_label ?_ | go_step))))
      all_goals (first | refine svEnd F M ?_ | refine svRet F M ?_)
      all_goals exact ⟨_, _, rfl, ⟨nilH, [], ⟨rfl, rfl⟩, rfl⟩, (M.own_nil 5 1).perms permsA⟩
    · rw [hok, Bool.true_and] at q3
      have he := fun R => oenc_yes o w1 w2 hok R
      obtain ⟨_, _, _, h17⟩ := okM_enc hok
      have hst := encAll_take ho
      rw [← q2] at hst
      have hq4 : ∀ x ∈ l.take (k + 1), okM x = true := by
        intro x hx
        rw [List.take_add_one, ho] at hx
        rcases List.mem_append.1 hx with hx | hx
        · exact q4 x hx
        · simp at hx; subst hx; exact hok
      obtain ⟨ok, oi, ot, oa⟩ := o
      generalize encM ⟨ok, oi, ot, oa⟩ = W at *
      (repeat' (first | (refine sx_nil ?_; (try (replace F := F.filt [0, 2, 3, 4, 6, 7, 8, 9, 10, 11, 12, 21] rfl))) | (refine sv1 F M (h := ?_); clear F a; intro a F) | refine pv1 (h := ?_) | (refine sv3 F M (h := ?_); clear M; intro w M) | (refine sv2 F M (h := ?_); clear F M a; intro nb a w F M) | refine pv3 (h := ?_) | (refine pv2 (h := ?_); intro nb) | ((first | refine svC F M (h := ?_) | refine svC0 F M (h := ?_) | refine pvC (h := ?_) | refine pvC0 (h := ?_)); ((first | ((refine acW (k := 14) (he _) ?_); rintro u L' ⟨h2, rfl, rfl⟩) | (refine ac_appendH (f := u8L) (xs := bs) (ys := W) rfl rfl inferInstance rfl rfl pullA inferInstance gsA rfl rfl (by omega) ?_; intro nv))); (first | refine ⟨rvsA, ?_⟩ | (clear F M a; intro a w F M) | (clear M; intro w M))) | (refine svK F (h := ?_); clear F a; intro a F) | refine svK0 F (h := ?_) | ((refine sx_guardb F rfl (fun hg => ?_) (fun hg => ?_)) <;> (rw [hg] at F; (try (exact no hg)))) | (refine pvF (h := ?_); intro nb) | refine pvK (h := ?_) | refine pvK0 (h := ?_) | (refine pv_nil ?_; intro a w F M; (try (replace F := F.filt [0, 2, 3, 4, 6, 7, 8, 9, 10, 11, 12, 21] rfl))) | ((fail_if_success (with_reducible first | refine isW ?_ | refine isP ?_ | refine isL ?_)); (first | with_reducible refine sx_region ?_ | ((with_reducible refine isK ?_); (first | refine svT F (h := ?_) | refine svF F (h := ?_) | ((refine svB F (fun hc => ?_) (fun hc => ?_)) <;> (try (exact no hc))))) | ((with_reducible refine isD ?_); fail) | with_reducible refine wp_scope_straight ?_ | with_reducible refine wp_label ?_ | go_step))))
      exact sv_again F M ((k + 1, nv, bs ++ W) : Nat × SlH × List UInt8) kpA permsA ⟨by simp only; omega, hst.symm, q3, hq4⟩ (by simp only; omega)
  · obtain rfl : k = l.length := by omega
    rw [List.drop_length] at q3
    have q3 : true = X := q3
    subst q3
    rw [List.take_length] at q2
    subst q2
    (repeat' (first | (refine sx_nil ?_; (try (replace F := F.filt [0, 2, 3, 4, 6, 7, 8, 9, 10, 11, 12, 21] rfl))) | (refine sv1 F M (h := ?_); clear F a; intro a F) | refine pv1 (h := ?_) | (refine sv3 F M (h := ?_); clear M; intro w M) | (refine sv2 F M (h := ?_); clear F M a; intro nb a w F M) | refine pv3 (h := ?_) | (refine pv2 (h := ?_); intro nb) | ((first | refine svC F M (h := ?_) | refine svC0 F M (h := ?_) | refine pvC (h := ?_) | refine pvC0 (h := ?_)); (fail); (first | refine ⟨rvsA, ?_⟩ | (clear F M a; intro a w F M) | (clear M; intro w M))) | (refine svK F (h := ?_); clear F a; intro a F) | refine svK0 F (h := ?_) | ((refine sx_guardb F rfl (fun hg => ?_) (fun hg => ?_)) <;> (rw [hg] at F; (try (exact no hg)))) | (refine pvF (h := ?_); intro nb) | refine pvK (h := ?_) | refine pvK0 (h := ?_) | (refine pv_nil ?_; intro a w F M; (try (replace F := F.filt [0, 2, 3, 4, 6, 7, 8, 9, 10, 11, 12, 21] rfl))) | ((fail_if_success (with_reducible first | refine isW ?_ | refine isP ?_ | refine isL ?_)); (first | with_reducible refine sx_region ?_ | ((with_reducible refine isK ?_); (first | refine svT F (h := ?_) | refine svF F (h := ?_) | ((refine svB F (fun hc => ?_) (fun hc => ?_)) <;> (try (exact no hc))))) | ((with_reducible refine isD ?_); fail) | with_reducible refine wp_scope_straight ?_ | with_reducible refine wp_label ?_ | go_step))))
    all_goals (first | refine svEnd F M ?_ | refine svRet F M ?_)
    all_goals exact ⟨_, _, rfl, ⟨hh, encAll l, ⟨rfl, rfl⟩, rfl⟩, M.perms permsA⟩
end
/-! ### The reference -/
theorem rbig_spec (X : Nat) (m : Nat) (hm : m ≤ 8) (R : List Asn) : Spec 30 [.int .u64 (X : Int), .int .i64 (m : Int)] R fun u L' => ∃ h, u = sl h ∧ L' = ownT 5 u8L 1 (sl h) (bigL X m) :: R := by
  (intro G w M; refine sx_enter (vs := ([.int .u64 (X : Int), .int .i64 (m : Int)] : List Value)) Tryz.func30 (n := 22) rfl rfl rfl rfl ?_; intro a F; (try simp only [List.cons_append, List.nil_append] at M))
  have M := M.own_nil 5 1
  (repeat' (first | (refine sx_nil ?_; (try (replace F := F.filt [0, 1, 4, 5, 6, 10] rfl))) | (refine sv1 F M (h := ?_); clear F a; intro a F) | refine pv1 (h := ?_) | (refine sv3 F M (h := ?_); clear M; intro w M) | (refine sv2 F M (h := ?_); clear F M a; intro nb a w F M) | refine pv3 (h := ?_) | (refine pv2 (h := ?_); intro nb) | ((first | refine svC F M (h := ?_) | refine svC0 F M (h := ?_) | refine pvC (h := ?_) | refine pvC0 (h := ?_)); (fail); (first | refine ⟨rvsA, ?_⟩ | (clear F M a; intro a w F M) | (clear M; intro w M))) | (refine svK F (h := ?_); clear F a; intro a F) | refine svK0 F (h := ?_) | ((refine sx_guardb F rfl (fun hg => ?_) (fun hg => ?_)) <;> (rw [hg] at F; (try (exact no hg)))) | (refine pvF (h := ?_); intro nb) | refine pvK (h := ?_) | refine pvK0 (h := ?_) | (refine pv_nil ?_; intro a w F M; (try (replace F := F.filt [0, 1, 4, 5, 6, 10] rfl))) | ((fail_if_success (with_reducible first | refine isW ?_ | refine isP ?_ | refine isL ?_)); (first | with_reducible refine sx_region ?_ | ((with_reducible refine isK ?_); (first | refine svT F (h := ?_) | refine svF F (h := ?_) | ((refine svB F (fun hc => ?_) (fun hc => ?_)) <;> (try (exact no hc))))) | ((with_reducible refine isD ?_); fail) | with_reducible refine wp_scope_straight ?_ | with_reducible refine wp_label ?_ | go_step))))
  refine svLoop F M (⟨m, nilH, []⟩ : WrZ) (fun z => [(6, .int .i64 ((z.j : Int) - 1)), (5, sl z.h)]) (fun z => [ownT 5 u8L 1 (sl z.h) z.bs]) (fun z => z.bs ++ bigL X z.j = bigL X m ∧ z.j ≤ m) (fun z => z.j) [] ⟨rfl, Nat.le_refl _⟩ ?_ (hR := by (repeat (first | exact Pulls.nil | (apply Pulls.cons; (focus ((repeat (first | exact Pull.here | apply Pull.there)); done))))))
  (rintro ⟨k, h, T⟩ ⟨p1, p2⟩ a w F M; (try simp only [List.cons_append, List.nil_append] at F M p1 p2 ⊢))
  have hTl := congrArg List.length p1
  rw [List.length_append, bigL_len, bigL_len] at hTl
  cases k with
  | zero =>
    simp only [bigL, List.append_nil] at p1
    have ee : ((0 : Nat) : Int) - 1 = -1 := rfl
    rw [ee] at F
    subst p1
    (repeat' (first | (refine sx_nil ?_; (try (replace F := F.filt [0, 1, 4, 5, 6, 10] rfl))) | (refine sv1 F M (h := ?_); clear F a; intro a F) | refine pv1 (h := ?_) | (refine sv3 F M (h := ?_); clear M; intro w M) | (refine sv2 F M (h := ?_); clear F M a; intro nb a w F M) | refine pv3 (h := ?_) | (refine pv2 (h := ?_); intro nb) | ((first | refine svC F M (h := ?_) | refine svC0 F M (h := ?_) | refine pvC (h := ?_) | refine pvC0 (h := ?_)); (fail); (first | refine ⟨rvsA, ?_⟩ | (clear F M a; intro a w F M) | (clear M; intro w M))) | (refine svK F (h := ?_); clear F a; intro a F) | refine svK0 F (h := ?_) | ((refine sx_guardb F rfl (fun hg => ?_) (fun hg => ?_)) <;> (rw [hg] at F; (try (exact no hg)))) | (refine pvF (h := ?_); intro nb) | refine pvK (h := ?_) | refine pvK0 (h := ?_) | (refine pv_nil ?_; intro a w F M; (try (replace F := F.filt [0, 1, 4, 5, 6, 10] rfl))) | ((fail_if_success (with_reducible first | refine isW ?_ | refine isP ?_ | refine isL ?_)); (first | with_reducible refine sx_region ?_ | ((with_reducible refine isK ?_); (first | refine svT F (h := ?_) | refine svF F (h := ?_) | ((refine svB F (fun hc => ?_) (fun hc => ?_)) <;> (try (exact no hc))))) | ((with_reducible refine isD ?_); fail) | with_reducible refine wp_scope_straight ?_ | with_reducible refine wp_label ?_ | go_step))))
    all_goals (first | refine svEnd F M ?_ | refine svRet F M ?_)
    all_goals exact ⟨_, _, rfl, ⟨h, rfl, rfl⟩, M.perms permsA⟩
  | succ k =>
    have ee : ((k + 1 : Nat) : Int) - 1 = k := by omega
    rw [ee] at F
    have hby : IntKind.u8.wrap ((X / 2 ^ (8 * k) : Nat) : Int) = ((UInt8.ofNat (X / 256 ^ k % 256)).toNat : Int) := by rw [pow_256]; exact byte_of _
    have e8 : (8 : Int) * (k : Int) = ((8 * k : Nat) : Int) := by omega
    (repeat' (first | ((first | refine sv1 F M (h := ?_) (hr := by ((first | (refine rt_shr (k := .i64) (m := X) (s := 8 * k) rfl rfl ?_ ?_; (rw [← e8]; exact rfl); omega) | (apply rt_conv; (exact rfl); (exact rfl); (exact inferInstance); (exact inferInstance); (exact hby))))) | refine pv1 (h := ?_) (hr := by ((first | (refine rt_shr (k := .i64) (m := X) (s := 8 * k) rfl rfl ?_ ?_; (rw [← e8]; exact rfl); omega) | (apply rt_conv; (exact rfl); (exact rfl); (exact inferInstance); (exact inferInstance); (exact hby)))))); (try (clear F a; intro a F))) | (refine sx_nil ?_; (try (replace F := F.filt [0, 1, 4, 5, 6, 10] rfl))) | (refine sv1 F M (h := ?_); clear F a; intro a F) | refine pv1 (h := ?_) | (refine sv3 F M (h := ?_); clear M; intro w M) | (refine sv2 F M (h := ?_); clear F M a; intro nb a w F M) | refine pv3 (h := ?_) | (refine pv2 (h := ?_); intro nb) | ((first | refine svC F M (h := ?_) | refine svC0 F M (h := ?_) | refine pvC (h := ?_) | refine pvC0 (h := ?_)); ((refine ac_appendH (f := u8L) (xs := T) (ys := [UInt8.ofNat (X / 256 ^ k % 256)]) rfl rfl inferInstance rfl rfl pullA inferInstance gsA rfl rfl (by simp; omega) ?_; intro nv)); (first | refine ⟨rvsA, ?_⟩ | (clear F M a; intro a w F M) | (clear M; intro w M))) | (refine svK F (h := ?_); clear F a; intro a F) | refine svK0 F (h := ?_) | ((refine sx_guardb F rfl (fun hg => ?_) (fun hg => ?_)) <;> (rw [hg] at F; (try (exact no hg)))) | (refine pvF (h := ?_); intro nb) | refine pvK (h := ?_) | refine pvK0 (h := ?_) | (refine pv_nil ?_; intro a w F M; (try (replace F := F.filt [0, 1, 4, 5, 6, 10] rfl))) | ((fail_if_success (with_reducible first | refine isW ?_ | refine isP ?_ | refine isL ?_)); (first | with_reducible refine sx_region ?_ | ((with_reducible refine isK ?_); (first | refine svT F (h := ?_) | refine svF F (h := ?_) | ((refine svB F (fun hc => ?_) (fun hc => ?_)) <;> (try (exact no hc))))) | ((with_reducible refine isD ?_); fail) | with_reducible refine wp_scope_straight ?_ | with_reducible refine wp_label ?_ | go_step))))
    refine sv_again F M (⟨k, nv, T ++ [UInt8.ofNat (X / 256 ^ k % 256)]⟩ : WrZ) kpA permsA ⟨?_, by simp only; omega⟩ (by simp only; omega)
    rw [← p1, bigL]; simp
theorem renc_spec (o : Opn) (hr : OpR o) (h : okM o = true) (R : List Asn) : Spec 16 [opV o] R fun u L' => ∃ h, u = sl h ∧ L' = ownT 5 u8L 1 (sl h) (encM o) :: R := by
  obtain ⟨ds, hd, e, _⟩ := okM_enc h
  rw [e]
  have hop := fun R => rops_spec o.k R
  rw [(odsS_some hd).1] at hop
  have hml : (ds.map Od.ch).length = ds.length := List.length_map ..
  obtain ⟨hl2, hz⟩ := ods_len hd
  have hb0 : IntKind.u8.wrap o.k = _ := byte_k (k := o.k)
  have hwl : ∀ j, wrL o (ds.take j) = UInt8.ofNat (u64of o.k % 256) :: (ds.take j).flatMap (wrB o) := fun j => rfl
  have hwt := fun {j : Nat} {d : Od} (h : ds[j]? = some d) => wrL_take (o := o) h
  have hwn := fun j => wrL_le o (ds.take j) (by rw [List.length_take]; omega)
  have hwd : ∀ d, wrB o d = bigL (u64of (d.get o)) d.size := fun d => rfl
  obtain ⟨hri, hrt, hra⟩ := hr
  have hci := u64of_wrap o.ix
  have hct := u64of_wrap o.tg
  have hca : ((u64of o.am : Nat) : Int) = o.am := by unfold u64of; omega
  obtain ⟨k, ix, tg, am⟩ := o
  simp only at hop hb0 hwl hci hct hca hri hrt hra
  (intro G w M; refine sx_enter (vs := ([opV ⟨k, ix, tg, am⟩] : List Value)) Tryz.func16 (n := 44) rfl rfl rfl rfl ?_; intro a F; (try simp only [List.cons_append, List.nil_append] at M))
  (repeat' (first | ((first | refine sv1 F M (h := ?_) (hr := by ((apply rt_conv; (exact rfl); (exact rfl); (exact inferInstance); (exact inferInstance); (exact hb0)))) | refine pv1 (h := ?_) (hr := by ((apply rt_conv; (exact rfl); (exact rfl); (exact inferInstance); (exact inferInstance); (exact hb0))))); (try (clear F a; intro a F))) | (refine sx_nil ?_; (try (replace F := F.filt [0, 1, 2, 3, 4, 5, 16, 21, 27, 35] rfl))) | (refine sv1 F M (h := ?_); clear F a; intro a F) | refine pv1 (h := ?_) | (refine sv3 F M (h := ?_); clear M; intro w M) | (refine sv2 F M (h := ?_); clear F M a; intro nb a w F M) | refine pv3 (h := ?_) | (refine pv2 (h := ?_); intro nb) | ((first | refine svC F M (h := ?_) | refine svC0 F M (h := ?_) | refine pvC (h := ?_) | refine pvC0 (h := ?_)); (((refine acW (k := 27) (hop _) ?_); rintro u L' ⟨rfl, rfl⟩)); (first | refine ⟨rvsA, ?_⟩ | (clear F M a; intro a w F M) | (clear M; intro w M))) | (refine svK F (h := ?_); clear F a; intro a F) | refine svK0 F (h := ?_) | ((refine sx_guardb F rfl (fun hg => ?_) (fun hg => ?_)) <;> (rw [hg] at F; (try (exact no hg)))) | (refine pvF (h := ?_); intro nb) | refine pvK (h := ?_) | refine pvK0 (h := ?_) | (refine pv_nil ?_; intro a w F M; (try (replace F := F.filt [0, 1, 2, 3, 4, 5, 16, 21, 27, 35] rfl))) | ((fail_if_success (with_reducible first | refine isW ?_ | refine isP ?_ | refine isL ?_)); (first | with_reducible refine sx_region ?_ | ((with_reducible refine isK ?_); (first | refine svT F (h := ?_) | refine svF F (h := ?_) | ((refine svB F (fun hc => ?_) (fun hc => ?_)) <;> (try (exact no hc))))) | ((with_reducible refine isD ?_); fail) | with_reducible refine wp_scope_straight ?_ | with_reducible refine wp_label ?_ | go_step))))
  refine svLoop F M (⟨0, ⟨some ⟨nb, 0, none⟩, 1, 1⟩, [UInt8.ofNat (u64of k % 256)]⟩ : WrZ) (fun z => [(5, .int .i64 z.j), (3, sl z.h)]) (fun z => [ownT 5 u8L 1 (sl z.h) z.bs]) (fun z => z.j ≤ ds.length ∧ z.bs = wrL ⟨k, ix, tg, am⟩ (ds.take z.j)) (fun z => ds.length - z.j) [] ⟨Nat.zero_le _, by rw [hwl]; rfl⟩ ?_ (hR := by (repeat (first | exact Pulls.nil | (apply Pulls.cons; (focus ((repeat (first | exact Pull.here | apply Pull.there)); done))))))
  (rintro ⟨j, h, bs⟩ ⟨q1, q2⟩ a w F M; (try simp only [List.cons_append, List.nil_append] at F M q1 q2 ⊢))
  by_cases hj : j < ds.length
  · obtain ⟨d, hdj⟩ : ∃ d, ds[j]? = some d := ⟨ds[j], by simp [hj]⟩
    have hch : (ds.map Od.ch)[j]? = some d.ch := by rw [List.getElem?_map, hdj]; rfl
    have hds := od_size d
    have hw1 := hwt hdj
    have hw2 := hwn (j + 1)
    rw [hw1, ← q2, hwd d] at hw2
    rw [List.length_append, bigL_len] at hw2
    have hnx : bs ++ bigL (u64of (d.get ⟨k, ix, tg, am⟩)) d.size = wrL ⟨k, ix, tg, am⟩ (ds.take (j + 1)) := by rw [hw1, q2]; rfl
    have hbg := fun R => rbig_spec (u64of (d.get ⟨k, ix, tg, am⟩)) d.size hds.1 R
    have hBl := bigL_len (u64of (d.get ⟨k, ix, tg, am⟩)) d.size
    cases d
    · simp only [Od.get, Od.size] at hbg hnx hBl hw2
      obtain ⟨B, hB⟩ : ∃ B, bigL (u64of ix) 2 = B := ⟨_, rfl⟩
      rw [hB] at hbg hnx hBl
      (repeat' (first | ((first | refine sv1 F M (h := ?_) (hr := by ((apply rt_conv; (exact rfl); (exact rfl); (exact inferInstance); (exact inferInstance); (exact hci)))) | refine pv1 (h := ?_) (hr := by ((apply rt_conv; (exact rfl); (exact rfl); (exact inferInstance); (exact inferInstance); (exact hci))))); (try (clear F a; intro a F))) | (refine sx_nil ?_; (try (replace F := F.filt [0, 1, 2, 3, 4, 5, 16, 21, 27, 35] rfl))) | (refine sv1 F M (h := ?_); clear F a; intro a F) | refine pv1 (h := ?_) | (refine sv3 F M (h := ?_); clear M; intro w M) | (refine sv2 F M (h := ?_); clear F M a; intro nb a w F M) | refine pv3 (h := ?_) | (refine pv2 (h := ?_); intro nb) | ((first | refine svC F M (h := ?_) | refine svC0 F M (h := ?_) | refine pvC (h := ?_) | refine pvC0 (h := ?_)); ((first | ((refine acW (k := 30) (hbg _) ?_); rintro u L' ⟨h2, rfl, rfl⟩) | (refine ac_appendH (f := u8L) (xs := bs) (ys := B) rfl rfl inferInstance rfl rfl pullA inferInstance gsA rfl rfl (by omega) ?_; intro nv))); (first | refine ⟨rvsA, ?_⟩ | (clear F M a; intro a w F M) | (clear M; intro w M))) | (refine svK F (h := ?_); clear F a; intro a F) | refine svK0 F (h := ?_) | ((refine sx_guardb F rfl (fun hg => ?_) (fun hg => ?_)) <;> (rw [hg] at F; (try (exact no hg)))) | (refine pvF (h := ?_); intro nb) | refine pvK (h := ?_) | refine pvK0 (h := ?_) | (refine pv_nil ?_; intro a w F M; (try (replace F := F.filt [0, 1, 2, 3, 4, 5, 16, 21, 27, 35] rfl))) | ((fail_if_success (with_reducible first | refine isW ?_ | refine isP ?_ | refine isL ?_)); (first | with_reducible refine sx_region ?_ | ((with_reducible refine isK ?_); (first | refine svT F (h := ?_) | refine svF F (h := ?_) | ((refine svB F (fun hc => ?_) (fun hc => ?_)) <;> (try (exact no hc))))) | ((with_reducible refine isD ?_); fail) | with_reducible refine wp_scope_straight ?_ | with_reducible refine wp_label ?_ | go_step))))
      exact sv_again F M (⟨j + 1, nv, bs ++ B⟩ : WrZ) kpA permsA ⟨by simp only; omega, hnx⟩ (by simp only; omega)
    · simp only [Od.get, Od.size] at hbg hnx hBl hw2
      obtain ⟨B, hB⟩ : ∃ B, bigL (u64of tg) 2 = B := ⟨_, rfl⟩
      rw [hB] at hbg hnx hBl
      (repeat' (first | ((first | refine sv1 F M (h := ?_) (hr := by ((apply rt_conv; (exact rfl); (exact rfl); (exact inferInstance); (exact inferInstance); (exact hct)))) | refine pv1 (h := ?_) (hr := by ((apply rt_conv; (exact rfl); (exact rfl); (exact inferInstance); (exact inferInstance); (exact hct))))); (try (clear F a; intro a F))) | (refine sx_nil ?_; (try (replace F := F.filt [0, 1, 2, 3, 4, 5, 16, 21, 27, 35] rfl))) | (refine sv1 F M (h := ?_); clear F a; intro a F) | refine pv1 (h := ?_) | (refine sv3 F M (h := ?_); clear M; intro w M) | (refine sv2 F M (h := ?_); clear F M a; intro nb a w F M) | refine pv3 (h := ?_) | (refine pv2 (h := ?_); intro nb) | ((first | refine svC F M (h := ?_) | refine svC0 F M (h := ?_) | refine pvC (h := ?_) | refine pvC0 (h := ?_)); ((first | ((refine acW (k := 30) (hbg _) ?_); rintro u L' ⟨h2, rfl, rfl⟩) | (refine ac_appendH (f := u8L) (xs := bs) (ys := B) rfl rfl inferInstance rfl rfl pullA inferInstance gsA rfl rfl (by omega) ?_; intro nv))); (first | refine ⟨rvsA, ?_⟩ | (clear F M a; intro a w F M) | (clear M; intro w M))) | (refine svK F (h := ?_); clear F a; intro a F) | refine svK0 F (h := ?_) | ((refine sx_guardb F rfl (fun hg => ?_) (fun hg => ?_)) <;> (rw [hg] at F; (try (exact no hg)))) | (refine pvF (h := ?_); intro nb) | refine pvK (h := ?_) | refine pvK0 (h := ?_) | (refine pv_nil ?_; intro a w F M; (try (replace F := F.filt [0, 1, 2, 3, 4, 5, 16, 21, 27, 35] rfl))) | ((fail_if_success (with_reducible first | refine isW ?_ | refine isP ?_ | refine isL ?_)); (first | with_reducible refine sx_region ?_ | ((with_reducible refine isK ?_); (first | refine svT F (h := ?_) | refine svF F (h := ?_) | ((refine svB F (fun hc => ?_) (fun hc => ?_)) <;> (try (exact no hc))))) | ((with_reducible refine isD ?_); fail) | with_reducible refine wp_scope_straight ?_ | with_reducible refine wp_label ?_ | go_step))))
      exact sv_again F M (⟨j + 1, nv, bs ++ B⟩ : WrZ) kpA permsA ⟨by simp only; omega, hnx⟩ (by simp only; omega)
    · simp only [Od.get, Od.size] at hbg hnx hBl hw2
      rw [hca] at hbg
      obtain ⟨B, hB⟩ : ∃ B, bigL (u64of am) 8 = B := ⟨_, rfl⟩
      rw [hB] at hbg hnx hBl
      (repeat' (first | (refine sx_nil ?_; (try (replace F := F.filt [0, 1, 2, 3, 4, 5, 16, 21, 27, 35] rfl))) | (refine sv1 F M (h := ?_); clear F a; intro a F) | refine pv1 (h := ?_) | (refine sv3 F M (h := ?_); clear M; intro w M) | (refine sv2 F M (h := ?_); clear F M a; intro nb a w F M) | refine pv3 (h := ?_) | (refine pv2 (h := ?_); intro nb) | ((first | refine svC F M (h := ?_) | refine svC0 F M (h := ?_) | refine pvC (h := ?_) | refine pvC0 (h := ?_)); ((first | ((refine acW (k := 30) (hbg _) ?_); rintro u L' ⟨h2, rfl, rfl⟩) | (refine ac_appendH (f := u8L) (xs := bs) (ys := B) rfl rfl inferInstance rfl rfl pullA inferInstance gsA rfl rfl (by omega) ?_; intro nv))); (first | refine ⟨rvsA, ?_⟩ | (clear F M a; intro a w F M) | (clear M; intro w M))) | (refine svK F (h := ?_); clear F a; intro a F) | refine svK0 F (h := ?_) | ((refine sx_guardb F rfl (fun hg => ?_) (fun hg => ?_)) <;> (rw [hg] at F; (try (exact no hg)))) | (refine pvF (h := ?_); intro nb) | refine pvK (h := ?_) | refine pvK0 (h := ?_) | (refine pv_nil ?_; intro a w F M; (try (replace F := F.filt [0, 1, 2, 3, 4, 5, 16, 21, 27, 35] rfl))) | ((fail_if_success (with_reducible first | refine isW ?_ | refine isP ?_ | refine isL ?_)); (first | with_reducible refine sx_region ?_ | ((with_reducible refine isK ?_); (first | refine svT F (h := ?_) | refine svF F (h := ?_) | ((refine svB F (fun hc => ?_) (fun hc => ?_)) <;> (try (exact no hc))))) | ((with_reducible refine isD ?_); fail) | with_reducible refine wp_scope_straight ?_ | with_reducible refine wp_label ?_ | go_step))))
      exact sv_again F M (⟨j + 1, nv, bs ++ B⟩ : WrZ) kpA permsA ⟨by simp only; omega, hnx⟩ (by simp only; omega)
  · obtain rfl : j = ds.length := by omega
    rw [List.take_length] at q2
    subst q2
    (repeat' (first | (refine sx_nil ?_; (try (replace F := F.filt [0, 1, 2, 3, 4, 5, 16, 21, 27, 35] rfl))) | (refine sv1 F M (h := ?_); clear F a; intro a F) | refine pv1 (h := ?_) | (refine sv3 F M (h := ?_); clear M; intro w M) | (refine sv2 F M (h := ?_); clear F M a; intro nb a w F M) | refine pv3 (h := ?_) | (refine pv2 (h := ?_); intro nb) | ((first | refine svC F M (h := ?_) | refine svC0 F M (h := ?_) | refine pvC (h := ?_) | refine pvC0 (h := ?_)); (fail); (first | refine ⟨rvsA, ?_⟩ | (clear F M a; intro a w F M) | (clear M; intro w M))) | (refine svK F (h := ?_); clear F a; intro a F) | refine svK0 F (h := ?_) | ((refine sx_guardb F rfl (fun hg => ?_) (fun hg => ?_)) <;> (rw [hg] at F; (try (exact no hg)))) | (refine pvF (h := ?_); intro nb) | refine pvK (h := ?_) | refine pvK0 (h := ?_) | (refine pv_nil ?_; intro a w F M; (try (replace F := F.filt [0, 1, 2, 3, 4, 5, 16, 21, 27, 35] rfl))) | ((fail_if_success (with_reducible first | refine isW ?_ | refine isP ?_ | refine isL ?_)); (first | with_reducible refine sx_region ?_ | ((with_reducible refine isK ?_); (first | refine svT F (h := ?_) | refine svF F (h := ?_) | ((refine svB F (fun hc => ?_) (fun hc => ?_)) <;> (try (exact no hc))))) | ((with_reducible refine isD ?_); fail) | with_reducible refine wp_scope_straight ?_ | with_reducible refine wp_label ?_ | go_step))))
    all_goals (first | refine svEnd F M ?_ | refine svRet F M ?_)
    all_goals exact ⟨_, _, rfl, ⟨h, rfl, rfl⟩, M.perms permsA⟩
section
variable (v : Value) (l : List Opn) (R : List Asn) (hg : GS R 4 v l.length (l.flatMap opL)) (hl : l.length ≤ 1000) (hwf : ∀ o ∈ l, I64 o.k ∧ OpR o)
include hg hl hwf
theorem rencall_spec : Spec 6 [v] R fun u L' => ∃ h bs, (u = .tuple [sl h, .bool (l.all okM)].toArray ∧ bs = if l.all okM = true then encAll l else []) ∧ L' = ownT 5 u8L 1 (sl h) bs :: R := by
  obtain ⟨X, hX⟩ : ∃ X, l.all okM = X := ⟨_, rfl⟩
  rw [hX]
  (intro G w M; refine sx_enter (vs := ([v] : List Value)) Tryz.func6 (n := 26) rfl rfl rfl rfl ?_; intro a F; (try simp only [List.cons_append, List.nil_append] at M))
  have gg : GS (R ++ G) 4 v l.length (l.flatMap opL) := Gives.app hg
  have hlv := gg.len_le M
  have M := M.own_nil 5 1
  (repeat' (first | (refine sx_nil ?_; (try (replace F := F.filt [0, 2, 3, 4, 5, 9, 17] rfl))) | (refine sv1 F M (h := ?_); clear F a; intro a F) | refine pv1 (h := ?_) | (refine sv3 F M (h := ?_); clear M; intro w M) | (refine sv2 F M (h := ?_); clear F M a; intro nb a w F M) | refine pv3 (h := ?_) | (refine pv2 (h := ?_); intro nb) | ((first | refine svC F M (h := ?_) | refine svC0 F M (h := ?_) | refine pvC (h := ?_) | refine pvC0 (h := ?_)); (fail); (first | refine ⟨rvsA, ?_⟩ | (clear F M a; intro a w F M) | (clear M; intro w M))) | (refine svK F (h := ?_); clear F a; intro a F) | refine svK0 F (h := ?_) | ((refine sx_guardb F rfl (fun hg => ?_) (fun hg => ?_)) <;> (rw [hg] at F; (try (exact no hg)))) | (refine pvF (h := ?_); intro nb) | refine pvK (h := ?_) | refine pvK0 (h := ?_) | (refine pv_nil ?_; intro a w F M; (try (replace F := F.filt [0, 2, 3, 4, 5, 9, 17] rfl))) | ((fail_if_success (with_reducible first | refine isW ?_ | refine isP ?_ | refine isL ?_)); (first | with_reducible refine sx_region ?_ | ((with_reducible refine isK ?_); (first | refine svT F (h := ?_) | refine svF F (h := ?_) | ((refine svB F (fun hc => ?_) (fun hc => ?_)) <;> (try (exact no hc))))) | ((with_reducible refine isD ?_); fail) | with_reducible refine wp_scope_straight ?_ | with_reducible refine wp_label ?_ | go_step))))
  refine svLoop F M ((0, nilH, []) : Nat × SlH × List UInt8) (fun z => [(5, .int .i64 z.1), (4, sl z.2.1)]) (fun z => [ownT 5 u8L 1 (sl z.2.1) z.2.2]) (fun z => z.1 ≤ l.length ∧ z.2.2 = encAll (l.take z.1) ∧ (l.drop z.1).all okM = X ∧ ∀ o ∈ l.take z.1, okM o = true) (fun z => l.length - z.1) [] ⟨Nat.zero_le _, rfl, hX, by simp⟩ ?_ (hR := by (repeat (first | exact Pulls.nil | (apply Pulls.cons; (focus ((repeat (first | exact Pull.here | apply Pull.there)); done))))))
  (rintro ⟨k, hh, bs⟩ ⟨q1, q2, q3, q4⟩ a w F M; (try simp only [List.cons_append, List.nil_append] at F M q1 q2 q3 q4 ⊢))
  by_cases hk : k < l.length
  · obtain ⟨o, ho⟩ : ∃ o, l[k]? = some o := ⟨l[k], by simp [hk]⟩
    obtain ⟨w1, w2⟩ := hwf o (List.mem_of_getElem? ho)
    have hbl := encAll_le _ q4
    rw [← q2, List.length_take] at hbl
    rw [drop_cons ho, List.all_cons] at q3
    have hrv := fun R => rvalid_spec o R
    cases hok : okM o
    · rw [hok, Bool.false_and] at q3
      subst q3
      rw [hok] at hrv
      obtain ⟨ok, oi, ot, oa⟩ := o
      (repeat' (first | (refine sx_nil ?_; (try (replace F := F.filt [0, 2, 3, 4, 5, 9, 17] rfl))) | (refine sv1 F M (h := ?_); clear F a; intro a F) | refine pv1 (h := ?_) | (refine sv3 F M (h := ?_); clear M; intro w M) | (refine sv2 F M (h := ?_); clear F M a; intro nb a w F M) | refine pv3 (h := ?_) | (refine pv2 (h := ?_); intro nb) | ((first | refine svC F M (h := ?_) | refine svC0 F M (h := ?_) | refine pvC (h := ?_) | refine pvC0 (h := ?_)); (((refine acW (k := 15) (hrv _) ?_); rintro u L' ⟨rfl, rfl⟩)); (first | refine ⟨rvsA, ?_⟩ | (clear F M a; intro a w F M) | (clear M; intro w M))) | (refine svK F (h := ?_); clear F a; intro a F) | refine svK0 F (h := ?_) | ((refine sx_guardb F rfl (fun hg => ?_) (fun hg => ?_)) <;> (rw [hg] at F; (try (exact no hg)))) | (refine pvF (h := ?_); intro nb) | refine pvK (h := ?_) | refine pvK0 (h := ?_) | (refine pv_nil ?_; intro a w F M; (try (replace F := F.filt [0, 2, 3, 4, 5, 9, 17] rfl))) | ((fail_if_success (with_reducible first | refine isW ?_ | refine isP ?_ | refine isL ?_)); (first | with_reducible refine sx_region ?_ | ((with_reducible refine isK ?_); (first | refine svT F (h := ?_) | refine svF F (h := ?_) | ((refine svB F (fun hc => ?_) (fun hc => ?_)) <;> (try (exact no hc))))) | ((with_reducible refine isD ?_); fail) | with_reducible refine wp_scope_straight ?_ | with_reducible refine wp_label ?_ | go_step))))
      all_goals (first | refine svEnd F M ?_ | refine svRet F M ?_)
      all_goals exact ⟨_, _, rfl, ⟨nilH, [], ⟨rfl, rfl⟩, rfl⟩, (M.own_nil 5 1).perms permsA⟩
    · rw [hok, Bool.true_and] at q3
      rw [hok] at hrv
      have he := fun R => renc_spec o w2 hok R
      obtain ⟨_, _, _, h17⟩ := okM_enc hok
      have hst := encAll_take ho
      rw [← q2] at hst
      have hq4 : ∀ x ∈ l.take (k + 1), okM x = true := by
        intro x hx
        rw [List.take_add_one, ho] at hx
        rcases List.mem_append.1 hx with hx | hx
        · exact q4 x hx
        · simp at hx; subst hx; exact hok
      obtain ⟨ok, oi, ot, oa⟩ := o
      generalize encM ⟨ok, oi, ot, oa⟩ = W at *
      (repeat' (first | (refine sx_nil ?_; (try (replace F := F.filt [0, 2, 3, 4, 5, 9, 17] rfl))) | (refine sv1 F M (h := ?_); clear F a; intro a F) | refine pv1 (h := ?_) | (refine sv3 F M (h := ?_); clear M; intro w M) | (refine sv2 F M (h := ?_); clear F M a; intro nb a w F M) | refine pv3 (h := ?_) | (refine pv2 (h := ?_); intro nb) | ((first | refine svC F M (h := ?_) | refine svC0 F M (h := ?_) | refine pvC (h := ?_) | refine pvC0 (h := ?_)); ((first | ((refine acW (k := 15) (hrv _) ?_); rintro u L' ⟨rfl, rfl⟩) | ((refine acW (k := 16) (he _) ?_); rintro u L' ⟨h2, rfl, rfl⟩) | (refine ac_appendH (f := u8L) (xs := bs) (ys := W) rfl rfl inferInstance rfl rfl pullA inferInstance gsA rfl rfl (by omega) ?_; intro nv))); (first | refine ⟨rvsA, ?_⟩ | (clear F M a; intro a w F M) | (clear M; intro w M))) | (refine svK F (h := ?_); clear F a; intro a F) | refine svK0 F (h := ?_) | ((refine sx_guardb F rfl (fun hg => ?_) (fun hg => ?_)) <;> (rw [hg] at F; (try (exact no hg)))) | (refine pvF (h := ?_); intro nb) | refine pvK (h := ?_) | refine pvK0 (h := ?_) | (refine pv_nil ?_; intro a w F M; (try (replace F := F.filt [0, 2, 3, 4, 5, 9, 17] rfl))) | ((fail_if_success (with_reducible first | refine isW ?_ | refine isP ?_ | refine isL ?_)); (first | with_reducible refine sx_region ?_ | ((with_reducible refine isK ?_); (first | refine svT F (h := ?_) | refine svF F (h := ?_) | ((refine svB F (fun hc => ?_) (fun hc => ?_)) <;> (try (exact no hc))))) | ((with_reducible refine isD ?_); fail) | with_reducible refine wp_scope_straight ?_ | with_reducible refine wp_label ?_ | go_step))))
      exact sv_again F M ((k + 1, nv, bs ++ W) : Nat × SlH × List UInt8) kpA permsA ⟨by simp only; omega, hst.symm, q3, hq4⟩ (by simp only; omega)
  · obtain rfl : k = l.length := by omega
    rw [List.drop_length] at q3
    have q3 : true = X := q3
    subst q3
    rw [List.take_length] at q2
    subst q2
    (repeat' (first | (refine sx_nil ?_; (try (replace F := F.filt [0, 2, 3, 4, 5, 9, 17] rfl))) | (refine sv1 F M (h := ?_); clear F a; intro a F) | refine pv1 (h := ?_) | (refine sv3 F M (h := ?_); clear M; intro w M) | (refine sv2 F M (h := ?_); clear F M a; intro nb a w F M) | refine pv3 (h := ?_) | (refine pv2 (h := ?_); intro nb) | ((first | refine svC F M (h := ?_) | refine svC0 F M (h := ?_) | refine pvC (h := ?_) | refine pvC0 (h := ?_)); (fail); (first | refine ⟨rvsA, ?_⟩ | (clear F M a; intro a w F M) | (clear M; intro w M))) | (refine svK F (h := ?_); clear F a; intro a F) | refine svK0 F (h := ?_) | ((refine sx_guardb F rfl (fun hg => ?_) (fun hg => ?_)) <;> (rw [hg] at F; (try (exact no hg)))) | (refine pvF (h := ?_); intro nb) | refine pvK (h := ?_) | refine pvK0 (h := ?_) | (refine pv_nil ?_; intro a w F M; (try (replace F := F.filt [0, 2, 3, 4, 5, 9, 17] rfl))) | ((fail_if_success (with_reducible first | refine isW ?_ | refine isP ?_ | refine isL ?_)); (first | with_reducible refine sx_region ?_ | ((with_reducible refine isK ?_); (first | refine svT F (h := ?_) | refine svF F (h := ?_) | ((refine svB F (fun hc => ?_) (fun hc => ?_)) <;> (try (exact no hc))))) | ((with_reducible refine isD ?_); fail) | with_reducible refine wp_scope_straight ?_ | with_reducible refine wp_label ?_ | go_step))))
    all_goals (first | refine svEnd F M ?_ | refine svRet F M ?_)
    all_goals exact ⟨_, _, rfl, ⟨hh, encAll l, ⟨rfl, rfl⟩, rfl⟩, M.perms permsA⟩
end
theorem beq_spec (u v : Value) (xs : List UInt8) (R : List Asn) (hu : GS R 1 u xs.length (xs.flatMap u8L)) (hv : GS R 1 v xs.length (xs.flatMap u8L)) : Spec 7 [u, v] R fun z L' => z = .bool true ∧ L' = R := by
  (intro G w M; refine sx_enter (vs := ([u, v] : List Value)) Tryz.func7 (n := 26) rfl rfl rfl rfl ?_; intro a F; (try simp only [List.cons_append, List.nil_append] at M))
  have g1 : GS (R ++ G) 1 u xs.length (xs.flatMap u8L) := Gives.app hu
  have g2 : GS (R ++ G) 1 v xs.length (xs.flatMap u8L) := Gives.app hv
  have hlv := g1.len_le M
  (repeat' (first | (refine sx_nil ?_; (try (replace F := F.filt [0, 1, 4, 5, 10, 12, 13, 14, 24] rfl))) | (refine sv1 F M (h := ?_); clear F a; intro a F) | refine pv1 (h := ?_) | (refine sv3 F M (h := ?_); clear M; intro w M) | (refine sv2 F M (h := ?_); clear F M a; intro nb a w F M) | refine pv3 (h := ?_) | (refine pv2 (h := ?_); intro nb) | ((first | refine svC F M (h := ?_) | refine svC0 F M (h := ?_) | refine pvC (h := ?_) | refine pvC0 (h := ?_)); (fail); (first | refine ⟨rvsA, ?_⟩ | (clear F M a; intro a w F M) | (clear M; intro w M))) | (refine svK F (h := ?_); clear F a; intro a F) | refine svK0 F (h := ?_) | ((refine sx_guardb F rfl (fun hg => ?_) (fun hg => ?_)) <;> (rw [hg] at F; (try (exact no hg)))) | (refine pvF (h := ?_); intro nb) | refine pvK (h := ?_) | refine pvK0 (h := ?_) | (refine pv_nil ?_; intro a w F M; (try (replace F := F.filt [0, 1, 4, 5, 10, 12, 13, 14, 24] rfl))) | ((fail_if_success (with_reducible first | refine isW ?_ | refine isP ?_ | refine isL ?_)); (first | with_reducible refine sx_region ?_ | ((with_reducible refine isK ?_); (first | refine svT F (h := ?_) | refine svF F (h := ?_) | ((refine svB F (fun hc => ?_) (fun hc => ?_)) <;> (try (exact no hc))))) | ((with_reducible refine isD ?_); (first | (refine svDraw (id := 6) [] [] [] [0, 1, 2, 3, 4, 5, 6, 7, 8] F M (h := ?_); clear F M a w))) | with_reducible refine wp_scope_straight ?_ | with_reducible refine wp_label ?_ | go_step))))
  refine svLoop F M (0 : Nat) (fun k => [(13, .int .i64 k)]) (fun _ => []) (fun k => k ≤ xs.length) (fun k => xs.length - k) [5] (Nat.zero_le _) ?_
  (rintro k q1 a w F M; (try simp only [List.cons_append, List.nil_append] at F M q1 ⊢))
  by_cases hlt : k < xs.length
  · obtain ⟨x, hx⟩ : ∃ x, xs[k]? = some x := ⟨xs[k], by simp [hlt]⟩
    (repeat' (first | (refine sx_nil ?_; (try (replace F := F.filt [0, 1, 4, 5, 10, 12, 13, 14, 24] rfl))) | (refine sv1 F M (h := ?_); clear F a; intro a F) | refine pv1 (h := ?_) | (refine sv3 F M (h := ?_); clear M; intro w M) | (refine sv2 F M (h := ?_); clear F M a; intro nb a w F M) | refine pv3 (h := ?_) | (refine pv2 (h := ?_); intro nb) | ((first | refine svC F M (h := ?_) | refine svC0 F M (h := ?_) | refine pvC (h := ?_) | refine pvC0 (h := ?_)); (fail); (first | refine ⟨rvsA, ?_⟩ | (clear F M a; intro a w F M) | (clear M; intro w M))) | (refine svK F (h := ?_); clear F a; intro a F) | refine svK0 F (h := ?_) | ((refine sx_guardb F rfl (fun hg => ?_) (fun hg => ?_)) <;> (rw [hg] at F; (try (exact no hg)))) | (refine pvF (h := ?_); intro nb) | refine pvK (h := ?_) | refine pvK0 (h := ?_) | (refine pv_nil ?_; intro a w F M; (try (replace F := F.filt [0, 1, 4, 5, 10, 12, 13, 14, 24] rfl))) | ((fail_if_success (with_reducible first | refine isW ?_ | refine isP ?_ | refine isL ?_)); (first | with_reducible refine sx_region ?_ | ((with_reducible refine isK ?_); (first | refine svT F (h := ?_) | refine svF F (h := ?_) | ((refine svB F (fun hc => ?_) (fun hc => ?_)) <;> (try (exact no hc))))) | ((with_reducible refine isD ?_); (first | (refine svDraw (id := 6) [] [] [] [0, 1, 2, 3, 4, 5, 6, 7, 8] F M (h := ?_); clear F M a w))) | with_reducible refine wp_scope_straight ?_ | with_reducible refine wp_label ?_ | go_step))))
    exact sv_again F M (k + 1) kpA permsA (by omega) (by omega)
  · obtain rfl : k = xs.length := by omega
    (repeat' (first | (refine sx_nil ?_; (try (replace F := F.filt [0, 1, 4, 5, 10, 12, 13, 14, 24] rfl))) | (refine sv1 F M (h := ?_); clear F a; intro a F) | refine pv1 (h := ?_) | (refine sv3 F M (h := ?_); clear M; intro w M) | (refine sv2 F M (h := ?_); clear F M a; intro nb a w F M) | refine pv3 (h := ?_) | (refine pv2 (h := ?_); intro nb) | ((first | refine svC F M (h := ?_) | refine svC0 F M (h := ?_) | refine pvC (h := ?_) | refine pvC0 (h := ?_)); (fail); (first | refine ⟨rvsA, ?_⟩ | (clear F M a; intro a w F M) | (clear M; intro w M))) | (refine svK F (h := ?_); clear F a; intro a F) | refine svK0 F (h := ?_) | ((refine sx_guardb F rfl (fun hg => ?_) (fun hg => ?_)) <;> (rw [hg] at F; (try (exact no hg)))) | (refine pvF (h := ?_); intro nb) | refine pvK (h := ?_) | refine pvK0 (h := ?_) | (refine pv_nil ?_; intro a w F M; (try (replace F := F.filt [0, 1, 4, 5, 10, 12, 13, 14, 24] rfl))) | ((fail_if_success (with_reducible first | refine isW ?_ | refine isP ?_ | refine isL ?_)); (first | with_reducible refine sx_region ?_ | ((with_reducible refine isK ?_); (first | refine svT F (h := ?_) | refine svF F (h := ?_) | ((refine svB F (fun hc => ?_) (fun hc => ?_)) <;> (try (exact no hc))))) | ((with_reducible refine isD ?_); (first | (refine svDraw (id := 6) [] [] [] [0, 1, 2, 3, 4, 5, 6, 7, 8] F M (h := ?_); clear F M a w))) | with_reducible refine wp_scope_straight ?_ | with_reducible refine wp_label ?_ | go_step))))
    all_goals (first | refine svEnd F M ?_ | refine svRet F M ?_)
    all_goals exact ⟨_, _, rfl, ⟨rfl, rfl⟩, M.perms permsA⟩
section
variable (v : Value) (l : List Opn) (R : List Asn) (hg : GS R 4 v l.length (l.flatMap opL)) (hwf : ∀ o ∈ l, I64 o.k ∧ OpR o) (hm : Gives R MxL) (hL : Gives R Laid)
include hg hwf hm hL
theorem encodes_law : Spec 3 [v] R fun u L' => u = .bool true ∧ L' = R := by
  have hal := fun R hm hL => alive20_spec R hm hL
  by_cases hb : 300 < l.length
  · (intro G w M; refine sx_enter (vs := ([v] : List Value)) Tryz.func3 (n := 41) rfl rfl rfl rfl ?_; intro a F; (try simp only [List.cons_append, List.nil_append] at M))
    have gg : GS (R ++ G) 4 v l.length (l.flatMap opL) := Gives.app hg
    have hlv := gg.len_le M
    have hm2 : Gives (R ++ G) MxL := Gives.app hm
    have hL2 : Gives (R ++ G) Laid := Gives.app hL
    (repeat' (first | (refine sx_nil ?_; (try (replace F := F.filt [0, 2, 3, 4, 5, 6, 9, 29] rfl))) | (refine sv1 F M (h := ?_); clear F a; intro a F) | refine pv1 (h := ?_) | (refine sv3 F M (h := ?_); clear M; intro w M) | (refine sv2 F M (h := ?_); clear F M a; intro nb a w F M) | refine pv3 (h := ?_) | (refine pv2 (h := ?_); intro nb) | ((first | refine svC F M (h := ?_) | refine svC0 F M (h := ?_) | refine pvC (h := ?_) | refine pvC0 (h := ?_)); (((refine acW (k := 4) (hal _ ?_ ?_) ?_); (exact gvA); (exact gvA); rintro u L' ⟨rfl, rfl⟩)); (first | refine ⟨rvsA, ?_⟩ | (clear F M a; intro a w F M) | (clear M; intro w M))) | (refine svK F (h := ?_); clear F a; intro a F) | refine svK0 F (h := ?_) | ((refine sx_guardb F rfl (fun hg => ?_) (fun hg => ?_)) <;> (rw [hg] at F; (try (exact no hg)))) | (refine pvF (h := ?_); intro nb) | refine pvK (h := ?_) | refine pvK0 (h := ?_) | (refine pv_nil ?_; intro a w F M; (try (replace F := F.filt [0, 2, 3, 4, 5, 6, 9, 29] rfl))) | ((fail_if_success (with_reducible first | refine isW ?_ | refine isP ?_ | refine isL ?_)); (first | with_reducible refine sx_region ?_ | ((with_reducible refine isK ?_); (first | refine svT F (h := ?_) | refine svF F (h := ?_) | ((refine svB F (fun hc => ?_) (fun hc => ?_)) <;> (try (exact no hc))))) | ((with_reducible refine isD ?_); fail) | with_reducible refine wp_scope_straight ?_ | with_reducible refine wp_label ?_ | go_step))))
    all_goals (first | refine svEnd F M ?_ | refine svRet F M ?_)
    all_goals exact ⟨_, _, rfl, ⟨rfl, rfl⟩, M.perms permsA⟩
  · have he := fun R hg => senc_spec v l R hg (by omega) hwf
    have hr := fun R hg => rencall_spec v l R hg (by omega) hwf
    have hde := dec_enc l [] (fun o ho => (hwf o ho).2)
    have hle := encAll_le l
    cases hok : l.all okM
    · rw [hok] at he hr
      simp only [Bool.false_eq_true, if_false] at he hr
      have hq := fun (u v : Value) (R : List Asn) g1 g2 => beq_spec u v [] R g1 g2
      (intro G w M; refine sx_enter (vs := ([v] : List Value)) Tryz.func3 (n := 41) rfl rfl rfl rfl ?_; intro a F; (try simp only [List.cons_append, List.nil_append] at M))
      have gg : GS (R ++ G) 4 v l.length (l.flatMap opL) := Gives.app hg
      have hlv := gg.len_le M
      have hm2 : Gives (R ++ G) MxL := Gives.app hm
      have hL2 : Gives (R ++ G) Laid := Gives.app hL
      (repeat' (first | (refine sx_nil ?_; (try (replace F := F.filt [0, 2, 3, 4, 5, 6, 9, 29] rfl))) | (refine sv1 F M (h := ?_); clear F a; intro a F) | refine pv1 (h := ?_) | (refine sv3 F M (h := ?_); clear M; intro w M) | (refine sv2 F M (h := ?_); clear F M a; intro nb a w F M) | refine pv3 (h := ?_) | (refine pv2 (h := ?_); intro nb) | ((first | refine svC F M (h := ?_) | refine svC0 F M (h := ?_) | refine pvC (h := ?_) | refine pvC0 (h := ?_)); ((first | ((refine acW (k := 4) (hal _ ?_ ?_) ?_); (exact gvA); (exact gvA); rintro u L' ⟨rfl, rfl⟩) | ((refine acW (k := 5) (he _ ?_) ?_); (exact gsA); rintro u L' ⟨h1, _, ⟨rfl, rfl⟩, rfl⟩) | ((refine acW (k := 6) (hr _ ?_) ?_); (exact gsA); rintro u L' ⟨h2, _, ⟨rfl, rfl⟩, rfl⟩) | ((refine acW (k := 7) (hq _ _ _ ?_ ?_) ?_); (exact gs_own pullA); (exact gs_own pullA); rintro u L' ⟨rfl, rfl⟩))); (first | refine ⟨rvsA, ?_⟩ | (clear F M a; intro a w F M) | (clear M; intro w M))) | (refine svK F (h := ?_); clear F a; intro a F) | refine svK0 F (h := ?_) | ((refine sx_guardb F rfl (fun hg => ?_) (fun hg => ?_)) <;> (rw [hg] at F; (try (exact no hg)))) | (refine pvF (h := ?_); intro nb) | refine pvK (h := ?_) | refine pvK0 (h := ?_) | (refine pv_nil ?_; intro a w F M; (try (replace F := F.filt [0, 2, 3, 4, 5, 6, 9, 29] rfl))) | ((fail_if_success (with_reducible first | refine isW ?_ | refine isP ?_ | refine isL ?_)); (first | with_reducible refine sx_region ?_ | ((with_reducible refine isK ?_); (first | refine svT F (h := ?_) | refine svF F (h := ?_) | ((refine svB F (fun hc => ?_) (fun hc => ?_)) <;> (try (exact no hc))))) | ((with_reducible refine isD ?_); fail) | with_reducible refine wp_scope_straight ?_ | with_reducible refine wp_label ?_ | go_step))))
      all_goals (first | refine svEnd F M ?_ | refine svRet F M ?_)
      all_goals exact ⟨_, _, rfl, ⟨rfl, rfl⟩, M.perms permsA⟩
    · rw [hok] at he hr
      simp only [if_true] at he hr
      have hall : ∀ o ∈ l, okM o = true := fun o ho => List.all_eq_true.1 hok o ho
      have hde := hde hall
      have hle := hle hall
      rw [List.nil_append, List.length_nil] at hde
      have hq := fun (u v : Value) (R : List Asn) g1 g2 => beq_spec u v (encAll l) R g1 g2
      have hsd := fun (h : SlH) R hg => sdec_spec h (encAll l) (by omega) R hg
      rw [hde] at hsd
      have hsm := fun (v1 v2 : Value) R g1 g2 => same_spec v1 v2 l l R g1 g2
      rw [decide_eq_true (rfl : l = l)] at hsm
      generalize encAll l = E at *
      (intro G w M; refine sx_enter (vs := ([v] : List Value)) Tryz.func3 (n := 41) rfl rfl rfl rfl ?_; intro a F; (try simp only [List.cons_append, List.nil_append] at M))
      have gg : GS (R ++ G) 4 v l.length (l.flatMap opL) := Gives.app hg
      have hlv := gg.len_le M
      have hm2 : Gives (R ++ G) MxL := Gives.app hm
      have hL2 : Gives (R ++ G) Laid := Gives.app hL
      (repeat' (first | (refine sx_nil ?_; (try (replace F := F.filt [0, 2, 3, 4, 5, 6, 9, 29] rfl))) | (refine sv1 F M (h := ?_); clear F a; intro a F) | refine pv1 (h := ?_) | (refine sv3 F M (h := ?_); clear M; intro w M) | (refine sv2 F M (h := ?_); clear F M a; intro nb a w F M) | refine pv3 (h := ?_) | (refine pv2 (h := ?_); intro nb) | ((first | refine svC F M (h := ?_) | refine svC0 F M (h := ?_) | refine pvC (h := ?_) | refine pvC0 (h := ?_)); ((first | ((refine acW (k := 4) (hal _ ?_ ?_) ?_); (exact gvA); (exact gvA); rintro u L' ⟨rfl, rfl⟩) | ((refine acW (k := 5) (he _ ?_) ?_); (exact gsA); rintro u L' ⟨h1, _, ⟨rfl, rfl⟩, rfl⟩) | ((refine acW (k := 6) (hr _ ?_) ?_); (exact gsA); rintro u L' ⟨h2, _, ⟨rfl, rfl⟩, rfl⟩) | ((refine acW (k := 7) (hq _ _ _ ?_ ?_) ?_); (exact gs_own pullA); (exact gs_own pullA); rintro u L' ⟨rfl, rfl⟩) | ((refine acW (k := 9) (hsd h1 _ ?_) ?_); (exact bg_own M pullA); rintro u L' ⟨h3, rfl, rfl⟩) | ((refine acW (k := 8) (hsm _ _ _ ?_ ?_) ?_); (exact gs_own pullA); (exact gsA); rintro u L' ⟨rfl, rfl⟩))); (first | refine ⟨rvsA, ?_⟩ | (clear F M a; intro a w F M) | (clear M; intro w M))) | (refine svK F (h := ?_); clear F a; intro a F) | refine svK0 F (h := ?_) | ((refine sx_guardb F rfl (fun hg => ?_) (fun hg => ?_)) <;> (rw [hg] at F; (try (exact no hg)))) | (refine pvF (h := ?_); intro nb) | refine pvK (h := ?_) | refine pvK0 (h := ?_) | (refine pv_nil ?_; intro a w F M; (try (replace F := F.filt [0, 2, 3, 4, 5, 6, 9, 29] rfl))) | ((fail_if_success (with_reducible first | refine isW ?_ | refine isP ?_ | refine isL ?_)); (first | with_reducible refine sx_region ?_ | ((with_reducible refine isK ?_); (first | refine svT F (h := ?_) | refine svF F (h := ?_) | ((refine svB F (fun hc => ?_) (fun hc => ?_)) <;> (try (exact no hc))))) | ((with_reducible refine isD ?_); fail) | with_reducible refine wp_scope_straight ?_ | with_reducible refine wp_label ?_ | go_step))))
      all_goals (first | refine svEnd F M ?_ | refine svRet F M ?_)
      all_goals exact ⟨_, _, rfl, ⟨rfl, rfl⟩, M.perms permsA⟩
end
end Go.Proofs.YtaggjikjohamjaaGreatDoor
end
section
namespace Go.Proofs.YtaggjikjohamjaaGreatDoor
open Go.RowKit
set_option linter.unusedVariables false
set_option maxRecDepth 100000
theorem law_oldS {k : FuncId} {us : List Value} {w : World} (h : Spec k us [Old w] fun u L' => u = .bool true ∧ L' = [Old w]) : Calls Tryz.prog k us.toArray w fun e w' => e = .returned (.bool true) ∧ Below w.heap.size w w' := by
  refine (h [] w (Mem.old w)).mono ?_
  rintro e w' ⟨u, L', rfl, ⟨rfl, rfl⟩, M⟩
  exact ⟨rfl, M.below .here⟩
theorem start_ScriptEncodes (w0 : World) (v : Value) (hv : HasSh w0 (.slice 4 (.agg [.int .i64, .int .i64, .int .i64, .int .u64])) [v]) (hl : Laid w0) (hx : MxL w0) : Calls Tryz.prog 3 #[v] w0 fun e w' => e = .returned (.bool true) ∧ Below w0.heap.size w0 w' := by
  obtain ⟨l, g, hw⟩ := slice_of_sh (f := opL) (fun cs h => op_of_sh h) hv
  exact law_oldS (us := [v]) (encodes_law v l [Old w0] (gs_oldT g .here) (fun o ho => ⟨(hw o ho).1, (hw o ho).2.1, (hw o ho).2.2.1, (hw o ho).2.2.2⟩) (Old.mxl hx .here) (Old.laid hl .here))
/-- A contract over every world that has the form that the claim asks for, with more that the world holds. -/
theorem handed_shaped {H : Type} {enc : TypeId × Value → H} {a : Assume} {C : Checked} {os : Os} {f : FuncId} {fn : Func} {s : ChangeSpec} {conds : List PathCond} {apart fresh handsOn again : Bool} {X : World → Array Value → Prop}
    (hX : ∀ (w w' : World) (args : Array Value), w.heap = w'.heap → X w args → X w' args)
    (own : ownKnob C.prog.godebug = none) (started : os.Started) (noInit : C.prog.inits.idxOf? f = none) (hfn : C.prog.funcs[f]? = some fn)
    (witness : ∃ (w : World) (tape : Tape) (i : Input), w.os = os ∧ (w.forCall tape i).Shaped C.prog ∧ i.vars = [] ∧ Input.okWide C.prog (w.forCall tape i) .any w.heap.size f i ∧
      ((s.pre enc C.prog fn conds apart (w.forCall tape i).memory i.args ∧ X (w.forCall tape i).memory i.args) ∧ sizedMet enc C.prog fn (OpenSpec.ofChange s) apart (w.forCall tape i).memory i.args) ∧ a.holds C.prog (lone (Frame.enter C.prog f i.args .normal) [] (w.forCall tape i)))
    (contract : ∀ (W : World) (base : Nat) (args : Array Value) (ds gs : List (DataW H)) (before : List MemPlace),
      (∀ (j : Nat) t v, fn.params[j]? = some t → args[j]? = some v → Value.okWide C.prog W .any base t v) →
      DataW.Whole enc C.prog fn.params.toList s.vars apart W args.toList ds gs before → W.ShapedOpen C.prog → X W args →
      Calls C.prog f args W fun e W' => ∃ v, e = .returned v ∧ s.post enc C.prog fn apart fresh handsOn again W args v W') :
    ReturnsInHanded a C os f .any (fun w args => (s.pre enc C.prog fn conds apart w args ∧ X w args) ∧ sizedMet enc C.prog fn (OpenSpec.ofChange s) apart w args) (s.post enc C.prog fn apart fresh handsOn again) :=
  returnsInHanded_of_calls own started noInit witness fun w tape i _ hsh _ hok hpre _ => by
    obtain ⟨_, _, _, fn', hfn', _, _, _, _, hval⟩ := hok
    obtain rfl : fn' = fn := Option.some.inj (hfn'.symm.trans hfn)
    obtain ⟨⟨⟨ds, gs, before, hw, _⟩, hx⟩, _⟩ := hpre
    refine (contract (w.forCall tape i) w.heap.size i.args ds gs before hval (DataW.Whole.of_heap (w' := w.forCall tape i) (by rfl) hw) hsh (hX _ _ _ (by rfl) hx)).mono fun e W' ⟨v, he, hp⟩ => ?_
    subst he
    exact ChangeSpec.post_blind hp
theorem mxl_of {w : World} (h : w.ShapedOpen Tryz.prog) : MxL w :=
  cell_of_shapedOpen_int (g := 0) (t := 3) (zero := #[.int .i64 0]) h (of_decide_eq_true (by kernel_rfl)) (by kernel_rfl) rfl (by kernel_rfl) (by kernel_rfl) (by kernel_rfl)
end Go.Proofs.YtaggjikjohamjaaGreatDoor
end
