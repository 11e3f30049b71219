import Derived.Test.YtaggjikjohamjaaDoorZse
set_option linter.unusedVariables false
set_option linter.unusedSimpArgs false
section
namespace Go.Proofs.YtaggjikjohamjaaDoor
open Go.RowKit Go.Maps
set_option linter.unusedVariables false
set_option maxRecDepth 100000
set_option linter.unusedSimpArgs false
set_option maxHeartbeats 8000000
section
variable {o : Oper} {n : Nat} {l : List (Nat × Value)} {L : List Asn}
theorem rt_eqOp {t ty : TypeId} {x y : Operand} (ho : o.op = .binOp .eql t x y ty) {p : Opn} (hx : evl l x = some (.agg (opL p).toArray)) (hy : evl l y = some (.agg (opL p).toArray)) (he : EQ t [.int, .int, .int, .int]) : RT o l L n (.bool true) := by
  have := rt_eqlT (f := opL) (L := L) (n := n) ho hx hy he scEQF
  rwa [decide_eq_true rfl] at this
theorem rt_neStr {t ty : TypeId} {x y : Operand} (ho : o.op = .binOp .neq t x y ty) {s : List UInt8} (hx : evl l x = some (str s)) (hy : evl l y = some (str s)) : RT o l L n (.bool false) := by
  have := rt_neT (L := L) (n := n) ho hx hy
  rwa [decide_eq_false (fun h => h rfl)] at this
theorem rt_eqStr {t ty : TypeId} {x y : Operand} (ho : o.op = .binOp .eql t x y ty) {s : List UInt8} (hx : evl l x = some (str s)) (hy : evl l y = some (str s)) : RT o l L n (.bool true) := by
  have := rt_eqT (L := L) (n := n) ho hx hy
  rwa [decide_eq_true rfl] at this
end
section
variable {o : Oper} {n : Nat} {l : List (Nat × Value)} {L : List Asn} {C : Value → List Asn → Prop}
theorem ac_appEs {α : Type} {f : α → List Value} {x y : Operand} {t : TypeId} {ats : Array TypeId} (ho : o.op = .call { callee := .builtin .append, args := #[x, y], argTypes := ats }) (hat : ats = #[t, t]) {e : TypeId} {z : Value} {k bytes : Nat} (ht : ST t e z k bytes) {v : Value} (hx : evl l x = some v) {u : Value} (hy : evl l y = some u)
    {ys : List α} {L' : List Asn} (hp : Pull L (own e k v 0 []) L') (he : EL f k) {m : Nat} {cs : List Value} (hg : GS L k u m cs) (hm : m = ys.length) (hcs : cs = ys.flatMap f) (hb : ys.length * (bytes + 1) ≤ 140737488355328)
    (h : ∀ v', C (sl v') (ownT e f k (sl v') ys :: L')) : AC o l L n C :=
  ac_appendH (f := f) (xs := []) (ys := ys) ho hat ht hx hy hp he hg hm hcs (by simpa using hb) fun v' => h v'
end
theorem fmtM_len (o : Opn) (hr : OpR o) : (fmtM o).length ≤ 1000 := by
  unfold fmtM
  split
  · rename_i hok
    obtain ⟨ds, hd⟩ := okM_true hok
    obtain ⟨hl2, _⟩ := ods_len hd.k
    have h1 := join_le 32 (nameOf o.k) (ds.map (fmtW o)) (by intro x hx; obtain ⟨d, _, rfl⟩ := List.mem_map.1 hx; exact fmtW_len o hr d)
    have h2 := name_len o.k
    rw [List.length_map] at h1
    rw [hd.k]; simp only [Option.getD_some]
    omega
  · decide
section
variable (R : List Asn) (hm : Gives R MxL) (hL : Gives R Laid)
include hm hL
theorem lines_law (o : Opn) (hk : I64 o.k) (hr : OpR o) : Spec 3 [opV o] R fun u L' => u = .bool true ∧ L' = R := by
  have hal := fun R hm hL => alive20_spec R hm hL
  have hf := fun R hT => fmt_spec o hk hr R hT
  have hrf := fun R => rfmt19_spec o hr R
  have hrv := fun R => rvalid_spec o R
  have hln := fmtM_len o hr
  have hp := fun R hm hL => parse_spec (fmtM o) (by omega) R hm hL
  have hpo := pars_fmt o hr
  unfold parsM at hp
  rw [hpo] at hp
  generalize fmtM o = S at *
  obtain ⟨k, ix, tg, am⟩ := o
  cases hok : okM ⟨k, ix, tg, am⟩
  · rw [hok] at hp hrv
    simp only [Bool.false_eq_true, if_false, Option.getD_none, Option.isSome_none] at hp
    (intro G w M; refine sx_enter (vs := ([opV ⟨k, ix, tg, am⟩] : List Value)) Tryd.func3 (n := 41) rfl rfl rfl rfl ?_; intro a F; (try simp only [List.cons_append, List.nil_append] at M))
    have hm2 : Gives (R ++ G) MxL := Gives.app hm
    have hL2 : Gives (R ++ G) Laid := Gives.app hL
    have hT2 : Gives (R ++ G) Tens := gv_tens hL2
    (repeat' (first | ((first | refine sv1 F M (h := ?_) (hr := by ((first | (refine rt_neStr rfl rfl rfl) | (refine rt_eqOp (p := ⟨k, ix, tg, am⟩) rfl rfl rfl inferInstance) | (refine rt_eqOp (p := oz 0) rfl rfl rfl inferInstance)))) | refine pv1 (h := ?_) (hr := by ((first | (refine rt_neStr rfl rfl rfl) | (refine rt_eqOp (p := ⟨k, ix, tg, am⟩) rfl rfl rfl inferInstance) | (refine rt_eqOp (p := oz 0) rfl rfl rfl inferInstance))))); (try (clear F a; intro a F))) | (refine sx_nil ?_; (try (replace F := F.filt [0, 1, 2, 3, 4, 5, 22] rfl))) | (refine sv1 F M (h := ?_); clear F a; intro a F) | refine pv1 (h := ?_) | (refine sv3 F M (h := ?_); clear M; intro w M) | (refine sv2 F M (h := ?_); clear F M a; intro nb a w F M) | refine pv3 (h := ?_) | (refine pv2 (h := ?_); intro nb) | ((first | refine svC F M (h := ?_) | refine svC0 F M (h := ?_) | refine pvC (h := ?_) | refine pvC0 (h := ?_)); ((first | ((refine acW (k := 12) (hal _ ?_ ?_) ?_); (exact gvA); (exact gvA); rintro u L' ⟨rfl, rfl⟩) | ((refine acW (k := 8) (hf _ ?_) ?_); (exact gvA); rintro u L' ⟨rfl, rfl⟩) | ((refine acW (k := 9) (hp _ ?_ ?_) ?_); (exact gvA); (exact gvA); rintro u L' ⟨rfl, rfl⟩) | ((refine acW (k := 10) (hrf _) ?_); rintro u L' ⟨rfl, rfl⟩) | ((refine acW (k := 11) (hrv _) ?_); rintro u L' ⟨rfl, rfl⟩))); (first | refine ⟨rvsA, ?_⟩ | (clear F M a; intro a w F M) | (clear M; intro w M))) | (refine svK F (h := ?_); clear F a; intro a F) | refine svK0 F (h := ?_) | ((refine sx_guardb F rfl (fun hg => ?_) (fun hg => ?_)) <;> (rw [hg] at F; (try (exact no hg)))) | (refine pvF (h := ?_); intro nb) | refine pvK (h := ?_) | refine pvK0 (h := ?_) | (refine pv_nil ?_; intro a w F M; (try (replace F := F.filt [0, 1, 2, 3, 4, 5, 22] rfl))) | ((fail_if_success (with_reducible first | refine isW ?_ | refine isP ?_ | refine isL ?_)); (first | with_reducible refine sx_region ?_ | ((with_reducible refine isK ?_); (first | refine svT F (h := ?_) | refine svF F (h := ?_) | ((refine svB F (fun hc => ?_) (fun hc => ?_)) <;> (try (exact no hc))))) | ((with_reducible refine isD ?_); fail) | with_reducible refine wp_scope_straight ?_ | with_reducible refine wp_label ?_ | go_step))))
    all_goals (first | refine svEnd F M ?_ | refine svRet F M ?_)
    all_goals exact ⟨_, _, rfl, ⟨rfl, rfl⟩, M.perms permsA⟩
  · rw [hok] at hp hrv
    simp only [if_true, Option.getD_some, Option.isSome_some] at hp
    (intro G w M; refine sx_enter (vs := ([opV ⟨k, ix, tg, am⟩] : List Value)) Tryd.func3 (n := 41) rfl rfl rfl rfl ?_; intro a F; (try simp only [List.cons_append, List.nil_append] at M))
    have hm2 : Gives (R ++ G) MxL := Gives.app hm
    have hL2 : Gives (R ++ G) Laid := Gives.app hL
    have hT2 : Gives (R ++ G) Tens := gv_tens hL2
    (repeat' (first | ((first | refine sv1 F M (h := ?_) (hr := by ((first | (refine rt_neStr rfl rfl rfl) | (refine rt_eqOp (p := ⟨k, ix, tg, am⟩) rfl rfl rfl inferInstance) | (refine rt_eqOp (p := oz 0) rfl rfl rfl inferInstance)))) | refine pv1 (h := ?_) (hr := by ((first | (refine rt_neStr rfl rfl rfl) | (refine rt_eqOp (p := ⟨k, ix, tg, am⟩) rfl rfl rfl inferInstance) | (refine rt_eqOp (p := oz 0) rfl rfl rfl inferInstance))))); (try (clear F a; intro a F))) | (refine sx_nil ?_; (try (replace F := F.filt [0, 1, 2, 3, 4, 5, 22] rfl))) | (refine sv1 F M (h := ?_); clear F a; intro a F) | refine pv1 (h := ?_) | (refine sv3 F M (h := ?_); clear M; intro w M) | (refine sv2 F M (h := ?_); clear F M a; intro nb a w F M) | refine pv3 (h := ?_) | (refine pv2 (h := ?_); intro nb) | ((first | refine svC F M (h := ?_) | refine svC0 F M (h := ?_) | refine pvC (h := ?_) | refine pvC0 (h := ?_)); ((first | ((refine acW (k := 12) (hal _ ?_ ?_) ?_); (exact gvA); (exact gvA); rintro u L' ⟨rfl, rfl⟩) | ((refine acW (k := 8) (hf _ ?_) ?_); (exact gvA); rintro u L' ⟨rfl, rfl⟩) | ((refine acW (k := 9) (hp _ ?_ ?_) ?_); (exact gvA); (exact gvA); rintro u L' ⟨rfl, rfl⟩) | ((refine acW (k := 10) (hrf _) ?_); rintro u L' ⟨rfl, rfl⟩) | ((refine acW (k := 11) (hrv _) ?_); rintro u L' ⟨rfl, rfl⟩))); (first | refine ⟨rvsA, ?_⟩ | (clear F M a; intro a w F M) | (clear M; intro w M))) | (refine svK F (h := ?_); clear F a; intro a F) | refine svK0 F (h := ?_) | ((refine sx_guardb F rfl (fun hg => ?_) (fun hg => ?_)) <;> (rw [hg] at F; (try (exact no hg)))) | (refine pvF (h := ?_); intro nb) | refine pvK (h := ?_) | refine pvK0 (h := ?_) | (refine pv_nil ?_; intro a w F M; (try (replace F := F.filt [0, 1, 2, 3, 4, 5, 22] rfl))) | ((fail_if_success (with_reducible first | refine isW ?_ | refine isP ?_ | refine isL ?_)); (first | with_reducible refine sx_region ?_ | ((with_reducible refine isK ?_); (first | refine svT F (h := ?_) | refine svF F (h := ?_) | ((refine svB F (fun hc => ?_) (fun hc => ?_)) <;> (try (exact no hc))))) | ((with_reducible refine isD ?_); fail) | with_reducible refine wp_scope_straight ?_ | with_reducible refine wp_label ?_ | go_step))))
    all_goals (first | refine svEnd F M ?_ | refine svRet F M ?_)
    all_goals exact ⟨_, _, rfl, ⟨rfl, rfl⟩, M.perms permsA⟩
theorem parses_law (s : List UInt8) (hs : s.length ≤ 9223372036854775807) : Spec 4 [str s] R fun u L' => u = .bool true ∧ L' = R := by
  have hal := fun R hm hL => alive20_spec R hm hL
  by_cases hb : 200 < s.length
  · (intro G w M; refine sx_enter (vs := ([str s] : List Value)) Tryd.func4 (n := 42) rfl rfl rfl rfl ?_; intro a F; (try simp only [List.cons_append, List.nil_append] at M))
    have hm2 : Gives (R ++ G) MxL := Gives.app hm
    have hL2 : Gives (R ++ G) Laid := Gives.app hL
    (repeat' (first | (refine sx_nil ?_; (try (replace F := F.filt [0, 2, 3, 4, 5, 6, 9] rfl))) | (refine sv1 F M (h := ?_); clear F a; intro a F) | refine pv1 (h := ?_) | (refine sv3 F M (h := ?_); clear M; intro w M) | (refine sv2 F M (h := ?_); clear F M a; intro nb a w F M) | refine pv3 (h := ?_) | (refine pv2 (h := ?_); intro nb) | ((first | refine svC F M (h := ?_) | refine svC0 F M (h := ?_) | refine pvC (h := ?_) | refine pvC0 (h := ?_)); (((refine acW (k := 12) (hal _ ?_ ?_) ?_); (exact gvA); (exact gvA); rintro u L' ⟨rfl, rfl⟩)); (first | refine ⟨rvsA, ?_⟩ | (clear F M a; intro a w F M) | (clear M; intro w M))) | (refine svK F (h := ?_); clear F a; intro a F) | refine svK0 F (h := ?_) | ((refine sx_guardb F rfl (fun hg => ?_) (fun hg => ?_)) <;> (rw [hg] at F; (try (exact no hg)))) | (refine pvF (h := ?_); intro nb) | refine pvK (h := ?_) | refine pvK0 (h := ?_) | (refine pv_nil ?_; intro a w F M; (try (replace F := F.filt [0, 2, 3, 4, 5, 6, 9] rfl))) | ((fail_if_success (with_reducible first | refine isW ?_ | refine isP ?_ | refine isL ?_)); (first | with_reducible refine sx_region ?_ | ((with_reducible refine isK ?_); (first | refine svT F (h := ?_) | refine svF F (h := ?_) | ((refine svB F (fun hc => ?_) (fun hc => ?_)) <;> (try (exact no hc))))) | ((with_reducible refine isD ?_); fail) | with_reducible refine wp_scope_straight ?_ | with_reducible refine wp_label ?_ | go_step))))
    all_goals (first | refine svEnd F M ?_ | refine svRet F M ?_)
    all_goals exact ⟨_, _, rfl, ⟨rfl, rfl⟩, M.perms permsA⟩
  · have hp := fun R hm hL => parse_spec s (by omega) R hm hL
    have hrp := fun R => rparse_spec s (by omega) R
    unfold parsM at hp hrp
    cases ho : parsO s with
    | none =>
      rw [ho] at hp hrp
      simp only [Option.getD_none, Option.isSome_none] at hp hrp
      (intro G w M; refine sx_enter (vs := ([str s] : List Value)) Tryd.func4 (n := 42) rfl rfl rfl rfl ?_; intro a F; (try simp only [List.cons_append, List.nil_append] at M))
      have hm2 : Gives (R ++ G) MxL := Gives.app hm
      have hL2 : Gives (R ++ G) Laid := Gives.app hL
      (repeat' (first | ((first | refine sv1 F M (h := ?_) (hr := by ((refine rt_eqOp (p := oz 0) rfl rfl rfl inferInstance))) | refine pv1 (h := ?_) (hr := by ((refine rt_eqOp (p := oz 0) rfl rfl rfl inferInstance)))); (try (clear F a; intro a F))) | (refine sx_nil ?_; (try (replace F := F.filt [0, 2, 3, 4, 5, 6, 9] rfl))) | (refine sv1 F M (h := ?_); clear F a; intro a F) | refine pv1 (h := ?_) | (refine sv3 F M (h := ?_); clear M; intro w M) | (refine sv2 F M (h := ?_); clear F M a; intro nb a w F M) | refine pv3 (h := ?_) | (refine pv2 (h := ?_); intro nb) | ((first | refine svC F M (h := ?_) | refine svC0 F M (h := ?_) | refine pvC (h := ?_) | refine pvC0 (h := ?_)); ((first | ((refine acW (k := 12) (hal _ ?_ ?_) ?_); (exact gvA); (exact gvA); rintro u L' ⟨rfl, rfl⟩) | ((refine acW (k := 9) (hp _ ?_ ?_) ?_); (exact gvA); (exact gvA); rintro u L' ⟨rfl, rfl⟩) | ((refine acW (k := 13) (hrp _) ?_); rintro u L' ⟨rfl, rfl⟩))); (first | refine ⟨rvsA, ?_⟩ | (clear F M a; intro a w F M) | (clear M; intro w M))) | (refine svK F (h := ?_); clear F a; intro a F) | refine svK0 F (h := ?_) | ((refine sx_guardb F rfl (fun hg => ?_) (fun hg => ?_)) <;> (rw [hg] at F; (try (exact no hg)))) | (refine pvF (h := ?_); intro nb) | refine pvK (h := ?_) | refine pvK0 (h := ?_) | (refine pv_nil ?_; intro a w F M; (try (replace F := F.filt [0, 2, 3, 4, 5, 6, 9] rfl))) | ((fail_if_success (with_reducible first | refine isW ?_ | refine isP ?_ | refine isL ?_)); (first | with_reducible refine sx_region ?_ | ((with_reducible refine isK ?_); (first | refine svT F (h := ?_) | refine svF F (h := ?_) | ((refine svB F (fun hc => ?_) (fun hc => ?_)) <;> (try (exact no hc))))) | ((with_reducible refine isD ?_); fail) | with_reducible refine wp_scope_straight ?_ | with_reducible refine wp_label ?_ | go_step))))
      all_goals (first | refine svEnd F M ?_ | refine svRet F M ?_)
      all_goals exact ⟨_, _, rfl, ⟨rfl, rfl⟩, M.perms permsA⟩
    | some o =>
      obtain ⟨hfs, hr⟩ := fmt_pars ho
      have hk : I64 o.k := by
        unfold parsO at ho
        have : (fmtM o) = s := hfs
        have hok : okM o = true := by
          have h1 := pars_fmt o hr
          rw [hfs] at h1
          unfold parsO at h1
          rw [ho] at h1
          by_cases h : okM o = true
          · exact h
          · rw [if_neg h] at h1; cases h1
        obtain ⟨ds, hd⟩ := okM_true hok
        rcases ods_cases hd.k with ⟨h, _⟩ | ⟨h, _⟩ | ⟨h, _⟩ | ⟨h, _⟩ | ⟨h, _⟩ | ⟨h, _⟩ | ⟨h, _⟩ <;> exact ⟨by omega, by omega⟩
      have hf := fun R hT => fmt_spec o hk hr R hT
      rw [hfs] at hf
      rw [ho] at hp hrp
      simp only [Option.getD_some, Option.isSome_some] at hp hrp
      obtain ⟨k, ix, tg, am⟩ := o
      (intro G w M; refine sx_enter (vs := ([str s] : List Value)) Tryd.func4 (n := 42) rfl rfl rfl rfl ?_; intro a F; (try simp only [List.cons_append, List.nil_append] at M))
      have hm2 : Gives (R ++ G) MxL := Gives.app hm
      have hL2 : Gives (R ++ G) Laid := Gives.app hL
      have hT2 : Gives (R ++ G) Tens := gv_tens hL2
      (repeat' (first | ((first | refine sv1 F M (h := ?_) (hr := by ((first | (refine rt_eqOp (p := ⟨k, ix, tg, am⟩) rfl rfl rfl inferInstance) | (refine rt_eqStr rfl rfl rfl)))) | refine pv1 (h := ?_) (hr := by ((first | (refine rt_eqOp (p := ⟨k, ix, tg, am⟩) rfl rfl rfl inferInstance) | (refine rt_eqStr rfl rfl rfl))))); (try (clear F a; intro a F))) | (refine sx_nil ?_; (try (replace F := F.filt [0, 2, 3, 4, 5, 6, 9] rfl))) | (refine sv1 F M (h := ?_); clear F a; intro a F) | refine pv1 (h := ?_) | (refine sv3 F M (h := ?_); clear M; intro w M) | (refine sv2 F M (h := ?_); clear F M a; intro nb a w F M) | refine pv3 (h := ?_) | (refine pv2 (h := ?_); intro nb) | ((first | refine svC F M (h := ?_) | refine svC0 F M (h := ?_) | refine pvC (h := ?_) | refine pvC0 (h := ?_)); ((first | ((refine acW (k := 12) (hal _ ?_ ?_) ?_); (exact gvA); (exact gvA); rintro u L' ⟨rfl, rfl⟩) | ((refine acW (k := 9) (hp _ ?_ ?_) ?_); (exact gvA); (exact gvA); rintro u L' ⟨rfl, rfl⟩) | ((refine acW (k := 13) (hrp _) ?_); rintro u L' ⟨rfl, rfl⟩) | ((refine acW (k := 8) (hf _ ?_) ?_); (exact gvA); rintro u L' ⟨rfl, rfl⟩))); (first | refine ⟨rvsA, ?_⟩ | (clear F M a; intro a w F M) | (clear M; intro w M))) | (refine svK F (h := ?_); clear F a; intro a F) | refine svK0 F (h := ?_) | ((refine sx_guardb F rfl (fun hg => ?_) (fun hg => ?_)) <;> (rw [hg] at F; (try (exact no hg)))) | (refine pvF (h := ?_); intro nb) | refine pvK (h := ?_) | refine pvK0 (h := ?_) | (refine pv_nil ?_; intro a w F M; (try (replace F := F.filt [0, 2, 3, 4, 5, 6, 9] rfl))) | ((fail_if_success (with_reducible first | refine isW ?_ | refine isP ?_ | refine isL ?_)); (first | with_reducible refine sx_region ?_ | ((with_reducible refine isK ?_); (first | refine svT F (h := ?_) | refine svF F (h := ?_) | ((refine svB F (fun hc => ?_) (fun hc => ?_)) <;> (try (exact no hc))))) | ((with_reducible refine isD ?_); fail) | with_reducible refine wp_scope_straight ?_ | with_reducible refine wp_label ?_ | go_step))))
      all_goals (first | refine svEnd F M ?_ | refine svRet F M ?_)
      all_goals exact ⟨_, _, rfl, ⟨rfl, rfl⟩, M.perms permsA⟩
theorem reads_law (a b : List UInt8) (ha : a.length ≤ 9223372036854775807) (hb : b.length ≤ 9223372036854775807) : Spec 5 [str a, str b] R fun u L' => u = .bool true ∧ L' = R := by
  have hal := fun R hm hL => alive20_spec R hm hL
  by_cases h1 : 1000 < a.length
  · (intro G w M; refine sx_enter (vs := ([str a, str b] : List Value)) Tryd.func5 (n := 50) rfl rfl rfl rfl ?_; intro a F; (try simp only [List.cons_append, List.nil_append] at M))
    have hm2 : Gives (R ++ G) MxL := Gives.app hm
    have hL2 : Gives (R ++ G) Laid := Gives.app hL
    (repeat' (first | (refine sx_nil ?_; (try (replace F := F.filt [0, 1, 4, 5, 6, 7, 15] rfl))) | (refine sv1 F M (h := ?_); clear F a; intro a F) | refine pv1 (h := ?_) | (refine sv3 F M (h := ?_); clear M; intro w M) | (refine sv2 F M (h := ?_); clear F M a; intro nb a w F M) | refine pv3 (h := ?_) | (refine pv2 (h := ?_); intro nb) | ((first | refine svC F M (h := ?_) | refine svC0 F M (h := ?_) | refine pvC (h := ?_) | refine pvC0 (h := ?_)); (((refine acW (k := 12) (hal _ ?_ ?_) ?_); (exact gvA); (exact gvA); rintro u L' ⟨rfl, rfl⟩)); (first | refine ⟨rvsA, ?_⟩ | (clear F M a; intro a w F M) | (clear M; intro w M))) | (refine svK F (h := ?_); clear F a; intro a F) | refine svK0 F (h := ?_) | ((refine sx_guardb F rfl (fun hg => ?_) (fun hg => ?_)) <;> (rw [hg] at F; (try (exact no hg)))) | (refine pvF (h := ?_); intro nb) | refine pvK (h := ?_) | refine pvK0 (h := ?_) | (refine pv_nil ?_; intro a w F M; (try (replace F := F.filt [0, 1, 4, 5, 6, 7, 15] rfl))) | ((fail_if_success (with_reducible first | refine isW ?_ | refine isP ?_ | refine isL ?_)); (first | with_reducible refine sx_region ?_ | ((with_reducible refine isK ?_); (first | refine svT F (h := ?_) | refine svF F (h := ?_) | ((refine svB F (fun hc => ?_) (fun hc => ?_)) <;> (try (exact no hc))))) | ((with_reducible refine isD ?_); fail) | with_reducible refine wp_scope_straight ?_ | with_reducible refine wp_label ?_ | go_step))))
    all_goals (first | refine svEnd F M ?_ | refine svRet F M ?_)
    all_goals exact ⟨_, _, rfl, ⟨rfl, rfl⟩, M.perms permsA⟩
  by_cases h2 : 1000 < b.length
  · (intro G w M; refine sx_enter (vs := ([str a, str b] : List Value)) Tryd.func5 (n := 50) rfl rfl rfl rfl ?_; intro a F; (try simp only [List.cons_append, List.nil_append] at M))
    have hm2 : Gives (R ++ G) MxL := Gives.app hm
    have hL2 : Gives (R ++ G) Laid := Gives.app hL
    (repeat' (first | (refine sx_nil ?_; (try (replace F := F.filt [0, 1, 4, 5, 6, 7, 15] rfl))) | (refine sv1 F M (h := ?_); clear F a; intro a F) | refine pv1 (h := ?_) | (refine sv3 F M (h := ?_); clear M; intro w M) | (refine sv2 F M (h := ?_); clear F M a; intro nb a w F M) | refine pv3 (h := ?_) | (refine pv2 (h := ?_); intro nb) | ((first | refine svC F M (h := ?_) | refine svC0 F M (h := ?_) | refine pvC (h := ?_) | refine pvC0 (h := ?_)); (((refine acW (k := 12) (hal _ ?_ ?_) ?_); (exact gvA); (exact gvA); rintro u L' ⟨rfl, rfl⟩)); (first | refine ⟨rvsA, ?_⟩ | (clear F M a; intro a w F M) | (clear M; intro w M))) | (refine svK F (h := ?_); clear F a; intro a F) | refine svK0 F (h := ?_) | ((refine sx_guardb F rfl (fun hg => ?_) (fun hg => ?_)) <;> (rw [hg] at F; (try (exact no hg)))) | (refine pvF (h := ?_); intro nb) | refine pvK (h := ?_) | refine pvK0 (h := ?_) | (refine pv_nil ?_; intro a w F M; (try (replace F := F.filt [0, 1, 4, 5, 6, 7, 15] rfl))) | ((fail_if_success (with_reducible first | refine isW ?_ | refine isP ?_ | refine isL ?_)); (first | with_reducible refine sx_region ?_ | ((with_reducible refine isK ?_); (first | refine svT F (h := ?_) | refine svF F (h := ?_) | ((refine svB F (fun hc => ?_) (fun hc => ?_)) <;> (try (exact no hc))))) | ((with_reducible refine isD ?_); fail) | with_reducible refine wp_scope_straight ?_ | with_reducible refine wp_label ?_ | go_step))))
    all_goals (first | refine svEnd F M ?_ | refine svRet F M ?_)
    all_goals exact ⟨_, _, rfl, ⟨rfl, rfl⟩, M.perms permsA⟩
  · have hra := fun R hm hL => read_spec a (by omega) R hm hL
    have hrb := fun R hm hL => read_spec b (by omega) R hm hL
    have hrc := fun R hm hL => read_spec (a ++ [10] ++ b) (by simp; omega) R hm hL
    have happ : readM (a ++ [10] ++ b) = readM a ++ readM b := by rw [List.append_assoc]; exact read_app a b
    rw [happ] at hrc
    have hrr := fun R => rread_spec a (by omega) R
    have hla := read_len a
    have hlb := read_len b
    have hca := List.count_le_length (a := (10 : UInt8)) (l := a)
    have hcb := List.count_le_length (a := (10 : UInt8)) (l := b)
    have hsc := fun R => scount_spec a 10 R
    generalize readM a = X at *
    generalize readM b = Y at *
    generalize a.count 10 = N at *
    have hs1 := fun (v1 v2 : Value) R g1 g2 => same_spec v1 v2 X X R g1 g2
    rw [decide_eq_true (rfl : X = X)] at hs1
    have hs2 := fun (v1 v2 : Value) R g1 g2 => same_spec v1 v2 (X ++ Y) (X ++ Y) R g1 g2
    rw [decide_eq_true (rfl : X ++ Y = X ++ Y)] at hs2
    have dl : decide ((X.length : Int) ≤ (N : Int) + 1) = true := by simp; omega
    (intro G w M; refine sx_enter (vs := ([str a, str b] : List Value)) Tryd.func5 (n := 50) rfl rfl rfl rfl ?_; intro a F; (try simp only [List.cons_append, List.nil_append] at M))
    have hm2 : Gives (R ++ G) MxL := Gives.app hm
    have hL2 : Gives (R ++ G) Laid := Gives.app hL
    (repeat' (first | (refine sx_nil ?_; (try (replace F := F.filt [0, 1, 4, 5, 6, 7, 15] rfl))) | (refine sv1 F M (h := ?_); clear F a; intro a F) | refine pv1 (h := ?_) | (refine sv3 F M (h := ?_); clear M; intro w M) | (refine sv2 F M (h := ?_); clear F M a; intro nb a w F M) | refine pv3 (h := ?_) | (refine pv2 (h := ?_); intro nb) | ((first | refine svC F M (h := ?_) | refine svC0 F M (h := ?_) | refine pvC (h := ?_) | refine pvC0 (h := ?_)); ((first | ((refine acW (k := 12) (hal _ ?_ ?_) ?_); (exact gvA); (exact gvA); rintro u L' ⟨rfl, rfl⟩) | ((refine acW (k := 14) (hra _ ?_ ?_) ?_); (exact gvA); (exact gvA); rintro u L' ⟨r1, rfl, rfl⟩) | ((refine acW (k := 14) (hrb _ ?_ ?_) ?_); (exact gvA); (exact gvA); rintro u L' ⟨r2, rfl, rfl⟩) | ((refine acW (k := 14) (hrc _ ?_ ?_) ?_); (exact gvA); (exact gvA); rintro u L' ⟨r3, rfl, rfl⟩) | ((refine acW (k := 16) (hrr _) ?_); rintro u L' ⟨r4, rfl, rfl⟩) | ((refine acW (k := 15) (hs1 _ _ _ ?_ ?_) ?_); (exact gs_own pullA); (exact gs_own pullA); rintro u L' ⟨rfl, rfl⟩) | ((refine acW (k := 15) (hs2 _ _ _ ?_ ?_) ?_); (exact gs_own pullA); (exact gs_own pullA); rintro u L' ⟨rfl, rfl⟩) | ((refine acW (k := 17) (hsc _) ?_); rintro u L' ⟨rfl, rfl⟩) | (refine ac_appEs (f := opL) (ys := X) rfl rfl inferInstance rfl rfl pullA inferInstance gsA rfl rfl (by omega) ?_; intro n1) | (refine ac_appendH (f := opL) (xs := X) (ys := Y) rfl rfl inferInstance rfl rfl pullA inferInstance gsA rfl rfl (by omega) ?_; intro n2))); (first | refine ⟨rvsA, ?_⟩ | (clear F M a; intro a w F M) | (clear M; intro w M))) | (refine svK F (h := ?_); clear F a; intro a F) | refine svK0 F (h := ?_) | ((refine sx_guardb F rfl (fun hg => ?_) (fun hg => ?_)) <;> (rw [hg] at F; (try (exact no hg)))) | (refine pvF (h := ?_); intro nb) | refine pvK (h := ?_) | refine pvK0 (h := ?_) | (refine pv_nil ?_; intro a w F M; (try (replace F := F.filt [0, 1, 4, 5, 6, 7, 15] rfl))) | ((fail_if_success (with_reducible first | refine isW ?_ | refine isP ?_ | refine isL ?_)); (first | with_reducible refine sx_region ?_ | ((with_reducible refine isK ?_); (first | refine svT F (h := ?_) | refine svF F (h := ?_) | ((refine svB F (fun hc => ?_) (fun hc => ?_)) <;> (try (exact no hc))))) | ((with_reducible refine isD ?_); fail) | with_reducible refine wp_scope_straight ?_ | with_reducible refine wp_label ?_ | go_step))))
    all_goals (first | refine svEnd F M ?_ | refine svRet F M ?_)
    all_goals (refine ⟨_, _, rfl, ⟨?_, rfl⟩, M.perms permsA⟩; first | rfl | (simp only [tupOf, dl]))
end
end Go.Proofs.YtaggjikjohamjaaDoor
end
section
namespace Go.Proofs.YtaggjikjohamjaaDoor
open Go.RowKit
set_option linter.unusedVariables false
set_option maxRecDepth 100000
theorem law_oldS {k : FuncId} {us : List Value} {w : World} (h : Spec k us [Old w] fun u L' => u = .bool true ∧ L' = [Old w]) : Calls Tryd.prog k us.toArray w fun e w' => e = .returned (.bool true) ∧ Below w.heap.size w w' := by
  refine (h [] w (Mem.old w)).mono ?_
  rintro e w' ⟨u, L', rfl, ⟨rfl, rfl⟩, M⟩
  exact ⟨rfl, M.below .here⟩
theorem u8_of_sh {w : World} {l : List Value} (h : HasSh w (.int .u8) l) : ∃ x : UInt8, l = u8L x ∧ True := by
  obtain ⟨n, rfl, h2⟩ := shb_int h
  have hb : 0 ≤ n ∧ n ≤ 255 := by
    simp [Lit.wf, IntKind.min, IntKind.max, IntKind.signed, IntKind.bits] at h2
    omega
  refine ⟨UInt8.ofNat n.toNat, ?_, trivial⟩
  have e : (UInt8.ofNat n.toNat).toNat = n.toNat := by rw [UInt8.toNat_ofNat']; omega
  rw [u8L, e]
  congr 2
  omega
theorem bytes_sh {w : World} {v : Value} (hv : HasSh w (.slice 1 (.int .u8)) [v]) : ∃ (h : SlH) (bs : List UInt8), v = sl h ∧ BG [Old w] h bs := by
  have hs : ∃ a n c, v = .slice a n c ∧ n ≤ c := by
    cases hv with
    | slice size e a n c xss h1 h2 h3 h4 h5 h6 => exact ⟨a, n, c, rfl, h4⟩
  obtain ⟨a, n, c, rfl, hc⟩ := hs
  obtain ⟨bs, g, _⟩ := slice_of_sh (f := u8L) (fun cs h => u8_of_sh h) hv
  have hn : n = bs.length := by
    obtain ⟨a', c', e⟩ := SlR.form g
    injection e with _ e2 _
  exact ⟨⟨a, n, c⟩, bs, rfl, gs_oldT g .here, hn, by rw [← hn]; exact hc⟩
theorem start_ScriptDecodes (w0 : World) (v : Value) (hv : HasSh w0 (.slice 1 (.int .u8)) [v]) (hl : Laid w0) (hx : MxL w0) : Calls Tryd.prog 6 #[v] w0 fun e w' => e = .returned (.bool true) ∧ Below w0.heap.size w0 w' := by
  obtain ⟨h, bs, rfl, hg⟩ := bytes_sh hv
  exact law_oldS (us := [sl h]) (decodes_law h bs [Old w0] hg (Old.mxl hx .here) (Old.laid hl .here))
theorem start_ScriptCounts (w0 : World) (v : Value) (hv : HasSh w0 (.slice 1 (.int .u8)) [v]) (n : Int) (hn : -9223372036854775808 ≤ n ∧ n ≤ 9223372036854775807) (hl : Laid w0) (hx : MxL w0) : Calls Tryd.prog 7 #[v, .int .i64 n] w0 fun e w' => e = .returned (.bool true) ∧ Below w0.heap.size w0 w' := by
  obtain ⟨h, bs, rfl, hg⟩ := bytes_sh hv
  exact law_oldS (us := [sl h, .int .i64 n]) (counts_law h bs [Old w0] hg (Old.mxl hx .here) (Old.laid hl .here) n hn)
theorem start_ScriptLines (w0 : World) (ks : Array Value) (hk : HasSh w0 (.agg [.int .i64, .int .i64, .int .i64, .int .u64]) ks.toList) (hl : Laid w0) (hx : MxL w0) : Calls Tryd.prog 3 #[.agg ks] w0 fun e w' => e = .returned (.bool true) ∧ Below w0.heap.size w0 w' := by
  obtain ⟨o, e, h1, h2, h3, h4⟩ := op_of_sh hk
  obtain rfl := arr_eq e
  exact law_oldS (us := [opV o]) (lines_law [Old w0] (Old.mxl hx .here) (Old.laid hl .here) o h1 ⟨h2, h3, h4⟩)
theorem start_ScriptParses (w0 : World) (s : ByteArray) (hs : s.size ≤ maxLen) (hl : Laid w0) (hx : MxL w0) : Calls Tryd.prog 4 #[.string s] w0 fun e w' => e = .returned (.bool true) ∧ Below w0.heap.size w0 w' := by
  obtain ⟨l, rfl⟩ : ∃ l : List UInt8, s = ⟨l.toArray⟩ := ⟨s.data.toList, by simp⟩
  have hs : l.length ≤ 9223372036854775807 := by simpa [ByteArray.size, maxLen] using hs
  exact law_oldS (us := [str l]) (parses_law [Old w0] (Old.mxl hx .here) (Old.laid hl .here) l hs)
theorem start_ScriptReads (w0 : World) (s : ByteArray) (hs : s.size ≤ maxLen) (t : ByteArray) (ht : t.size ≤ maxLen) (hl : Laid w0) (hx : MxL w0) : Calls Tryd.prog 5 #[.string s, .string t] w0 fun e w' => e = .returned (.bool true) ∧ Below w0.heap.size w0 w' := by
  obtain ⟨l, rfl⟩ : ∃ l : List UInt8, s = ⟨l.toArray⟩ := ⟨s.data.toList, by simp⟩
  obtain ⟨r, rfl⟩ : ∃ l : List UInt8, t = ⟨l.toArray⟩ := ⟨t.data.toList, by simp⟩
  have hs : l.length ≤ 9223372036854775807 := by simpa [ByteArray.size, maxLen] using hs
  have ht : r.length ≤ 9223372036854775807 := by simpa [ByteArray.size, maxLen] using ht
  exact law_oldS (us := [str l, str r]) (reads_law [Old w0] (Old.mxl hx .here) (Old.laid hl .here) l r hs ht)
/-- A contract over every world that has the form that the claim asks for, with more that the world holds. -/
theorem handed_shaped {H : Type} {enc : TypeId × Value → H} {a : Assume} {C : Checked} {os : Os} {f : FuncId} {fn : Func} {s : ChangeSpec} {conds : List PathCond} {apart fresh handsOn again : Bool} {X : World → Array Value → Prop}
    (hX : ∀ (w w' : World) (args : Array Value), w.heap = w'.heap → X w args → X w' args)
    (own : ownKnob C.prog.godebug = none) (started : os.Started) (noInit : C.prog.inits.idxOf? f = none) (hfn : C.prog.funcs[f]? = some fn)
    (witness : ∃ (w : World) (tape : Tape) (i : Input), w.os = os ∧ (w.forCall tape i).Shaped C.prog ∧ i.vars = [] ∧ Input.okWide C.prog (w.forCall tape i) .any w.heap.size f i ∧
      ((s.pre enc C.prog fn conds apart (w.forCall tape i).memory i.args ∧ X (w.forCall tape i).memory i.args) ∧ sizedMet enc C.prog fn (OpenSpec.ofChange s) apart (w.forCall tape i).memory i.args) ∧ a.holds C.prog (lone (Frame.enter C.prog f i.args .normal) [] (w.forCall tape i)))
    (contract : ∀ (W : World) (base : Nat) (args : Array Value) (ds gs : List (DataW H)) (before : List MemPlace),
      (∀ (j : Nat) t v, fn.params[j]? = some t → args[j]? = some v → Value.okWide C.prog W .any base t v) →
      DataW.Whole enc C.prog fn.params.toList s.vars apart W args.toList ds gs before → W.ShapedOpen C.prog → X W args →
      Calls C.prog f args W fun e W' => ∃ v, e = .returned v ∧ s.post enc C.prog fn apart fresh handsOn again W args v W') :
    ReturnsInHanded a C os f .any (fun w args => (s.pre enc C.prog fn conds apart w args ∧ X w args) ∧ sizedMet enc C.prog fn (OpenSpec.ofChange s) apart w args) (s.post enc C.prog fn apart fresh handsOn again) :=
  returnsInHanded_of_calls own started noInit witness fun w tape i _ hsh _ hok hpre _ => by
    obtain ⟨_, _, _, fn', hfn', _, _, _, _, hval⟩ := hok
    obtain rfl : fn' = fn := Option.some.inj (hfn'.symm.trans hfn)
    obtain ⟨⟨⟨ds, gs, before, hw, _⟩, hx⟩, _⟩ := hpre
    refine (contract (w.forCall tape i) w.heap.size i.args ds gs before hval (DataW.Whole.of_heap (w' := w.forCall tape i) (by rfl) hw) hsh (hX _ _ _ (by rfl) hx)).mono fun e W' ⟨v, he, hp⟩ => ?_
    subst he
    exact ChangeSpec.post_blind hp
theorem mxl_of {w : World} (h : w.ShapedOpen Tryd.prog) : MxL w :=
  cell_of_shapedOpen_int (g := 0) (t := 3) (zero := #[.int .i64 0]) h (of_decide_eq_true (by kernel_rfl)) (by kernel_rfl) rfl (by kernel_rfl) (by kernel_rfl) (by kernel_rfl)
end Go.Proofs.YtaggjikjohamjaaDoor
end
