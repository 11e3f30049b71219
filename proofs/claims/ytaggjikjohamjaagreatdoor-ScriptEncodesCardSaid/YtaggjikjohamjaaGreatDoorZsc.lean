import Derived.Test.YtaggjikjohamjaaGreatDoorZsb
set_option linter.unusedVariables false
set_option linter.unusedSimpArgs false
section
namespace Go.Proofs.YtaggjikjohamjaaGreatDoor
open Go.RowKit Go.Maps
set_option linter.unusedVariables false
set_option maxRecDepth 100000
set_option linter.unusedSimpArgs false
set_option maxHeartbeats 8000000
section
variable {o : Oper} {n : Nat} {l : List (Nat × Value)} {L : List Asn} {C : Value → List Asn → Prop}
/-- An entry of a map's literal. -/
theorem ac_insM {t : TypeId} {x y z : Operand} (ho : o.op = .insert t x y z) {b : Nat} (hx : evl l x = some (.map (some b))) {k v : Value} (hy : evl l y = some k) (hz : evl l z = some v) {K E : TypeId} (ht : MT t K E) {q : Lit} (hk : keyOf Tryz.prog K k = some q) {P : List (Value × Value)} {L2 : List Asn} (hp : Rep L (mp b K P) (mp b K ((k, v) :: P)) L2) (hno : ∀ p ∈ P, p.1 ≠ k) (h : C undef L2) : AC o l L n C := fun G a w F M => by
  obtain ⟨L', h1, h2⟩ := hp.both
  obtain ⟨w', e, hm, ht'⟩ := run_mapUpdate_new (v := v) ht.k ht.h hk (gives_mp (h1.app G) w M) hno
  have : (execOp a.eval o).run Tryz.prog w = .ok .skip w' := by
    unfold execOp
    rw [ho]
    simp [F.eval hx, F.eval hy, F.eval hz, e]
  rw [this]
  refine ⟨L2, h, M.rep (hp.app G) fun s hs => ?_⟩
  obtain ⟨rfl, _⟩ := hs.now
  exact ⟨ht'.chg, [b], ok_mp (hm.perm (List.Perm.refl _)), fun x hx => .inl hx⟩
theorem sh_run {a : Act} (F : Fr a n l) {w : World} {b : BinOp} {t ty : TypeId} {x y : Operand} (ho : o.op = .binOp b t x y ty) {k k' : IntKind} {m p : Int} (hx : evl l x = some (.int k m)) (hy : evl l y = some (.int k' p)) {r : Value}
    (h : (binOp b t (.int k m) (.int k' p)).run Tryz.prog w = .ok r w) : (execOp a.eval o).run Tryz.prog w = .ok (.value r) w := by
  unfold execOp
  rw [ho]
  have h1 : (eqGuard b t x y (.int k m) (.int k' p)).run Tryz.prog w = .ok () w := by unfold eqGuard; cases b <;> simp [Sem.run_pure]
  simp only [F.eval hx, F.eval hy, Sem.run_bind, h1, Result.andThen_ok, h]
  rfl
/-- x >> s -/
theorem rt_shr {t ty : TypeId} {x y : Operand} (ho : o.op = .binOp .shr t x y ty) {k : IntKind} {m s : Nat} (hx : evl l x = some (.int .u64 (m : Int))) (hy : evl l y = some (.int k (s : Int))) (hs : s ≤ 64) : RT o l L n (.int .u64 ((m / 2 ^ s : Nat) : Int)) := fun a w F M => by
  refine sh_run F ho hx hy ?_
  have e1 : min (Int.toNat (s : Int)) IntKind.u64.bits = s := by simp [IntKind.bits]; omega
  have e2 : (m : Int).fdiv (2 ^ s) = ((m / 2 ^ s : Nat) : Int) := by
    rw [Int.fdiv_eq_ediv_of_nonneg _ (by exact Int.pow_nonneg (by decide))]; simp
  simp [binOp, Op.shift, e1, e2]
/-- x << s -/
theorem rt_shl {t ty : TypeId} {x y : Operand} (ho : o.op = .binOp .shl t x y ty) {k : IntKind} {m s : Nat} (hx : evl l x = some (.int .u64 (m : Int))) (hy : evl l y = some (.int k (s : Int))) (hs : s ≤ 64) (hm : m * 2 ^ s < 18446744073709551616) : RT o l L n (.int .u64 ((m * 2 ^ s : Nat) : Int)) := fun a w F M => by
  refine sh_run F ho hx hy ?_
  have e1 : min (Int.toNat (s : Int)) IntKind.u64.bits = s := by simp [IntKind.bits]; omega
  have e2 : IntKind.u64.wrap ((m : Int) * 2 ^ s) = ((m * 2 ^ s : Nat) : Int) := by
    rw [IntKind.wrap_u64]
    have : (m : Int) * 2 ^ s = ((m * 2 ^ s : Nat) : Int) := by simp
    rw [this]; omega
  simp [binOp, Op.shift, e1, e2]
/-- x | y, where the bits are apart -/
theorem rt_or8 {t ty : TypeId} {x y : Operand} (ho : o.op = .binOp .or t x y ty) {m p : Nat} (hx : evl l x = some (.int .u64 ((m * 256 : Nat) : Int))) (hy : evl l y = some (.int .u64 (p : Int))) (hp : p < 256) (hm : m * 256 < 18446744073709551616) : RT o l L n (.int .u64 ((256 * m + p : Nat) : Int)) :=
  rt_bin ho hx hy fun w => by
    have : bits .or .u64 ((m * 256 : Nat) : Int) (p : Int) = ((256 * m + p : Nat) : Int) := by
      rw [bits_or_u64_nat _ _ hm (by omega), DM.or_add (a := m) (b := p) (s := 8) hp]
      simp only [Nat.reducePow]; congr 1; omega
    exact Eq.trans (b := .ok (.int .u64 (bits .or .u64 ((m * 256 : Nat) : Int) (p : Int))) w) rfl (by rw [this])
end
abbrev fnO (k : FuncId) : Value := .func (.func k) #[] #[]
def Od.gf : Od → FuncId
  | .i => 73
  | .t => 75
  | .a => 71
def Od.sf : Od → FuncId
  | .i => 74
  | .t => 76
  | .a => 72
def odL (d : Od) : List Value := [.int .i64 d.size, fnO d.gf, fnO d.sf]
abbrev odV (d : Od) : Value := .agg (odL d).toArray
instance : EL odL 3 := ⟨fun _ => rfl, fun x u h => by simp [odL] at h; rcases h with rfl | rfl | rfl <;> rfl⟩
abbrev opV (o : Opn) : Value := .agg (opL o).toArray
theorem index_spec (R : List Asn) : Spec 56 [] R fun u L' => u = odV .i ∧ L' = R := by
  (intro G w M; refine sx_enter (vs := ([] : List Value)) Tryz.func56 (n := 2) rfl rfl rfl rfl ?_; intro a F; (try simp only [List.cons_append, List.nil_append] at M))
  (repeat' (first | (refine sx_nil ?_; (try (replace F := F.filt [0] rfl))) | (refine sv1 F M (h := ?_); clear F a; intro a F) | refine pv1 (h := ?_) | (refine sv3 F M (h := ?_); clear M; intro w M) | (refine sv2 F M (h := ?_); clear F M a; intro nb a w F M) | refine pv3 (h := ?_) | (refine pv2 (h := ?_); intro nb) | ((first | refine svC F M (h := ?_) | refine svC0 F M (h := ?_) | refine pvC (h := ?_) | refine pvC0 (h := ?_)); (fail); (first | refine ⟨rvsA, ?_⟩ | (clear F M a; intro a w F M) | (clear M; intro w M))) | (refine svK F (h := ?_); clear F a; intro a F) | refine svK0 F (h := ?_) | ((refine sx_guardb F rfl (fun hg => ?_) (fun hg => ?_)) <;> (rw [hg] at F; (try (exact no hg)))) | (refine pvF (h := ?_); intro nb) | refine pvK (h := ?_) | refine pvK0 (h := ?_) | (refine pv_nil ?_; intro a w F M; (try (replace F := F.filt [0] rfl))) | ((fail_if_success (with_reducible first | refine isW ?_ | refine isP ?_ | refine isL ?_)); (first | with_reducible refine sx_region ?_ | ((with_reducible refine isK ?_); (first | refine svT F (h := ?_) | refine svF F (h := ?_) | ((refine svB F (fun hc => ?_) (fun hc => ?_)) <;> (try (exact no hc))))) | ((with_reducible refine isD ?_); fail) | with_reducible refine wp_scope_straight ?_ | with_reducible refine wp_label ?_ | go_step))))
  (all_goals ((first | refine svEnd F M ?_ | refine svRet F M ?_); exact ⟨_, _, rfl, ⟨rfl, rfl⟩, M.perms permsA⟩))
theorem target_spec (R : List Asn) : Spec 57 [] R fun u L' => u = odV .t ∧ L' = R := by
  (intro G w M; refine sx_enter (vs := ([] : List Value)) Tryz.func57 (n := 2) rfl rfl rfl rfl ?_; intro a F; (try simp only [List.cons_append, List.nil_append] at M))
  (repeat' (first | (refine sx_nil ?_; (try (replace F := F.filt [0] rfl))) | (refine sv1 F M (h := ?_); clear F a; intro a F) | refine pv1 (h := ?_) | (refine sv3 F M (h := ?_); clear M; intro w M) | (refine sv2 F M (h := ?_); clear F M a; intro nb a w F M) | refine pv3 (h := ?_) | (refine pv2 (h := ?_); intro nb) | ((first | refine svC F M (h := ?_) | refine svC0 F M (h := ?_) | refine pvC (h := ?_) | refine pvC0 (h := ?_)); (fail); (first | refine ⟨rvsA, ?_⟩ | (clear F M a; intro a w F M) | (clear M; intro w M))) | (refine svK F (h := ?_); clear F a; intro a F) | refine svK0 F (h := ?_) | ((refine sx_guardb F rfl (fun hg => ?_) (fun hg => ?_)) <;> (rw [hg] at F; (try (exact no hg)))) | (refine pvF (h := ?_); intro nb) | refine pvK (h := ?_) | refine pvK0 (h := ?_) | (refine pv_nil ?_; intro a w F M; (try (replace F := F.filt [0] rfl))) | ((fail_if_success (with_reducible first | refine isW ?_ | refine isP ?_ | refine isL ?_)); (first | with_reducible refine sx_region ?_ | ((with_reducible refine isK ?_); (first | refine svT F (h := ?_) | refine svF F (h := ?_) | ((refine svB F (fun hc => ?_) (fun hc => ?_)) <;> (try (exact no hc))))) | ((with_reducible refine isD ?_); fail) | with_reducible refine wp_scope_straight ?_ | with_reducible refine wp_label ?_ | go_step))))
  (all_goals ((first | refine svEnd F M ?_ | refine svRet F M ?_); exact ⟨_, _, rfl, ⟨rfl, rfl⟩, M.perms permsA⟩))
theorem amount_spec (R : List Asn) : Spec 55 [] R fun u L' => u = odV .a ∧ L' = R := by
  (intro G w M; refine sx_enter (vs := ([] : List Value)) Tryz.func55 (n := 2) rfl rfl rfl rfl ?_; intro a F; (try simp only [List.cons_append, List.nil_append] at M))
  (repeat' (first | (refine sx_nil ?_; (try (replace F := F.filt [0] rfl))) | (refine sv1 F M (h := ?_); clear F a; intro a F) | refine pv1 (h := ?_) | (refine sv3 F M (h := ?_); clear M; intro w M) | (refine sv2 F M (h := ?_); clear F M a; intro nb a w F M) | refine pv3 (h := ?_) | (refine pv2 (h := ?_); intro nb) | ((first | refine svC F M (h := ?_) | refine svC0 F M (h := ?_) | refine pvC (h := ?_) | refine pvC0 (h := ?_)); (fail); (first | refine ⟨rvsA, ?_⟩ | (clear F M a; intro a w F M) | (clear M; intro w M))) | (refine svK F (h := ?_); clear F a; intro a F) | refine svK0 F (h := ?_) | ((refine sx_guardb F rfl (fun hg => ?_) (fun hg => ?_)) <;> (rw [hg] at F; (try (exact no hg)))) | (refine pvF (h := ?_); intro nb) | refine pvK (h := ?_) | refine pvK0 (h := ?_) | (refine pv_nil ?_; intro a w F M; (try (replace F := F.filt [0] rfl))) | ((fail_if_success (with_reducible first | refine isW ?_ | refine isP ?_ | refine isL ?_)); (first | with_reducible refine sx_region ?_ | ((with_reducible refine isK ?_); (first | refine svT F (h := ?_) | refine svF F (h := ?_) | ((refine svB F (fun hc => ?_) (fun hc => ?_)) <;> (try (exact no hc))))) | ((with_reducible refine isD ?_); fail) | with_reducible refine wp_scope_straight ?_ | with_reducible refine wp_label ?_ | go_step))))
  (all_goals ((first | refine svEnd F M ?_ | refine svRet F M ?_); exact ⟨_, _, rfl, ⟨rfl, rfl⟩, M.perms permsA⟩))
theorem scKey {i : Int} (h : I64 i) : keyOf Tryz.prog 3 (.int .i64 i) = some (.int .i64 i) := keyOf_int_mk (q := .i64) (by kernel_rfl) (by
  have := h.1; have := h.2; simp [Lit.wf, IntKind.min, IntKind.max, IntKind.signed, IntKind.bits]; omega)
instance scMT : MT 104 3 82 := ⟨by kernel_rfl, int_keyed (q := .i64) (by kernel_rfl)⟩
instance scZV : ZV 82 (.slice none 0 0) := ⟨by kernel_rfl⟩
theorem operands_spec (k : Int) (hk : I64 k) (R : List Asn) : Spec 42 [.int .i64 k] R fun u L' => ∃ h, u = .tuple [sl h, .bool (odsOf k).isSome].toArray ∧ L' = ownT 88 odL 3 (sl h) ((odsOf k).getD []) :: R := by
  (intro G w M; refine sx_enter (vs := ([.int .i64 k] : List Value)) Tryz.func42 (n := 30) rfl rfl rfl rfl ?_; intro a F; (try simp only [List.cons_append, List.nil_append] at M))
  have M := M.own_nil 88 3
  (repeat' (first | (refine sx_nil ?_; (try (replace F := F.filt [0, 2, 3, 4, 5] rfl))) | (refine sv1 F M (h := ?_); clear F a; intro a F) | refine pv1 (h := ?_) | (refine sv3 F M (h := ?_); clear M; intro w M) | (refine sv2 F M (h := ?_); clear F M a; intro nb a w F M) | refine pv3 (h := ?_) | (refine pv2 (h := ?_); intro nb) | ((first | refine svC F M (h := ?_) | refine svC0 F M (h := ?_) | refine pvC (h := ?_) | refine pvC0 (h := ?_)); ((first | (apply ac_makeMap; (exact rfl); (exact inferInstance); intro nm) | (refine ac_insM rfl rfl rfl rfl inferInstance (scKey (by constructor <;> decide)) (by (focus ((repeat (first | exact Rep.here | apply Rep.there)); done))) (by simp) ?_) | ((refine acW (k := 56) (index_spec _) ?_); rintro u L' ⟨rfl, rfl⟩) | ((refine acW (k := 57) (target_spec _) ?_); rintro u L' ⟨rfl, rfl⟩) | ((refine acW (k := 55) (amount_spec _) ?_); rintro u L' ⟨rfl, rfl⟩))); (first | refine ⟨rvsA, ?_⟩ | (clear F M a; intro a w F M) | (clear M; intro w M))) | (refine svK F (h := ?_); clear F a; intro a F) | refine svK0 F (h := ?_) | ((refine sx_guardb F rfl (fun hg => ?_) (fun hg => ?_)) <;> (rw [hg] at F; (try (exact no hg)))) | (refine pvF (h := ?_); intro nb) | refine pvK (h := ?_) | refine pvK0 (h := ?_) | (refine pv_nil ?_; intro a w F M; (try (replace F := F.filt [0, 2, 3, 4, 5] rfl))) | ((fail_if_success (with_reducible first | refine isW ?_ | refine isP ?_ | refine isL ?_)); (first | with_reducible refine sx_region ?_ | ((with_reducible refine isK ?_); (first | refine svT F (h := ?_) | refine svF F (h := ?_) | ((refine svB F (fun hc => ?_) (fun hc => ?_)) <;> (try (exact no hc))))) | ((with_reducible refine isD ?_); fail) | with_reducible refine wp_scope_straight ?_ | with_reducible refine wp_label ?_ | go_step))))
  by_cases hk7 : k = 1 ∨ k = 2 ∨ k = 3 ∨ k = 4 ∨ k = 5 ∨ k = 6 ∨ k = 7
  · rcases hk7 with rfl | rfl | rfl | rfl | rfl | rfl | rfl
    all_goals (repeat' (first | ((first | refine sv1 F M (h := ?_) (hr := by ((apply rt_hit2; (exact rfl); (exact rfl); (exact rfl); (exact inferInstance); (exact gives_mp pullA); (exact scKey (by constructor <;> decide)); ((repeat (first | exact List.Mem.head _ | apply List.Mem.tail)); done)))) | refine pv1 (h := ?_) (hr := by ((apply rt_hit2; (exact rfl); (exact rfl); (exact rfl); (exact inferInstance); (exact gives_mp pullA); (exact scKey (by constructor <;> decide)); ((repeat (first | exact List.Mem.head _ | apply List.Mem.tail)); done))))); (try (clear F a; intro a F))) | (refine sx_nil ?_; (try (replace F := F.filt [0, 2, 3, 4, 5] rfl))) | (refine sv1 F M (h := ?_); clear F a; intro a F) | refine pv1 (h := ?_) | (refine sv3 F M (h := ?_); clear M; intro w M) | (refine sv2 F M (h := ?_); clear F M a; intro nb a w F M) | refine pv3 (h := ?_) | (refine pv2 (h := ?_); intro nb) | ((first | refine svC F M (h := ?_) | refine svC0 F M (h := ?_) | refine pvC (h := ?_) | refine pvC0 (h := ?_)); ((first | (apply ac_makeMap; (exact rfl); (exact inferInstance); intro nm) | (refine ac_insM rfl rfl rfl rfl inferInstance (scKey (by constructor <;> decide)) (by (focus ((repeat (first | exact Rep.here | apply Rep.there)); done))) (by simp) ?_) | ((refine acW (k := 56) (index_spec _) ?_); rintro u L' ⟨rfl, rfl⟩) | ((refine acW (k := 57) (target_spec _) ?_); rintro u L' ⟨rfl, rfl⟩) | ((refine acW (k := 55) (amount_spec _) ?_); rintro u L' ⟨rfl, rfl⟩))); (first | refine ⟨rvsA, ?_⟩ | (clear F M a; intro a w F M) | (clear M; intro w M))) | (refine svK F (h := ?_); clear F a; intro a F) | refine svK0 F (h := ?_) | ((refine sx_guardb F rfl (fun hg => ?_) (fun hg => ?_)) <;> (rw [hg] at F; (try (exact no hg)))) | (refine pvF (h := ?_); intro nb) | refine pvK (h := ?_) | refine pvK0 (h := ?_) | (refine pv_nil ?_; intro a w F M; (try (replace F := F.filt [0, 2, 3, 4, 5] rfl))) | ((fail_if_success (with_reducible first | refine isW ?_ | refine isP ?_ | refine isL ?_)); (first | with_reducible refine sx_region ?_ | ((with_reducible refine isK ?_); (first | refine svT F (h := ?_) | refine svF F (h := ?_) | ((refine svB F (fun hc => ?_) (fun hc => ?_)) <;> (try (exact no hc))))) | ((with_reducible refine isD ?_); fail) | with_reducible refine wp_scope_straight ?_ | with_reducible refine wp_label ?_ | go_step))))
    all_goals (first | refine svEnd F M ?_ | refine svRet F M ?_)
    all_goals exact ⟨_, _, rfl, ⟨⟨_, _, _⟩, rfl, rfl⟩, M.perms permsA⟩
  · have e : odsOf k = none := by
      unfold odsOf
      repeat rw [if_neg (by omega)]
    (repeat' (first | ((first | refine sv1 F M (h := ?_) (hr := by ((apply rt_miss2; (exact rfl); (exact rfl); (exact rfl); (exact inferInstance); (exact gives_mp pullA); (exact scKey hk); (intro p hp he; simp only [List.mem_cons, List.not_mem_nil, or_false] at hp; (rcases hp with rfl | rfl | rfl | rfl | rfl | rfl | rfl) <;> (injection he with _ he; omega)); (exact inferInstance)))) | refine pv1 (h := ?_) (hr := by ((apply rt_miss2; (exact rfl); (exact rfl); (exact rfl); (exact inferInstance); (exact gives_mp pullA); (exact scKey hk); (intro p hp he; simp only [List.mem_cons, List.not_mem_nil, or_false] at hp; (rcases hp with rfl | rfl | rfl | rfl | rfl | rfl | rfl) <;> (injection he with _ he; omega)); (exact inferInstance))))); (try (clear F a; intro a F))) | (refine sx_nil ?_; (try (replace F := F.filt [0, 2, 3, 4, 5] rfl))) | (refine sv1 F M (h := ?_); clear F a; intro a F) | refine pv1 (h := ?_) | (refine sv3 F M (h := ?_); clear M; intro w M) | (refine sv2 F M (h := ?_); clear F M a; intro nb a w F M) | refine pv3 (h := ?_) | (refine pv2 (h := ?_); intro nb) | ((first | refine svC F M (h := ?_) | refine svC0 F M (h := ?_) | refine pvC (h := ?_) | refine pvC0 (h := ?_)); ((first | (apply ac_makeMap; (exact rfl); (exact inferInstance); intro nm) | (refine ac_insM rfl rfl rfl rfl inferInstance (scKey (by constructor <;> decide)) (by (focus ((repeat (first | exact Rep.here | apply Rep.there)); done))) (by simp) ?_) | ((refine acW (k := 56) (index_spec _) ?_); rintro u L' ⟨rfl, rfl⟩) | ((refine acW (k := 57) (target_spec _) ?_); rintro u L' ⟨rfl, rfl⟩) | ((refine acW (k := 55) (amount_spec _) ?_); rintro u L' ⟨rfl, rfl⟩))); (first | refine ⟨rvsA, ?_⟩ | (clear F M a; intro a w F M) | (clear M; intro w M))) | (refine svK F (h := ?_); clear F a; intro a F) | refine svK0 F (h := ?_) | ((refine sx_guardb F rfl (fun hg => ?_) (fun hg => ?_)) <;> (rw [hg] at F; (try (exact no hg)))) | (refine pvF (h := ?_); intro nb) | refine pvK (h := ?_) | refine pvK0 (h := ?_) | (refine pv_nil ?_; intro a w F M; (try (replace F := F.filt [0, 2, 3, 4, 5] rfl))) | ((fail_if_success (with_reducible first | refine isW ?_ | refine isP ?_ | refine isL ?_)); (first | with_reducible refine sx_region ?_ | ((with_reducible refine isK ?_); (first | refine svT F (h := ?_) | refine svF F (h := ?_) | ((refine svB F (fun hc => ?_) (fun hc => ?_)) <;> (try (exact no hc))))) | ((with_reducible refine isD ?_); fail) | with_reducible refine wp_scope_straight ?_ | with_reducible refine wp_label ?_ | go_step))))
    all_goals (first | refine svEnd F M ?_ | refine svRet F M ?_)
    all_goals (rw [e]; exact ⟨_, _, rfl, ⟨nilH, rfl, rfl⟩, M.perms permsA⟩)
theorem szL_take {ds : List Od} {j : Nat} {d : Od} (h : ds[j]? = some d) : szL (ds.take (j + 1)) = szL (ds.take j) + d.size := by
  induction ds generalizing j with
  | nil => simp at h
  | cons e ds ih =>
    cases j with
    | zero => simp at h; subst h; simp [szL]
    | succ j => simp at h; rw [List.take_succ_cons, List.take_succ_cons, szL, szL, ih h]; omega
theorem ods_len {k : Int} {ds : List Od} (h : odsOf k = some ds) : ds.length ≤ 2 ∧ szL ds ≤ 10 := by
  rcases ods_cases h with ⟨_, rfl⟩ | ⟨_, rfl⟩ | ⟨_, rfl⟩ | ⟨_, rfl⟩ | ⟨_, rfl⟩ | ⟨_, rfl⟩ | ⟨_, rfl⟩ <;> decide
theorem od_size (d : Od) : d.size ≤ 8 ∧ 2 ≤ d.size := by cases d <;> decide
theorem size_spec (k : Int) (hk : I64 k) (R : List Asn) : Spec 43 [.int .i64 k] R fun u L' => u = .int .i64 (szK k) ∧ L' = R := by
  have hop := fun R => operands_spec k hk R
  cases hd : odsOf k with
  | none =>
    rw [hd] at hop
    simp only [Option.isSome_none, Option.getD_none] at hop
    have e : szK k = 0 := by rw [szK, hd]
    (intro G w M; refine sx_enter (vs := ([.int .i64 k] : List Value)) Tryz.func43 (n := 27) rfl rfl rfl rfl ?_; intro a F; (try simp only [List.cons_append, List.nil_append] at M))
    (repeat' (first | (refine sx_nil ?_; (try (replace F := F.filt [0, 2, 3, 4, 5, 7, 14, 15, 16, 17, 18] rfl))) | (refine sv1 F M (h := ?_); clear F a; intro a F) | refine pv1 (h := ?_) | (refine sv3 F M (h := ?_); clear M; intro w M) | (refine sv2 F M (h := ?_); clear F M a; intro nb a w F M) | refine pv3 (h := ?_) | (refine pv2 (h := ?_); intro nb) | ((first | refine svC F M (h := ?_) | refine svC0 F M (h := ?_) | refine pvC (h := ?_) | refine pvC0 (h := ?_)); (((refine acW (k := 42) (hop _) ?_); rintro u L' ⟨h, rfl, rfl⟩)); (first | refine ⟨rvsA, ?_⟩ | (clear F M a; intro a w F M) | (clear M; intro w M))) | (refine svK F (h := ?_); clear F a; intro a F) | refine svK0 F (h := ?_) | ((refine sx_guardb F rfl (fun hg => ?_) (fun hg => ?_)) <;> (rw [hg] at F; (try (exact no hg)))) | (refine pvF (h := ?_); intro nb) | refine pvK (h := ?_) | refine pvK0 (h := ?_) | (refine pv_nil ?_; intro a w F M; (try (replace F := F.filt [0, 2, 3, 4, 5, 7, 14, 15, 16, 17, 18] rfl))) | ((fail_if_success (with_reducible first | refine isW ?_ | refine isP ?_ | refine isL ?_)); (first | with_reducible refine sx_region ?_ | ((with_reducible refine isK ?_); (first | refine svT F (h := ?_) | refine svF F (h := ?_) | ((refine svB F (fun hc => ?_) (fun hc => ?_)) <;> (try (exact no hc))))) | ((with_reducible refine isD ?_); fail) | with_reducible refine wp_scope_straight ?_ | with_reducible refine wp_label ?_ | go_step))))
    all_goals (first | refine svEnd F M ?_ | refine svRet F M ?_)
    all_goals exact ⟨_, _, rfl, ⟨by rw [e]; rfl, rfl⟩, M.perms permsA⟩
  | some ds =>
    rw [hd] at hop
    simp only [Option.isSome_some, Option.getD_some] at hop
    obtain ⟨hl, hz⟩ := ods_len hd
    have e : szK k = 1 + szL ds := by rw [szK, hd]
    (intro G w M; refine sx_enter (vs := ([.int .i64 k] : List Value)) Tryz.func43 (n := 27) rfl rfl rfl rfl ?_; intro a F; (try simp only [List.cons_append, List.nil_append] at M))
    (repeat' (first | (refine sx_nil ?_; (try (replace F := F.filt [0, 2, 3, 4, 5, 7, 14, 15, 16, 17, 18] rfl))) | (refine sv1 F M (h := ?_); clear F a; intro a F) | refine pv1 (h := ?_) | (refine sv3 F M (h := ?_); clear M; intro w M) | (refine sv2 F M (h := ?_); clear F M a; intro nb a w F M) | refine pv3 (h := ?_) | (refine pv2 (h := ?_); intro nb) | ((first | refine svC F M (h := ?_) | refine svC0 F M (h := ?_) | refine pvC (h := ?_) | refine pvC0 (h := ?_)); (((refine acW (k := 42) (hop _) ?_); rintro u L' ⟨h, rfl, rfl⟩)); (first | refine ⟨rvsA, ?_⟩ | (clear F M a; intro a w F M) | (clear M; intro w M))) | (refine svK F (h := ?_); clear F a; intro a F) | refine svK0 F (h := ?_) | ((refine sx_guardb F rfl (fun hg => ?_) (fun hg => ?_)) <;> (rw [hg] at F; (try (exact no hg)))) | (refine pvF (h := ?_); intro nb) | refine pvK (h := ?_) | refine pvK0 (h := ?_) | (refine pv_nil ?_; intro a w F M; (try (replace F := F.filt [0, 2, 3, 4, 5, 7, 14, 15, 16, 17, 18] rfl))) | ((fail_if_success (with_reducible first | refine isW ?_ | refine isP ?_ | refine isL ?_)); (first | with_reducible refine sx_region ?_ | ((with_reducible refine isK ?_); (first | refine svT F (h := ?_) | refine svF F (h := ?_) | ((refine svB F (fun hc => ?_) (fun hc => ?_)) <;> (try (exact no hc))))) | ((with_reducible refine isD ?_); fail) | with_reducible refine wp_scope_straight ?_ | with_reducible refine wp_label ?_ | go_step))))
    refine svLoop F M (0 : Nat) (fun j => [(17, .int .i64 j), (5, .int .i64 ((1 + szL (ds.take j) : Nat) : Int))]) (fun _ => []) (fun j => j ≤ ds.length) (fun j => ds.length - j) [7] (Nat.zero_le _) ?_
    (rintro j q1 a w F M; (try simp only [List.cons_append, List.nil_append] at F M q1 ⊢))
    by_cases hj : j < ds.length
    · obtain ⟨d, hdj⟩ : ∃ d, ds[j]? = some d := ⟨ds[j], by simp [hj]⟩
      have hs := szL_take hdj
      have hds := od_size d
      have hb : szL (ds.take j) ≤ 100 := by
        have : ∀ l : List Od, szL l ≤ 8 * l.length := fun l => by
          induction l with
          | nil => decide
          | cons d l ih => have := od_size d; rw [szL, List.length_cons]; omega
        have := this (ds.take j)
        rw [List.length_take] at this; omega
      have e2 : ((1 + szL (ds.take j) : Nat) : Int) + (d.size : Int) = ((1 + szL (ds.take (j + 1)) : Nat) : Int) := by omega
      (repeat' (first | (refine sx_nil ?_; (try (replace F := F.filt [0, 2, 3, 4, 5, 7, 14, 15, 16, 17, 18] rfl))) | (refine sv1 F M (h := ?_); clear F a; intro a F) | refine pv1 (h := ?_) | (refine sv3 F M (h := ?_); clear M; intro w M) | (refine sv2 F M (h := ?_); clear F M a; intro nb a w F M) | refine pv3 (h := ?_) | (refine pv2 (h := ?_); intro nb) | ((first | refine svC F M (h := ?_) | refine svC0 F M (h := ?_) | refine pvC (h := ?_) | refine pvC0 (h := ?_)); (((refine acW (k := 42) (hop _) ?_); rintro u L' ⟨h, rfl, rfl⟩)); (first | refine ⟨rvsA, ?_⟩ | (clear F M a; intro a w F M) | (clear M; intro w M))) | (refine svK F (h := ?_); clear F a; intro a F) | refine svK0 F (h := ?_) | ((refine sx_guardb F rfl (fun hg => ?_) (fun hg => ?_)) <;> (rw [hg] at F; (try (exact no hg)))) | (refine pvF (h := ?_); intro nb) | refine pvK (h := ?_) | refine pvK0 (h := ?_) | (refine pv_nil ?_; intro a w F M; (try (replace F := F.filt [0, 2, 3, 4, 5, 7, 14, 15, 16, 17, 18] rfl))) | ((fail_if_success (with_reducible first | refine isW ?_ | refine isP ?_ | refine isL ?_)); (first | with_reducible refine sx_region ?_ | ((with_reducible refine isK ?_); (first | refine svT F (h := ?_) | refine svF F (h := ?_) | ((refine svB F (fun hc => ?_) (fun hc => ?_)) <;> (try (exact no hc))))) | ((with_reducible refine isD ?_); fail) | with_reducible refine wp_scope_straight ?_ | with_reducible refine wp_label ?_ | go_step))))
      rw [e2] at F
      exact sv_again F M (j + 1) kpA permsA (by omega) (by omega)
    · obtain rfl : j = ds.length := by omega
      (repeat' (first | (refine sx_nil ?_; (try (replace F := F.filt [0, 2, 3, 4, 5, 7, 14, 15, 16, 17, 18] rfl))) | (refine sv1 F M (h := ?_); clear F a; intro a F) | refine pv1 (h := ?_) | (refine sv3 F M (h := ?_); clear M; intro w M) | (refine sv2 F M (h := ?_); clear F M a; intro nb a w F M) | refine pv3 (h := ?_) | (refine pv2 (h := ?_); intro nb) | ((first | refine svC F M (h := ?_) | refine svC0 F M (h := ?_) | refine pvC (h := ?_) | refine pvC0 (h := ?_)); (((refine acW (k := 42) (hop _) ?_); rintro u L' ⟨h, rfl, rfl⟩)); (first | refine ⟨rvsA, ?_⟩ | (clear F M a; intro a w F M) | (clear M; intro w M))) | (refine svK F (h := ?_); clear F a; intro a F) | refine svK0 F (h := ?_) | ((refine sx_guardb F rfl (fun hg => ?_) (fun hg => ?_)) <;> (rw [hg] at F; (try (exact no hg)))) | (refine pvF (h := ?_); intro nb) | refine pvK (h := ?_) | refine pvK0 (h := ?_) | (refine pv_nil ?_; intro a w F M; (try (replace F := F.filt [0, 2, 3, 4, 5, 7, 14, 15, 16, 17, 18] rfl))) | ((fail_if_success (with_reducible first | refine isW ?_ | refine isP ?_ | refine isL ?_)); (first | with_reducible refine sx_region ?_ | ((with_reducible refine isK ?_); (first | refine svT F (h := ?_) | refine svF F (h := ?_) | ((refine svB F (fun hc => ?_) (fun hc => ?_)) <;> (try (exact no hc))))) | ((with_reducible refine isD ?_); fail) | with_reducible refine wp_scope_straight ?_ | with_reducible refine wp_label ?_ | go_step))))
      all_goals (first | refine svEnd F M ?_ | refine svRet F M ?_)
      all_goals exact ⟨_, _, rfl, ⟨by rw [e, List.take_length]; rfl, rfl⟩, M.perms permsA⟩
/-! ### get and set -/
theorem u64of_wrap (x : Int) : IntKind.u64.wrap x = (u64of x : Int) := by rw [IntKind.wrap_u64]; unfold u64of; omega
theorem get_spec (d : Od) (o : Opn) (ho : U64 o.am) (R : List Asn) : Spec d.gf [opV o] R fun u L' => u = .int .u64 (u64of (d.get o) : Int) ∧ L' = R := by
  have e : ((u64of o.am : Nat) : Int) = o.am := by unfold u64of; have := ho.1; have := ho.2; omega
  have e2 := u64of_wrap o.ix
  have e3 := u64of_wrap o.tg
  obtain ⟨k, ix, tg, am⟩ := o
  simp only at e e2 e3
  cases d
  · (intro G w M; refine sx_enter (vs := ([opV ⟨k, ix, tg, am⟩] : List Value)) Tryz.func73 (n := 6) rfl rfl rfl rfl ?_; intro a F; (try simp only [List.cons_append, List.nil_append] at M))
    (repeat' (first | (refine sx_nil ?_; (try (replace F := F.filt [0, 1, 2] rfl))) | (refine sv1 F M (h := ?_); clear F a; intro a F) | refine pv1 (h := ?_) | (refine sv3 F M (h := ?_); clear M; intro w M) | (refine sv2 F M (h := ?_); clear F M a; intro nb a w F M) | refine pv3 (h := ?_) | (refine pv2 (h := ?_); intro nb) | ((first | refine svC F M (h := ?_) | refine svC0 F M (h := ?_) | refine pvC (h := ?_) | refine pvC0 (h := ?_)); (fail); (first | refine ⟨rvsA, ?_⟩ | (clear F M a; intro a w F M) | (clear M; intro w M))) | (refine svK F (h := ?_); clear F a; intro a F) | refine svK0 F (h := ?_) | ((refine sx_guardb F rfl (fun hg => ?_) (fun hg => ?_)) <;> (rw [hg] at F; (try (exact no hg)))) | (refine pvF (h := ?_); intro nb) | refine pvK (h := ?_) | refine pvK0 (h := ?_) | (refine pv_nil ?_; intro a w F M; (try (replace F := F.filt [0, 1, 2] rfl))) | ((fail_if_success (with_reducible first | refine isW ?_ | refine isP ?_ | refine isL ?_)); (first | with_reducible refine sx_region ?_ | ((with_reducible refine isK ?_); (first | refine svT F (h := ?_) | refine svF F (h := ?_) | ((refine svB F (fun hc => ?_) (fun hc => ?_)) <;> (try (exact no hc))))) | ((with_reducible refine isD ?_); fail) | with_reducible refine wp_scope_straight ?_ | with_reducible refine wp_label ?_ | go_step))))
    all_goals (first | refine svEnd F M ?_ | refine svRet F M ?_)
    all_goals exact ⟨_, _, rfl, ⟨by simp only [tupOf, e2, Od.get], rfl⟩, M.perms permsA⟩
  · (intro G w M; refine sx_enter (vs := ([opV ⟨k, ix, tg, am⟩] : List Value)) Tryz.func75 (n := 6) rfl rfl rfl rfl ?_; intro a F; (try simp only [List.cons_append, List.nil_append] at M))
    (repeat' (first | (refine sx_nil ?_; (try (replace F := F.filt [0, 1, 2] rfl))) | (refine sv1 F M (h := ?_); clear F a; intro a F) | refine pv1 (h := ?_) | (refine sv3 F M (h := ?_); clear M; intro w M) | (refine sv2 F M (h := ?_); clear F M a; intro nb a w F M) | refine pv3 (h := ?_) | (refine pv2 (h := ?_); intro nb) | ((first | refine svC F M (h := ?_) | refine svC0 F M (h := ?_) | refine pvC (h := ?_) | refine pvC0 (h := ?_)); (fail); (first | refine ⟨rvsA, ?_⟩ | (clear F M a; intro a w F M) | (clear M; intro w M))) | (refine svK F (h := ?_); clear F a; intro a F) | refine svK0 F (h := ?_) | ((refine sx_guardb F rfl (fun hg => ?_) (fun hg => ?_)) <;> (rw [hg] at F; (try (exact no hg)))) | (refine pvF (h := ?_); intro nb) | refine pvK (h := ?_) | refine pvK0 (h := ?_) | (refine pv_nil ?_; intro a w F M; (try (replace F := F.filt [0, 1, 2] rfl))) | ((fail_if_success (with_reducible first | refine isW ?_ | refine isP ?_ | refine isL ?_)); (first | with_reducible refine sx_region ?_ | ((with_reducible refine isK ?_); (first | refine svT F (h := ?_) | refine svF F (h := ?_) | ((refine svB F (fun hc => ?_) (fun hc => ?_)) <;> (try (exact no hc))))) | ((with_reducible refine isD ?_); fail) | with_reducible refine wp_scope_straight ?_ | with_reducible refine wp_label ?_ | go_step))))
    all_goals (first | refine svEnd F M ?_ | refine svRet F M ?_)
    all_goals exact ⟨_, _, rfl, ⟨by simp only [tupOf, e3, Od.get], rfl⟩, M.perms permsA⟩
  · (intro G w M; refine sx_enter (vs := ([opV ⟨k, ix, tg, am⟩] : List Value)) Tryz.func71 (n := 5) rfl rfl rfl rfl ?_; intro a F; (try simp only [List.cons_append, List.nil_append] at M))
    (repeat' (first | (refine sx_nil ?_; (try (replace F := F.filt [0, 1, 2] rfl))) | (refine sv1 F M (h := ?_); clear F a; intro a F) | refine pv1 (h := ?_) | (refine sv3 F M (h := ?_); clear M; intro w M) | (refine sv2 F M (h := ?_); clear F M a; intro nb a w F M) | refine pv3 (h := ?_) | (refine pv2 (h := ?_); intro nb) | ((first | refine svC F M (h := ?_) | refine svC0 F M (h := ?_) | refine pvC (h := ?_) | refine pvC0 (h := ?_)); (fail); (first | refine ⟨rvsA, ?_⟩ | (clear F M a; intro a w F M) | (clear M; intro w M))) | (refine svK F (h := ?_); clear F a; intro a F) | refine svK0 F (h := ?_) | ((refine sx_guardb F rfl (fun hg => ?_) (fun hg => ?_)) <;> (rw [hg] at F; (try (exact no hg)))) | (refine pvF (h := ?_); intro nb) | refine pvK (h := ?_) | refine pvK0 (h := ?_) | (refine pv_nil ?_; intro a w F M; (try (replace F := F.filt [0, 1, 2] rfl))) | ((fail_if_success (with_reducible first | refine isW ?_ | refine isP ?_ | refine isL ?_)); (first | with_reducible refine sx_region ?_ | ((with_reducible refine isK ?_); (first | refine svT F (h := ?_) | refine svF F (h := ?_) | ((refine svB F (fun hc => ?_) (fun hc => ?_)) <;> (try (exact no hc))))) | ((with_reducible refine isD ?_); fail) | with_reducible refine wp_scope_straight ?_ | with_reducible refine wp_label ?_ | go_step))))
    all_goals (first | refine svEnd F M ?_ | refine svRet F M ?_)
    all_goals exact ⟨_, _, rfl, ⟨by simp only [tupOf, e, Od.get], rfl⟩, M.perms permsA⟩
theorem set_spec (d : Od) (o : Opn) (b : Nat) (x : Nat) (hx : x < 256 ^ d.size) (R : List Asn) : Spec d.sf [ptr b, .int .u64 (x : Int)] (pt b (opL o) 35 :: R) fun u L' => L' = pt b (opL (d.set o x)) 35 :: R := by
  obtain ⟨k, ix, tg, am⟩ := o
  cases d
  · have e : IntKind.i64.wrap (x : Int) = x := IntWalk.i64_in _ ⟨by omega, by simp only [Od.size] at hx; omega⟩
    (intro G w M; refine sx_enter (vs := ([ptr b, .int .u64 (x : Int)] : List Value)) Tryz.func74 (n := 9) rfl rfl rfl rfl ?_; intro a F; (try simp only [List.cons_append, List.nil_append] at M))
    (repeat' (first | (refine sx_nil ?_; (try (replace F := F.filt [0, 1] rfl))) | (refine sv1 F M (h := ?_); clear F a; intro a F) | refine pv1 (h := ?_) | (refine sv3 F M (h := ?_); clear M; intro w M) | (refine sv2 F M (h := ?_); clear F M a; intro nb a w F M) | refine pv3 (h := ?_) | (refine pv2 (h := ?_); intro nb) | ((first | refine svC F M (h := ?_) | refine svC0 F M (h := ?_) | refine pvC (h := ?_) | refine pvC0 (h := ?_)); (fail); (first | refine ⟨rvsA, ?_⟩ | (clear F M a; intro a w F M) | (clear M; intro w M))) | (refine svK F (h := ?_); clear F a; intro a F) | refine svK0 F (h := ?_) | ((refine sx_guardb F rfl (fun hg => ?_) (fun hg => ?_)) <;> (rw [hg] at F; (try (exact no hg)))) | (refine pvF (h := ?_); intro nb) | refine pvK (h := ?_) | refine pvK0 (h := ?_) | (refine pv_nil ?_; intro a w F M; (try (replace F := F.filt [0, 1] rfl))) | ((fail_if_success (with_reducible first | refine isW ?_ | refine isP ?_ | refine isL ?_)); (first | with_reducible refine sx_region ?_ | ((with_reducible refine isK ?_); (first | refine svT F (h := ?_) | refine svF F (h := ?_) | ((refine svB F (fun hc => ?_) (fun hc => ?_)) <;> (try (exact no hc))))) | ((with_reducible refine isD ?_); fail) | with_reducible refine wp_scope_straight ?_ | with_reducible refine wp_label ?_ | go_step))))
    all_goals (try rw [e] at M)
    all_goals (first | refine svEnd F M ?_ | refine svRet F M ?_)
    all_goals exact ⟨_, _, rfl, rfl, M.perms permsA⟩
  · have e : IntKind.i64.wrap (x : Int) = x := IntWalk.i64_in _ ⟨by omega, by simp only [Od.size] at hx; omega⟩
    (intro G w M; refine sx_enter (vs := ([ptr b, .int .u64 (x : Int)] : List Value)) Tryz.func76 (n := 9) rfl rfl rfl rfl ?_; intro a F; (try simp only [List.cons_append, List.nil_append] at M))
    (repeat' (first | (refine sx_nil ?_; (try (replace F := F.filt [0, 1] rfl))) | (refine sv1 F M (h := ?_); clear F a; intro a F) | refine pv1 (h := ?_) | (refine sv3 F M (h := ?_); clear M; intro w M) | (refine sv2 F M (h := ?_); clear F M a; intro nb a w F M) | refine pv3 (h := ?_) | (refine pv2 (h := ?_); intro nb) | ((first | refine svC F M (h := ?_) | refine svC0 F M (h := ?_) | refine pvC (h := ?_) | refine pvC0 (h := ?_)); (fail); (first | refine ⟨rvsA, ?_⟩ | (clear F M a; intro a w F M) | (clear M; intro w M))) | (refine svK F (h := ?_); clear F a; intro a F) | refine svK0 F (h := ?_) | ((refine sx_guardb F rfl (fun hg => ?_) (fun hg => ?_)) <;> (rw [hg] at F; (try (exact no hg)))) | (refine pvF (h := ?_); intro nb) | refine pvK (h := ?_) | refine pvK0 (h := ?_) | (refine pv_nil ?_; intro a w F M; (try (replace F := F.filt [0, 1] rfl))) | ((fail_if_success (with_reducible first | refine isW ?_ | refine isP ?_ | refine isL ?_)); (first | with_reducible refine sx_region ?_ | ((with_reducible refine isK ?_); (first | refine svT F (h := ?_) | refine svF F (h := ?_) | ((refine svB F (fun hc => ?_) (fun hc => ?_)) <;> (try (exact no hc))))) | ((with_reducible refine isD ?_); fail) | with_reducible refine wp_scope_straight ?_ | with_reducible refine wp_label ?_ | go_step))))
    all_goals (try rw [e] at M)
    all_goals (first | refine svEnd F M ?_ | refine svRet F M ?_)
    all_goals exact ⟨_, _, rfl, rfl, M.perms permsA⟩
  · (intro G w M; refine sx_enter (vs := ([ptr b, .int .u64 (x : Int)] : List Value)) Tryz.func72 (n := 8) rfl rfl rfl rfl ?_; intro a F; (try simp only [List.cons_append, List.nil_append] at M))
    (repeat' (first | (refine sx_nil ?_; (try (replace F := F.filt [0, 1] rfl))) | (refine sv1 F M (h := ?_); clear F a; intro a F) | refine pv1 (h := ?_) | (refine sv3 F M (h := ?_); clear M; intro w M) | (refine sv2 F M (h := ?_); clear F M a; intro nb a w F M) | refine pv3 (h := ?_) | (refine pv2 (h := ?_); intro nb) | ((first | refine svC F M (h := ?_) | refine svC0 F M (h := ?_) | refine pvC (h := ?_) | refine pvC0 (h := ?_)); (fail); (first | refine ⟨rvsA, ?_⟩ | (clear F M a; intro a w F M) | (clear M; intro w M))) | (refine svK F (h := ?_); clear F a; intro a F) | refine svK0 F (h := ?_) | ((refine sx_guardb F rfl (fun hg => ?_) (fun hg => ?_)) <;> (rw [hg] at F; (try (exact no hg)))) | (refine pvF (h := ?_); intro nb) | refine pvK (h := ?_) | refine pvK0 (h := ?_) | (refine pv_nil ?_; intro a w F M; (try (replace F := F.filt [0, 1] rfl))) | ((fail_if_success (with_reducible first | refine isW ?_ | refine isP ?_ | refine isL ?_)); (first | with_reducible refine sx_region ?_ | ((with_reducible refine isK ?_); (first | refine svT F (h := ?_) | refine svF F (h := ?_) | ((refine svB F (fun hc => ?_) (fun hc => ?_)) <;> (try (exact no hc))))) | ((with_reducible refine isD ?_); fail) | with_reducible refine wp_scope_straight ?_ | with_reducible refine wp_label ?_ | go_step))))
    all_goals (first | refine svEnd F M ?_ | refine svRet F M ?_)
    all_goals exact ⟨_, _, rfl, rfl, M.perms permsA⟩
end Go.Proofs.YtaggjikjohamjaaGreatDoor
end
section
namespace Go.Proofs.YtaggjikjohamjaaGreatDoor
open Go.RowKit Go.Maps
set_option linter.unusedVariables false
set_option maxRecDepth 100000
set_option linter.unusedSimpArgs false
set_option maxHeartbeats 8000000
instance scGF (d : Od) : FK d.gf := by
  cases d
  · exact (inferInstance : FK 73)
  · exact (inferInstance : FK 75)
  · exact (inferInstance : FK 71)
instance scSF (d : Od) : FK d.sf := by
  cases d
  · exact (inferInstance : FK 74)
  · exact (inferInstance : FK 76)
  · exact (inferInstance : FK 72)
/-- A slice of bytes that can be read, and cut. -/
structure BG (L : List Asn) (h : SlH) (bs : List UInt8) : Prop where
  g : GS L 1 (sl h) bs.length (bs.flatMap u8L)
  n : h.n = bs.length
  c : bs.length ≤ h.c
theorem BG.tail {A : Asn} {L : List Asn} {h : SlH} {bs : List UInt8} (g : BG L h bs) : BG (A :: L) h bs := ⟨GS.tail g.g, g.n, g.c⟩
theorem BG.app {L : List Asn} {h : SlH} {bs : List UInt8} (g : BG L h bs) (G : List Asn) : BG (L ++ G) h bs := ⟨Gives.app g.g, g.n, g.c⟩
theorem BG.from {L : List Asn} {h : SlH} {bs : List UInt8} (g : BG L h bs) {j : Nat} (hj : j ≤ bs.length) : BG L (fromH h j 1) (bs.drop j) := by
  refine ⟨fun w M => ?_, by simp only [List.length_drop]; rw [g.n], by simp only [List.length_drop]; have := g.c; omega⟩
  have := (g.g w M).from hj g.c
  rw [flat_drop (f := u8L) (k := 1) (fun _ => rfl)] at this
  rw [List.length_drop]; exact this
theorem BG.to {L : List Asn} {h : SlH} {bs : List UInt8} (g : BG L h bs) {j : Nat} (hj : j ≤ bs.length) : BG L ⟨h.a, j, h.c⟩ (bs.take j) := by
  have hl : (bs.take j).length = j := by rw [List.length_take]; omega
  refine ⟨fun w M => ?_, by simp only [hl], by rw [hl]; exact Nat.le_trans hj g.c⟩
  have := (g.g w M).to hj
  rw [flat_take (f := u8L) (k := 1) (fun _ => rfl)] at this
  rw [hl]; exact this
theorem bg_own {L L' : List Asn} {h : SlH} {bs : List UInt8} {e : TypeId} {w : World} (M : Mem w L) (hp : Pull L (ownT e u8L 1 (sl h) bs) L') : BG L h bs := by
  obtain ⟨h1, h2, _, _⟩ := own_h (M.pull hp)
  exact ⟨gs_own hp, h1, h2⟩
theorem valB_snoc : ∀ (l : List UInt8) (a : Nat) (c : UInt8), valB a (l ++ [c]) = 256 * valB a l + c.toNat
  | [], a, c => rfl
  | x :: l, a, c => by rw [List.cons_append, valB, valB_snoc l]; rfl
theorem valB_le (l : List UInt8) {n : Nat} (h : l.length ≤ n) : valB 0 l < 256 ^ n := by
  have := valB_lt l 0
  have h2 : 256 ^ l.length ≤ 256 ^ n := Nat.pow_le_pow_right (by decide) h
  omega
theorem reader_spec (h : SlH) (R : List Asn) : Spec 44 [sl h] R fun u L' => ∃ b, u = .func (.func 58) #[] #[ptr b] ∧ L' = pt b [sl h] 24 :: R := by
  (intro G w M; refine sx_enter (vs := ([sl h] : List Value)) Tryz.func44 (n := 4) rfl rfl rfl rfl ?_; intro a F; (try simp only [List.cons_append, List.nil_append] at M))
  (repeat' (first | (refine sx_nil ?_; (try (replace F := F.filt [0, 1, 2] rfl))) | (refine sv1 F M (h := ?_); clear F a; intro a F) | refine pv1 (h := ?_) | (refine sv3 F M (h := ?_); clear M; intro w M) | (refine sv2 F M (h := ?_); clear F M a; intro nb a w F M) | refine pv3 (h := ?_) | (refine pv2 (h := ?_); intro nb) | ((first | refine svC F M (h := ?_) | refine svC0 F M (h := ?_) | refine pvC (h := ?_) | refine pvC0 (h := ?_)); (fail); (first | refine ⟨rvsA, ?_⟩ | (clear F M a; intro a w F M) | (clear M; intro w M))) | (refine svK F (h := ?_); clear F a; intro a F) | refine svK0 F (h := ?_) | ((refine sx_guardb F rfl (fun hg => ?_) (fun hg => ?_)) <;> (rw [hg] at F; (try (exact no hg)))) | (refine pvF (h := ?_); intro nb) | refine pvK (h := ?_) | refine pvK0 (h := ?_) | (refine pv_nil ?_; intro a w F M; (try (replace F := F.filt [0, 1, 2] rfl))) | ((fail_if_success (with_reducible first | refine isW ?_ | refine isP ?_ | refine isL ?_)); (first | with_reducible refine sx_region ?_ | ((with_reducible refine isK ?_); (first | refine svT F (h := ?_) | refine svF F (h := ?_) | ((refine svB F (fun hc => ?_) (fun hc => ?_)) <;> (try (exact no hc))))) | ((with_reducible refine isD ?_); fail) | with_reducible refine wp_scope_straight ?_ | with_reducible refine wp_label ?_ | go_step))))
  all_goals (first | refine svEnd F M ?_ | refine svRet F M ?_)
  all_goals exact ⟨_, _, rfl, ⟨_, rfl, rfl⟩, M.perms permsA⟩
theorem reader1_spec (b : Nat) (h : SlH) (bs : List UInt8) (n : Nat) (hn : n ≤ 8) (hl : n ≤ bs.length) (R : List Asn) (hg : BG R h bs) : Spec 58 [.int .i64 n, ptr b] (pt b [sl h] 24 :: R) fun u L' => u = .int .u64 (valB 0 (bs.take n) : Nat) ∧ L' = pt b [sl (fromH h n 1)] 24 :: R := by
  have hc := hg.c
  have hgn := hg.n
  (intro G w M; refine sx_enter (vs := ([.int .i64 (n : Int), ptr b] : List Value)) Tryz.func58 (n := 25) rfl rfl rfl rfl ?_; intro a F; (try simp only [List.cons_append, List.nil_append] at M))
  have g2 := (hg.app G).to hl
  have hl2 : (bs.take n).length = n := by rw [List.length_take]; omega
  have g3 := g2.g
  rw [hl2] at g3
  (repeat' (first | ((first | refine sv1 F M (h := ?_) (hr := by ((apply rt_to (h := h) (k := .i64) (j := n); (exact rfl); (exact rfl); (exact rfl); (exact inferInstance); (exact Nat.le_trans hl hc)))) | refine pv1 (h := ?_) (hr := by ((apply rt_to (h := h) (k := .i64) (j := n); (exact rfl); (exact rfl); (exact rfl); (exact inferInstance); (exact Nat.le_trans hl hc))))); (try (clear F a; intro a F))) | (refine sx_nil ?_; (try (replace F := F.filt [0, 1, 3, 4, 6, 9, 10, 11, 12] rfl))) | (refine sv1 F M (h := ?_); clear F a; intro a F) | refine pv1 (h := ?_) | (refine sv3 F M (h := ?_); clear M; intro w M) | (refine sv2 F M (h := ?_); clear F M a; intro nb a w F M) | refine pv3 (h := ?_) | (refine pv2 (h := ?_); intro nb) | ((first | refine svC F M (h := ?_) | refine svC0 F M (h := ?_) | refine pvC (h := ?_) | refine pvC0 (h := ?_)); (fail); (first | refine ⟨rvsA, ?_⟩ | (clear F M a; intro a w F M) | (clear M; intro w M))) | (refine svK F (h := ?_); clear F a; intro a F) | refine svK0 F (h := ?_) | ((refine sx_guardb F rfl (fun hg => ?_) (fun hg => ?_)) <;> (rw [hg] at F; (try (exact no hg)))) | (refine pvF (h := ?_); intro nb) | refine pvK (h := ?_) | refine pvK0 (h := ?_) | (refine pv_nil ?_; intro a w F M; (try (replace F := F.filt [0, 1, 3, 4, 6, 9, 10, 11, 12] rfl))) | ((fail_if_success (with_reducible first | refine isW ?_ | refine isP ?_ | refine isL ?_)); (first | with_reducible refine sx_region ?_ | ((with_reducible refine isK ?_); (first | refine svT F (h := ?_) | refine svF F (h := ?_) | ((refine svB F (fun hc => ?_) (fun hc => ?_)) <;> (try (exact no hc))))) | ((with_reducible refine isD ?_); fail) | with_reducible refine wp_scope_straight ?_ | with_reducible refine wp_label ?_ | go_step))))
  refine svLoop F M (0 : Nat) (fun j => [(11, .int .i64 j), (4, .int .u64 (valB 0 (bs.take j) : Nat))]) (fun _ => []) (fun j => j ≤ n) (fun j => n - j) [6] (Nat.zero_le _) ?_
  (rintro j q1 a w F M; (try simp only [List.cons_append, List.nil_append] at F M q1 ⊢))
  by_cases hj : j < n
  · obtain ⟨x, hx⟩ : ∃ x, bs[j]? = some x := ⟨bs[j]'(by omega), by rw [List.getElem?_eq_getElem]⟩
    have hx2 : (bs.take n)[j]? = some x := by rw [List.getElem?_take, if_pos hj, hx]
    have hx3 : x.toNat < 256 := x.toNat_lt
    have e1 : valB 0 (bs.take (j + 1)) = 256 * valB 0 (bs.take j) + x.toNat := by rw [List.take_add_one, hx]; exact valB_snoc _ _ _
    have hb : valB 0 (bs.take j) < 256 ^ 7 := valB_le _ (by rw [List.length_take]; omega)
    have hw : IntKind.u64.wrap (x.toNat : Int) = (x.toNat : Int) := by rw [IntKind.wrap_u64]; omega
    generalize valB 0 (bs.take j) = A at *
    have hA : A * 256 < 18446744073709551616 := by omega
    (repeat' (first | ((first | refine sv1 F M (h := ?_) (hr := by ((first | (apply rt_shl (m := A) (s := 8) (k := .u64); (exact rfl); (exact rfl); (exact rfl); decide; (exact hA)) | (apply rt_shl (m := A) (s := 8) (k := .u8); (exact rfl); (exact rfl); (exact rfl); decide; (exact hA)) | (apply rt_conv; (exact rfl); (exact rfl); (exact inferInstance); (exact inferInstance); (exact hw)) | (apply rt_or8 (m := A) (p := x.toNat); (exact rfl); (exact rfl); (exact rfl); (exact hx3); (exact hA))))) | refine pv1 (h := ?_) (hr := by ((first | (apply rt_shl (m := A) (s := 8) (k := .u64); (exact rfl); (exact rfl); (exact rfl); decide; (exact hA)) | (apply rt_shl (m := A) (s := 8) (k := .u8); (exact rfl); (exact rfl); (exact rfl); decide; (exact hA)) | (apply rt_conv; (exact rfl); (exact rfl); (exact inferInstance); (exact inferInstance); (exact hw)) | (apply rt_or8 (m := A) (p := x.toNat); (exact rfl); (exact rfl); (exact rfl); (exact hx3); (exact hA)))))); (try (clear F a; intro a F))) | (refine sx_nil ?_; (try (replace F := F.filt [0, 1, 3, 4, 6, 9, 10, 11, 12] rfl))) | (refine sv1 F M (h := ?_); clear F a; intro a F) | refine pv1 (h := ?_) | (refine sv3 F M (h := ?_); clear M; intro w M) | (refine sv2 F M (h := ?_); clear F M a; intro nb a w F M) | refine pv3 (h := ?_) | (refine pv2 (h := ?_); intro nb) | ((first | refine svC F M (h := ?_) | refine svC0 F M (h := ?_) | refine pvC (h := ?_) | refine pvC0 (h := ?_)); (fail); (first | refine ⟨rvsA, ?_⟩ | (clear F M a; intro a w F M) | (clear M; intro w M))) | (refine svK F (h := ?_); clear F a; intro a F) | refine svK0 F (h := ?_) | ((refine sx_guardb F rfl (fun hg => ?_) (fun hg => ?_)) <;> (rw [hg] at F; (try (exact no hg)))) | (refine pvF (h := ?_); intro nb) | refine pvK (h := ?_) | refine pvK0 (h := ?_) | (refine pv_nil ?_; intro a w F M; (try (replace F := F.filt [0, 1, 3, 4, 6, 9, 10, 11, 12] rfl))) | ((fail_if_success (with_reducible first | refine isW ?_ | refine isP ?_ | refine isL ?_)); (first | with_reducible refine sx_region ?_ | ((with_reducible refine isK ?_); (first | refine svT F (h := ?_) | refine svF F (h := ?_) | ((refine svB F (fun hc => ?_) (fun hc => ?_)) <;> (try (exact no hc))))) | ((with_reducible refine isD ?_); fail) | with_reducible refine wp_scope_straight ?_ | with_reducible refine wp_label ?_ | go_step))))
    rw [← e1] at F
    exact sv_again F M (j + 1) kpA permsA (by omega) (by omega)
  · obtain rfl : j = n := by omega
    (repeat' (first | ((first | refine sv1 F M (h := ?_) (hr := by ((apply rt_from (h := h) (k := .i64) (j := j); (exact rfl); (exact rfl); (exact rfl); (exact inferInstance); omega))) | refine pv1 (h := ?_) (hr := by ((apply rt_from (h := h) (k := .i64) (j := j); (exact rfl); (exact rfl); (exact rfl); (exact inferInstance); omega)))); (try (clear F a; intro a F))) | (refine sx_nil ?_; (try (replace F := F.filt [0, 1, 3, 4, 6, 9, 10, 11, 12] rfl))) | (refine sv1 F M (h := ?_); clear F a; intro a F) | refine pv1 (h := ?_) | (refine sv3 F M (h := ?_); clear M; intro w M) | (refine sv2 F M (h := ?_); clear F M a; intro nb a w F M) | refine pv3 (h := ?_) | (refine pv2 (h := ?_); intro nb) | ((first | refine svC F M (h := ?_) | refine svC0 F M (h := ?_) | refine pvC (h := ?_) | refine pvC0 (h := ?_)); (fail); (first | refine ⟨rvsA, ?_⟩ | (clear F M a; intro a w F M) | (clear M; intro w M))) | (refine svK F (h := ?_); clear F a; intro a F) | refine svK0 F (h := ?_) | ((refine sx_guardb F rfl (fun hg => ?_) (fun hg => ?_)) <;> (rw [hg] at F; (try (exact no hg)))) | (refine pvF (h := ?_); intro nb) | refine pvK (h := ?_) | refine pvK0 (h := ?_) | (refine pv_nil ?_; intro a w F M; (try (replace F := F.filt [0, 1, 3, 4, 6, 9, 10, 11, 12] rfl))) | ((fail_if_success (with_reducible first | refine isW ?_ | refine isP ?_ | refine isL ?_)); (first | with_reducible refine sx_region ?_ | ((with_reducible refine isK ?_); (first | refine svT F (h := ?_) | refine svF F (h := ?_) | ((refine svB F (fun hc => ?_) (fun hc => ?_)) <;> (try (exact no hc))))) | ((with_reducible refine isD ?_); fail) | with_reducible refine wp_scope_straight ?_ | with_reducible refine wp_label ?_ | go_step))))
    all_goals (first | refine svEnd F M ?_ | refine svRet F M ?_)
    all_goals exact ⟨_, _, rfl, ⟨rfl, rfl⟩, M.perms permsA⟩
theorem rd_drop {ds : List Od} {j : Nat} {d : Od} (h : ds[j]? = some d) (p : Opn) (r : List UInt8) : rdL (ds.drop j) p r = rdL (ds.drop (j + 1)) (d.set p (valB 0 (r.take d.size))) (r.drop d.size) := by
  rw [drop_cons h]; rfl
/-- A place in decoding. -/
structure DcZ where
  j : Nat
  p : Opn
  h : SlH
  r : List UInt8
theorem dec_spec (h : SlH) (bs : List UInt8) (q : Nat) (hq : q < bs.length) (hlen : bs.length ≤ 1000000) (R : List Asn) (hg : BG R h bs) : Spec 32 [sl h, .int .i64 q] R fun u L' => u = .tuple [opV (decM bs q).1, .int .i64 (decM bs q).2, .bool true].toArray ∧ L' = R := by
  obtain ⟨x, hx⟩ : ∃ x, bs[q]? = some x := ⟨bs[q], by rw [List.getElem?_eq_getElem]⟩
  have hgn := hg.n
  have hx3 : x.toNat < 256 := x.toNat_lt
  have hI : I64 (x.toNat : Int) := ⟨by omega, by omega⟩
  have hsz := fun R => size_spec (x.toNat : Int) hI R
  have hop := fun R => operands_spec (x.toNat : Int) hI R
  have hcv : IntKind.i64.wrap (x.toNat : Int) = (x.toNat : Int) := IntWalk.i64_in _ ⟨by omega, by omega⟩
  cases hd : odsOf (x.toNat : Int) with
  | none =>
    have e : decM bs q = (oz 0, q + 1) := by rw [decM, hx, Option.getD_some, hd]
    rw [szK, hd] at hsz
    rw [e]
    (intro G w M; refine sx_enter (vs := ([sl h, .int .i64 (q : Int)] : List Value)) Tryz.func32 (n := 78) rfl rfl rfl rfl ?_; intro a F; (try simp only [List.cons_append, List.nil_append] at M))
    have gg := (hg.app G).g
    (repeat' (first | ((first | refine sv1 F M (h := ?_) (hr := by ((apply rt_conv; (exact rfl); (exact rfl); (exact inferInstance); (exact inferInstance); (exact hcv)))) | refine pv1 (h := ?_) (hr := by ((apply rt_conv; (exact rfl); (exact rfl); (exact inferInstance); (exact inferInstance); (exact hcv))))); (try (clear F a; intro a F))) | (refine sx_nil ?_; (try (replace F := F.filt [0, 1, 4, 5, 6, 7, 8, 9, 10, 11, 14, 22, 31, 37, 59, 60, 61, 62] rfl))) | (refine sv1 F M (h := ?_); clear F a; intro a F) | refine pv1 (h := ?_) | (refine sv3 F M (h := ?_); clear M; intro w M) | (refine sv2 F M (h := ?_); clear F M a; intro nb a w F M) | refine pv3 (h := ?_) | (refine pv2 (h := ?_); intro nb) | ((first | refine svC F M (h := ?_) | refine svC0 F M (h := ?_) | refine pvC (h := ?_) | refine pvC0 (h := ?_)); (((refine acW (k := 43) (hsz _) ?_); rintro u L' ⟨rfl, rfl⟩)); (first | refine ⟨rvsA, ?_⟩ | (clear F M a; intro a w F M) | (clear M; intro w M))) | (refine svK F (h := ?_); clear F a; intro a F) | refine svK0 F (h := ?_) | ((refine sx_guardb F rfl (fun hg => ?_) (fun hg => ?_)) <;> (rw [hg] at F; (try (exact no hg)))) | (refine pvF (h := ?_); intro nb) | refine pvK (h := ?_) | refine pvK0 (h := ?_) | (refine pv_nil ?_; intro a w F M; (try (replace F := F.filt [0, 1, 4, 5, 6, 7, 8, 9, 10, 11, 14, 22, 31, 37, 59, 60, 61, 62] rfl))) | ((fail_if_success (with_reducible first | refine isW ?_ | refine isP ?_ | refine isL ?_)); (first | with_reducible refine sx_region ?_ | ((with_reducible refine isK ?_); (first | refine svT F (h := ?_) | refine svF F (h := ?_) | ((refine svB F (fun hc => ?_) (fun hc => ?_)) <;> (try (exact no hc))))) | ((with_reducible refine isD ?_); (first | (refine svDraw (id := 15) [5, 6] [] [(5, [0, 1])] [0, 1, 2, 3, 4, 5, 6] F M (h := ?_); clear F M a w) | (refine svDraw (id := 17) [3, 5] [] [(3, [0, 1]), (5, [1, 4])] [0, 1, 2, 3, 4, 5, 6, 7] F M (h := ?_); clear F M a w))) | with_reducible refine wp_scope_straight ?_ | with_reducible refine wp_label ?_ | go_step))))
    all_goals (first | refine svEnd F M ?_ | refine svRet F M ?_)
    all_goals exact ⟨_, _, rfl, ⟨rfl, rfl⟩, M.perms permsA⟩
  | some ds =>
    rw [szK, hd] at hsz
    rw [hd] at hop
    simp only [Option.isSome_some, Option.getD_some] at hop hsz
    obtain ⟨hl2, hz⟩ := ods_len hd
    by_cases hs : bs.length - q < 1 + szL ds
    · have e : decM bs q = (oz 0, bs.length) := by rw [decM, hx, Option.getD_some, hd]; simp only [if_pos hs]
      rw [e]
      (intro G w M; refine sx_enter (vs := ([sl h, .int .i64 (q : Int)] : List Value)) Tryz.func32 (n := 78) rfl rfl rfl rfl ?_; intro a F; (try simp only [List.cons_append, List.nil_append] at M))
      have gg := (hg.app G).g
      (repeat' (first | ((first | refine sv1 F M (h := ?_) (hr := by ((apply rt_conv; (exact rfl); (exact rfl); (exact inferInstance); (exact inferInstance); (exact hcv)))) | refine pv1 (h := ?_) (hr := by ((apply rt_conv; (exact rfl); (exact rfl); (exact inferInstance); (exact inferInstance); (exact hcv))))); (try (clear F a; intro a F))) | (refine sx_nil ?_; (try (replace F := F.filt [0, 1, 4, 5, 6, 7, 8, 9, 10, 11, 14, 22, 31, 37, 59, 60, 61, 62] rfl))) | (refine sv1 F M (h := ?_); clear F a; intro a F) | refine pv1 (h := ?_) | (refine sv3 F M (h := ?_); clear M; intro w M) | (refine sv2 F M (h := ?_); clear F M a; intro nb a w F M) | refine pv3 (h := ?_) | (refine pv2 (h := ?_); intro nb) | ((first | refine svC F M (h := ?_) | refine svC0 F M (h := ?_) | refine pvC (h := ?_) | refine pvC0 (h := ?_)); (((refine acW (k := 43) (hsz _) ?_); rintro u L' ⟨rfl, rfl⟩)); (first | refine ⟨rvsA, ?_⟩ | (clear F M a; intro a w F M) | (clear M; intro w M))) | (refine svK F (h := ?_); clear F a; intro a F) | refine svK0 F (h := ?_) | ((refine sx_guardb F rfl (fun hg => ?_) (fun hg => ?_)) <;> (rw [hg] at F; (try (exact no hg)))) | (refine pvF (h := ?_); intro nb) | refine pvK (h := ?_) | refine pvK0 (h := ?_) | (refine pv_nil ?_; intro a w F M; (try (replace F := F.filt [0, 1, 4, 5, 6, 7, 8, 9, 10, 11, 14, 22, 31, 37, 59, 60, 61, 62] rfl))) | ((fail_if_success (with_reducible first | refine isW ?_ | refine isP ?_ | refine isL ?_)); (first | with_reducible refine sx_region ?_ | ((with_reducible refine isK ?_); (first | refine svT F (h := ?_) | refine svF F (h := ?_) | ((refine svB F (fun hc => ?_) (fun hc => ?_)) <;> (try (exact no hc))))) | ((with_reducible refine isD ?_); (first | (refine svDraw (id := 15) [5, 6] [] [(5, [0, 1])] [0, 1, 2, 3, 4, 5, 6] F M (h := ?_); clear F M a w) | (refine svDraw (id := 17) [3, 5] [] [(3, [0, 1]), (5, [1, 4])] [0, 1, 2, 3, 4, 5, 6, 7] F M (h := ?_); clear F M a w))) | with_reducible refine wp_scope_straight ?_ | with_reducible refine wp_label ?_ | go_step))))
      all_goals (first | refine svEnd F M ?_ | refine svRet F M ?_)
      all_goals exact ⟨_, _, rfl, ⟨rfl, rfl⟩, M.perms permsA⟩
    · have e : decM bs q = (rdL ds (oz x.toNat) (bs.drop (q + 1)), q + (1 + szL ds)) := by rw [decM, hx, Option.getD_some, hd]; simp only [if_neg hs]
      rw [e]
      have hrd := fun R => reader_spec (fromH h (q + 1) 1) R
      have gb := hg.from (j := q + 1) (by omega)
      (intro G w M; refine sx_enter (vs := ([sl h, .int .i64 (q : Int)] : List Value)) Tryz.func32 (n := 78) rfl rfl rfl rfl ?_; intro a F; (try simp only [List.cons_append, List.nil_append] at M))
      have gg := (hg.app G).g
      have gb := gb.app G
      (repeat' (first | ((first | refine sv1 F M (h := ?_) (hr := by ((first | (apply rt_conv; (exact rfl); (exact rfl); (exact inferInstance); (exact inferInstance); (exact hcv)) | (apply rt_from (h := h) (k := .i64) (j := q + 1); (exact rfl); (exact rfl); (exact rfl); (exact inferInstance); omega)))) | refine pv1 (h := ?_) (hr := by ((first | (apply rt_conv; (exact rfl); (exact rfl); (exact inferInstance); (exact inferInstance); (exact hcv)) | (apply rt_from (h := h) (k := .i64) (j := q + 1); (exact rfl); (exact rfl); (exact rfl); (exact inferInstance); omega))))); (try (clear F a; intro a F))) | (refine sx_nil ?_; (try (replace F := F.filt [0, 1, 4, 5, 6, 7, 8, 9, 10, 11, 14, 22, 31, 37, 59, 60, 61, 62] rfl))) | (refine sv1 F M (h := ?_); clear F a; intro a F) | refine pv1 (h := ?_) | (refine sv3 F M (h := ?_); clear M; intro w M) | (refine sv2 F M (h := ?_); clear F M a; intro nb a w F M) | refine pv3 (h := ?_) | (refine pv2 (h := ?_); intro nb) | ((first | refine svC F M (h := ?_) | refine svC0 F M (h := ?_) | refine pvC (h := ?_) | refine pvC0 (h := ?_)); ((first | ((refine acW (k := 43) (hsz _) ?_); rintro u L' ⟨rfl, rfl⟩) | ((refine acW (k := 42) (hop _) ?_); rintro u L' ⟨ho, rfl, rfl⟩) | ((refine acW (k := 44) (hrd _) ?_); rintro u L' ⟨rb, rfl, rfl⟩))); (first | refine ⟨rvsA, ?_⟩ | (clear F M a; intro a w F M) | (clear M; intro w M))) | (refine svK F (h := ?_); clear F a; intro a F) | refine svK0 F (h := ?_) | ((refine sx_guardb F rfl (fun hg => ?_) (fun hg => ?_)) <;> (rw [hg] at F; (try (exact no hg)))) | (refine pvF (h := ?_); intro nb) | refine pvK (h := ?_) | refine pvK0 (h := ?_) | (refine pv_nil ?_; intro a w F M; (try (replace F := F.filt [0, 1, 4, 5, 6, 7, 8, 9, 10, 11, 14, 22, 31, 37, 59, 60, 61, 62] rfl))) | ((fail_if_success (with_reducible first | refine isW ?_ | refine isP ?_ | refine isL ?_)); (first | with_reducible refine sx_region ?_ | ((with_reducible refine isK ?_); (first | refine svT F (h := ?_) | refine svF F (h := ?_) | ((refine svB F (fun hc => ?_) (fun hc => ?_)) <;> (try (exact no hc))))) | ((with_reducible refine isD ?_); (first | (refine svDraw (id := 15) [5, 6] [] [(5, [0, 1])] [0, 1, 2, 3, 4, 5, 6] F M (h := ?_); clear F M a w) | (refine svDraw (id := 17) [3, 5] [] [(3, [0, 1]), (5, [1, 4])] [0, 1, 2, 3, 4, 5, 6, 7] F M (h := ?_); clear F M a w))) | with_reducible refine wp_scope_straight ?_ | with_reducible refine wp_label ?_ | go_step))))
      obtain ⟨b9, hb9⟩ : ∃ b9, b9 = nb := ⟨_, rfl⟩
      rw [← hb9] at F M
      refine svLoop F M (⟨0, oz x.toNat, fromH h (q + 1) 1, bs.drop (q + 1)⟩ : DcZ) (fun z => [(61, .int .i64 z.j)]) (fun z => [pt b9 (opL z.p) 35, pt rb [sl z.h] 24]) (fun z => z.j ≤ ds.length ∧ rdL (ds.drop z.j) z.p z.r = rdL ds (oz x.toNat) (bs.drop (q + 1)) ∧ szL (ds.drop z.j) ≤ z.r.length ∧ BG (R ++ G) z.h z.r) (fun z => ds.length - z.j) [14] ⟨Nat.zero_le _, rfl, by simp only [List.drop_zero, List.length_drop]; omega, gb⟩ ?_ (hR := by (repeat (first | exact Pulls.nil | (apply Pulls.cons; (focus ((repeat (first | exact Pull.here | apply Pull.there)); done))))))
      (rintro ⟨j, p, hh, r⟩ ⟨q1, q2, q3, q4⟩ a w F M; (try simp only [List.cons_append, List.nil_append] at F M q1 q2 q3 q4 ⊢))
      by_cases hj : j < ds.length
      · obtain ⟨d, hdj⟩ : ∃ d, ds[j]? = some d := ⟨ds[j], by simp [hj]⟩
        have hds := od_size d
        rw [drop_cons hdj, szL] at q3
        rw [rd_drop hdj] at q2
        have hr1 := fun R (hg : BG R hh r) => reader1_spec rb hh r d.size hds.1 (by omega) R hg
        have hst := fun R => set_spec d p b9 (valB 0 (r.take d.size)) (valB_le _ (by rw [List.length_take]; omega)) R
        have gr := q4.from (j := d.size) (by omega)
        (repeat' (first | ((first | refine sv1 F M (h := ?_) (hr := by ((first | (apply rt_conv; (exact rfl); (exact rfl); (exact inferInstance); (exact inferInstance); (exact hcv)) | (apply rt_from (h := h) (k := .i64) (j := q + 1); (exact rfl); (exact rfl); (exact rfl); (exact inferInstance); omega)))) | refine pv1 (h := ?_) (hr := by ((first | (apply rt_conv; (exact rfl); (exact rfl); (exact inferInstance); (exact inferInstance); (exact hcv)) | (apply rt_from (h := h) (k := .i64) (j := q + 1); (exact rfl); (exact rfl); (exact rfl); (exact inferInstance); omega))))); (try (clear F a; intro a F))) | (refine sx_nil ?_; (try (replace F := F.filt [0, 1, 4, 5, 6, 7, 8, 9, 10, 11, 14, 22, 31, 37, 59, 60, 61, 62] rfl))) | (refine sv1 F M (h := ?_); clear F a; intro a F) | refine pv1 (h := ?_) | (refine sv3 F M (h := ?_); clear M; intro w M) | (refine sv2 F M (h := ?_); clear F M a; intro nb a w F M) | refine pv3 (h := ?_) | (refine pv2 (h := ?_); intro nb) | ((first | refine svC F M (h := ?_) | refine svC0 F M (h := ?_) | refine pvC (h := ?_) | refine pvC0 (h := ?_)); ((first | (refine acK (L1 := pt rb [sl hh] 24 :: _) (k := 58) (hr1 _ ?_) ?_; (focus ((repeat (first | exact q4 | apply BG.tail)); done)); rintro u L' ⟨rfl, rfl⟩) | (refine acK (L1 := pt b9 (opL p) 35 :: _) (k := d.sf) (hst _) ?_; rintro u L' rfl))); (first | refine ⟨rvsA, ?_⟩ | (clear F M a; intro a w F M) | (clear M; intro w M))) | (refine svK F (h := ?_); clear F a; intro a F) | refine svK0 F (h := ?_) | ((refine sx_guardb F rfl (fun hg => ?_) (fun hg => ?_)) <;> (rw [hg] at F; (try (exact no hg)))) | (refine pvF (h := ?_); intro nb) | refine pvK (h := ?_) | refine pvK0 (h := ?_) | (refine pv_nil ?_; intro a w F M; (try (replace F := F.filt [0, 1, 4, 5, 6, 7, 8, 9, 10, 11, 14, 22, 31, 37, 59, 60, 61, 62] rfl))) | ((fail_if_success (with_reducible first | refine isW ?_ | refine isP ?_ | refine isL ?_)); (first | with_reducible refine sx_region ?_ | ((with_reducible refine isK ?_); (first | refine svT F (h := ?_) | refine svF F (h := ?_) | ((refine svB F (fun hc => ?_) (fun hc => ?_)) <;> (try (exact no hc))))) | ((with_reducible refine isD ?_); (first | (refine svDraw (id := 15) [5, 6] [] [(5, [0, 1])] [0, 1, 2, 3, 4, 5, 6] F M (h := ?_); clear F M a w) | (refine svDraw (id := 17) [3, 5] [] [(3, [0, 1]), (5, [1, 4])] [0, 1, 2, 3, 4, 5, 6, 7] F M (h := ?_); clear F M a w))) | with_reducible refine wp_scope_straight ?_ | with_reducible refine wp_label ?_ | go_step))))
        refine sv_again F M (⟨j + 1, d.set p (valB 0 (r.take d.size)), fromH hh d.size 1, r.drop d.size⟩ : DcZ) kpA permsA ⟨by simp only; omega, q2, by simp only [List.length_drop]; omega, gr⟩ (by simp only; omega)
      · obtain rfl : j = ds.length := by omega
        rw [List.drop_length] at q2
        have q2 : p = _ := q2
        subst q2
        (repeat' (first | ((first | refine sv1 F M (h := ?_) (hr := by ((first | (apply rt_conv; (exact rfl); (exact rfl); (exact inferInstance); (exact inferInstance); (exact hcv)) | (apply rt_from (h := h) (k := .i64) (j := q + 1); (exact rfl); (exact rfl); (exact rfl); (exact inferInstance); omega)))) | refine pv1 (h := ?_) (hr := by ((first | (apply rt_conv; (exact rfl); (exact rfl); (exact inferInstance); (exact inferInstance); (exact hcv)) | (apply rt_from (h := h) (k := .i64) (j := q + 1); (exact rfl); (exact rfl); (exact rfl); (exact inferInstance); omega))))); (try (clear F a; intro a F))) | (refine sx_nil ?_; (try (replace F := F.filt [0, 1, 4, 5, 6, 7, 8, 9, 10, 11, 14, 22, 31, 37, 59, 60, 61, 62] rfl))) | (refine sv1 F M (h := ?_); clear F a; intro a F) | refine pv1 (h := ?_) | (refine sv3 F M (h := ?_); clear M; intro w M) | (refine sv2 F M (h := ?_); clear F M a; intro nb a w F M) | refine pv3 (h := ?_) | (refine pv2 (h := ?_); intro nb) | ((first | refine svC F M (h := ?_) | refine svC0 F M (h := ?_) | refine pvC (h := ?_) | refine pvC0 (h := ?_)); (((refine acW (k := 43) (hsz _) ?_); rintro u L' ⟨rfl, rfl⟩)); (first | refine ⟨rvsA, ?_⟩ | (clear F M a; intro a w F M) | (clear M; intro w M))) | (refine svK F (h := ?_); clear F a; intro a F) | refine svK0 F (h := ?_) | ((refine sx_guardb F rfl (fun hg => ?_) (fun hg => ?_)) <;> (rw [hg] at F; (try (exact no hg)))) | (refine pvF (h := ?_); intro nb) | refine pvK (h := ?_) | refine pvK0 (h := ?_) | (refine pv_nil ?_; intro a w F M; (try (replace F := F.filt [0, 1, 4, 5, 6, 7, 8, 9, 10, 11, 14, 22, 31, 37, 59, 60, 61, 62] rfl))) | ((fail_if_success (with_reducible first | refine isW ?_ | refine isP ?_ | refine isL ?_)); (first | with_reducible refine sx_region ?_ | ((with_reducible refine isK ?_); (first | refine svT F (h := ?_) | refine svF F (h := ?_) | ((refine svB F (fun hc => ?_) (fun hc => ?_)) <;> (try (exact no hc))))) | ((with_reducible refine isD ?_); (first | (refine svDraw (id := 15) [5, 6] [] [(5, [0, 1])] [0, 1, 2, 3, 4, 5, 6] F M (h := ?_); clear F M a w) | (refine svDraw (id := 17) [3, 5] [] [(3, [0, 1]), (5, [1, 4])] [0, 1, 2, 3, 4, 5, 6, 7] F M (h := ?_); clear F M a w))) | with_reducible refine wp_scope_straight ?_ | with_reducible refine wp_label ?_ | go_step))))
        all_goals (first | refine svEnd F M ?_ | refine svRet F M ?_)
        all_goals exact ⟨_, _, rfl, ⟨rfl, rfl⟩, M.perms permsA⟩
end Go.Proofs.YtaggjikjohamjaaGreatDoor
end
section
namespace Go.Proofs.YtaggjikjohamjaaGreatDoor
open Go.RowKit Go.Maps
set_option linter.unusedVariables false
set_option maxRecDepth 100000
set_option linter.unusedSimpArgs false
set_option maxHeartbeats 8000000
instance scEQF : EQF opL [.int, .int, .int, .int] := ⟨fun x y => by
  obtain ⟨a, b, c, d⟩ := x; obtain ⟨e, f, g, h⟩ := y
  simp only [opL, cellsEq, scEq, if_true, Bool.and_true, Opn.mk.injEq, Option.some.injEq]
  rw [Bool.eq_iff_iff]; simp⟩
theorem byte_of (m : Nat) : IntKind.u8.wrap (m : Int) = ((UInt8.ofNat (m % 256)).toNat : Int) := by
  have h1 : (UInt8.ofNat (m % 256)).toNat = m % 256 := by
    rw [UInt8.toNat_ofNat']; omega
  rw [h1, IntKind.wrap_u8]; omega
theorem byte_k {k : Int} : IntKind.u8.wrap k = ((UInt8.ofNat (u64of k % 256)).toNat : Int) := by
  rw [← byte_of]
  unfold u64of
  rw [IntKind.wrap_u8, IntKind.wrap_u8]; omega
theorem pow_256 (m : Nat) : 2 ^ (8 * m) = 256 ^ m := by rw [Nat.pow_mul]
/-- A place in writing: the operand, the slice, the bytes. -/
structure WrZ where
  j : Nat
  h : SlH
  bs : List UInt8
theorem wrL_take {o : Opn} {ds : List Od} {j : Nat} {d : Od} (h : ds[j]? = some d) : wrL o (ds.take (j + 1)) = wrL o (ds.take j) ++ wrB o d := by
  rw [wrL, wrL, List.take_add_one, h, List.flatMap_append]; simp
theorem wrL_le (o : Opn) (ds : List Od) (h : ds.length ≤ 2) : (wrL o ds).length ≤ 17 := by
  rw [wrL_len]
  have : ∀ l : List Od, szL l ≤ 8 * l.length := fun l => by
    induction l with
    | nil => decide
    | cons d l ih => have := od_size d; rw [szL, List.length_cons]; omega
  have := this ds
  omega
theorem write_none (o : Opn) (hk : I64 o.k) (hd : odsOf o.k = none) (R : List Asn) : Spec 26 [opV o] R fun u L' => u = .tuple [.slice none 0 0, .bool false].toArray ∧ L' = R := by
  have hop := fun R => operands_spec o.k hk R
  rw [hd] at hop
  obtain ⟨k, ix, tg, am⟩ := o
  simp only [Option.isSome_none, Option.getD_none] at hop
  (intro G w M; refine sx_enter (vs := ([opV ⟨k, ix, tg, am⟩] : List Value)) Tryz.func26 (n := 48) rfl rfl rfl rfl ?_; intro a F; (try simp only [List.cons_append, List.nil_append] at M))
  (repeat' (first | (refine sx_nil ?_; (try (replace F := F.filt [0, 1, 2, 3, 4, 5, 6, 8, 9, 17, 22, 23, 24, 25, 32] rfl))) | (refine sv1 F M (h := ?_); clear F a; intro a F) | refine pv1 (h := ?_) | (refine sv3 F M (h := ?_); clear M; intro w M) | (refine sv2 F M (h := ?_); clear F M a; intro nb a w F M) | refine pv3 (h := ?_) | (refine pv2 (h := ?_); intro nb) | ((first | refine svC F M (h := ?_) | refine svC0 F M (h := ?_) | refine pvC (h := ?_) | refine pvC0 (h := ?_)); (((refine acW (k := 42) (hop _) ?_); rintro u L' ⟨ho, rfl, rfl⟩)); (first | refine ⟨rvsA, ?_⟩ | (clear F M a; intro a w F M) | (clear M; intro w M))) | (refine svK F (h := ?_); clear F a; intro a F) | refine svK0 F (h := ?_) | ((refine sx_guardb F rfl (fun hg => ?_) (fun hg => ?_)) <;> (rw [hg] at F; (try (exact no hg)))) | (refine pvF (h := ?_); intro nb) | refine pvK (h := ?_) | refine pvK0 (h := ?_) | (refine pv_nil ?_; intro a w F M; (try (replace F := F.filt [0, 1, 2, 3, 4, 5, 6, 8, 9, 17, 22, 23, 24, 25, 32] rfl))) | ((fail_if_success (with_reducible first | refine isW ?_ | refine isP ?_ | refine isL ?_)); (first | with_reducible refine sx_region ?_ | ((with_reducible refine isK ?_); (first | refine svT F (h := ?_) | refine svF F (h := ?_) | ((refine svB F (fun hc => ?_) (fun hc => ?_)) <;> (try (exact no hc))))) | ((with_reducible refine isD ?_); fail) | with_reducible refine wp_scope_straight ?_ | with_reducible refine wp_label ?_ | go_step))))
  all_goals (first | refine svEnd F M ?_ | refine svRet F M ?_)
  all_goals exact ⟨_, _, rfl, ⟨rfl, rfl⟩, M.perms permsA⟩
theorem write_some (o : Opn) (hk : I64 o.k) (ha : U64 o.am) (ds : List Od) (hd : odsOf o.k = some ds) (R : List Asn) : Spec 26 [opV o] R fun u L' => ∃ h, u = .tuple [sl h, .bool true].toArray ∧ L' = ownT 5 u8L 1 (sl h) (wrL o ds) :: R := by
  have hop := fun R => operands_spec o.k hk R
  rw [hd] at hop
  have hgt := fun (d : Od) R => get_spec d o ha R
  obtain ⟨hl2, hz⟩ := ods_len hd
  have hb0 : IntKind.u8.wrap o.k = _ := byte_k (k := o.k)
  have hwl : ∀ j, wrL o (ds.take j) = UInt8.ofNat (u64of o.k % 256) :: (ds.take j).flatMap (wrB o) := fun j => rfl
  have hwt := fun {j : Nat} {d : Od} (h : ds[j]? = some d) => wrL_take (o := o) h
  have hwn := fun j => wrL_le o (ds.take j) (by rw [List.length_take]; omega)
  have hwd : ∀ d, wrB o d = bigL (u64of (d.get o)) d.size := fun d => rfl
  obtain ⟨k, ix, tg, am⟩ := o
  simp only [Option.isSome_some, Option.getD_some] at hop hb0 hwl
  generalize hO : (⟨k, ix, tg, am⟩ : Opn) = O at hwl hwt hwn hwd ⊢
  have hgt : ∀ (d : Od) (R : List Asn), Spec d.gf [opV ⟨k, ix, tg, am⟩] R fun u L' => u = .int .u64 (u64of (d.get O) : Int) ∧ L' = R := by subst hO; exact hgt
  have hO2 : opV O = opV ⟨k, ix, tg, am⟩ := by rw [hO]
  rw [hO2]
  (intro G w M; refine sx_enter (vs := ([opV ⟨k, ix, tg, am⟩] : List Value)) Tryz.func26 (n := 48) rfl rfl rfl rfl ?_; intro a F; (try simp only [List.cons_append, List.nil_append] at M))
  (repeat' (first | ((first | refine sv1 F M (h := ?_) (hr := by ((apply rt_conv; (exact rfl); (exact rfl); (exact inferInstance); (exact inferInstance); (exact hb0)))) | refine pv1 (h := ?_) (hr := by ((apply rt_conv; (exact rfl); (exact rfl); (exact inferInstance); (exact inferInstance); (exact hb0))))); (try (clear F a; intro a F))) | (refine sx_nil ?_; (try (replace F := F.filt [0, 1, 2, 3, 4, 5, 6, 8, 9, 17, 22, 23, 24, 25, 32] rfl))) | (refine sv1 F M (h := ?_); clear F a; intro a F) | refine pv1 (h := ?_) | (refine sv3 F M (h := ?_); clear M; intro w M) | (refine sv2 F M (h := ?_); clear F M a; intro nb a w F M) | refine pv3 (h := ?_) | (refine pv2 (h := ?_); intro nb) | ((first | refine svC F M (h := ?_) | refine svC0 F M (h := ?_) | refine pvC (h := ?_) | refine pvC0 (h := ?_)); (((refine acW (k := 42) (hop _) ?_); rintro u L' ⟨ho, rfl, rfl⟩)); (first | refine ⟨rvsA, ?_⟩ | (clear F M a; intro a w F M) | (clear M; intro w M))) | (refine svK F (h := ?_); clear F a; intro a F) | refine svK0 F (h := ?_) | ((refine sx_guardb F rfl (fun hg => ?_) (fun hg => ?_)) <;> (rw [hg] at F; (try (exact no hg)))) | (refine pvF (h := ?_); intro nb) | refine pvK (h := ?_) | refine pvK0 (h := ?_) | (refine pv_nil ?_; intro a w F M; (try (replace F := F.filt [0, 1, 2, 3, 4, 5, 6, 8, 9, 17, 22, 23, 24, 25, 32] rfl))) | ((fail_if_success (with_reducible first | refine isW ?_ | refine isP ?_ | refine isL ?_)); (first | with_reducible refine sx_region ?_ | ((with_reducible refine isK ?_); (first | refine svT F (h := ?_) | refine svF F (h := ?_) | ((refine svB F (fun hc => ?_) (fun hc => ?_)) <;> (try (exact no hc))))) | ((with_reducible refine isD ?_); fail) | with_reducible refine wp_scope_straight ?_ | with_reducible refine wp_label ?_ | go_step))))
  obtain ⟨b1, hb1⟩ : ∃ b1, b1 = nb := ⟨_, rfl⟩
  refine svLoop F M (⟨0, ⟨some ⟨nb, 0, none⟩, 1, 1⟩, [UInt8.ofNat (u64of k % 256)]⟩ : WrZ) (fun z => [(24, .int .i64 z.j), (6, sl z.h)]) (fun z => [ownT 5 u8L 1 (sl z.h) z.bs]) (fun z => z.j ≤ ds.length ∧ z.bs = wrL O (ds.take z.j)) (fun z => ds.length - z.j) [8, 9] ⟨Nat.zero_le _, by rw [hwl]; rfl⟩ ?_ (hR := by (repeat (first | exact Pulls.nil | (apply Pulls.cons; (focus ((repeat (first | exact Pull.here | apply Pull.there)); done))))))
  (rintro ⟨j, h, bs⟩ ⟨q1, q2⟩ a w F M; (try simp only [List.cons_append, List.nil_append] at F M q1 q2 ⊢))
  by_cases hj : j < ds.length
  · obtain ⟨d, hdj⟩ : ∃ d, ds[j]? = some d := ⟨ds[j], by simp [hj]⟩
    have hds := od_size d
    have hw1 := hwt hdj
    have hw2 := hwn (j + 1)
    have hw3 := hwd d
    have hg1 := fun R => hgt d R
    generalize u64of (d.get O) = X at *
    rw [hw1, ← q2, hw3] at hw2
    rw [List.length_append, bigL_len] at hw2
    (repeat' (first | ((first | refine sv1 F M (h := ?_) (hr := by (fail)) | refine pv1 (h := ?_) (hr := by (fail))); (try (clear F a; intro a F))) | (refine sx_nil ?_; (try (replace F := F.filt [0, 1, 2, 3, 4, 5, 6, 8, 9, 17, 22, 23, 24, 25, 32] rfl))) | (refine sv1 F M (h := ?_); clear F a; intro a F) | refine pv1 (h := ?_) | (refine sv3 F M (h := ?_); clear M; intro w M) | (refine sv2 F M (h := ?_); clear F M a; intro nb a w F M) | refine pv3 (h := ?_) | (refine pv2 (h := ?_); intro nb) | ((first | refine svC F M (h := ?_) | refine svC0 F M (h := ?_) | refine pvC (h := ?_) | refine pvC0 (h := ?_)); (((refine acW (k := 42) (hop _) ?_); rintro u L' ⟨ho, rfl, rfl⟩)); (first | refine ⟨rvsA, ?_⟩ | (clear F M a; intro a w F M) | (clear M; intro w M))) | (refine svK F (h := ?_); clear F a; intro a F) | refine svK0 F (h := ?_) | ((refine sx_guardb F rfl (fun hg => ?_) (fun hg => ?_)) <;> (rw [hg] at F; (try (exact no hg)))) | (refine pvF (h := ?_); intro nb) | refine pvK (h := ?_) | refine pvK0 (h := ?_) | (refine pv_nil ?_; intro a w F M; (try (replace F := F.filt [0, 1, 2, 3, 4, 5, 6, 8, 9, 17, 22, 23, 24, 25, 32] rfl))) | ((fail_if_success (with_reducible first | refine isW ?_ | refine isP ?_ | refine isL ?_)); (first | with_reducible refine sx_region ?_ | ((with_reducible refine isK ?_); (first | refine svT F (h := ?_) | refine svF F (h := ?_) | ((refine svB F (fun hc => ?_) (fun hc => ?_)) <;> (try (exact no hc))))) | ((with_reducible refine isD ?_); fail) | with_reducible refine wp_scope_straight ?_ | with_reducible refine wp_label ?_ | go_step))))
    refine svLoop F M (⟨d.size, h, []⟩ : WrZ) (fun z => [(9, .int .i64 ((z.j : Int) - 1)), (6, sl z.h)]) (fun z => [ownT 5 u8L 1 (sl z.h) (bs ++ z.bs)]) (fun z => z.bs ++ bigL X z.j = bigL X d.size ∧ z.j ≤ d.size) (fun z => z.j) [] ⟨rfl, Nat.le_refl _⟩ ?_ (hR := by rw [List.append_nil]; (repeat (first | exact Pulls.nil | (apply Pulls.cons; (focus ((repeat (first | exact Pull.here | apply Pull.there)); done))))))
    (rintro ⟨m, h, T⟩ ⟨p1, p2⟩ a w F M; (try simp only [List.cons_append, List.nil_append] at F M p1 p2 ⊢))
    have hTl := congrArg List.length p1
    rw [List.length_append, bigL_len, bigL_len] at hTl
    cases m with
    | zero =>
      simp only [bigL, List.append_nil] at p1
      have ee : ((0 : Nat) : Int) - 1 = -1 := rfl
      rw [ee] at F
      subst p1
      (repeat' (first | ((first | refine sv1 F M (h := ?_) (hr := by (fail)) | refine pv1 (h := ?_) (hr := by (fail))); (try (clear F a; intro a F))) | (refine sx_nil ?_; (try (replace F := F.filt [0, 1, 2, 3, 4, 5, 6, 8, 9, 17, 22, 23, 24, 25, 32] rfl))) | (refine sv1 F M (h := ?_); clear F a; intro a F) | refine pv1 (h := ?_) | (refine sv3 F M (h := ?_); clear M; intro w M) | (refine sv2 F M (h := ?_); clear F M a; intro nb a w F M) | refine pv3 (h := ?_) | (refine pv2 (h := ?_); intro nb) | ((first | refine svC F M (h := ?_) | refine svC0 F M (h := ?_) | refine pvC (h := ?_) | refine pvC0 (h := ?_)); (fail); (first | refine ⟨rvsA, ?_⟩ | (clear F M a; intro a w F M) | (clear M; intro w M))) | (refine svK F (h := ?_); clear F a; intro a F) | refine svK0 F (h := ?_) | ((refine sx_guardb F rfl (fun hg => ?_) (fun hg => ?_)) <;> (rw [hg] at F; (try (exact no hg)))) | (refine pvF (h := ?_); intro nb) | refine pvK (h := ?_) | refine pvK0 (h := ?_) | (refine pv_nil ?_; intro a w F M; (try (replace F := F.filt [0, 1, 2, 3, 4, 5, 6, 8, 9, 17, 22, 23, 24, 25, 32] rfl))) | ((fail_if_success (with_reducible first | refine isW ?_ | refine isP ?_ | refine isL ?_)); (first | with_reducible refine sx_region ?_ | ((with_reducible refine isK ?_); (first | refine svT F (h := ?_) | refine svF F (h := ?_) | ((refine svB F (fun hc => ?_) (fun hc => ?_)) <;> (try (exact no hc))))) | ((with_reducible refine isD ?_); fail) | with_reducible refine wp_scope_straight ?_ | with_reducible refine wp_label ?_ | go_step))))
      refine sv_again F M (⟨j + 1, h, bs ++ bigL X d.size⟩ : WrZ) kpA permsA ⟨by simp only; omega, ?_⟩ (by simp only; omega)
      rw [hw1, q2, hw3]
    | succ m =>
      have ee : ((m + 1 : Nat) : Int) - 1 = m := by omega
      rw [ee] at F
      have hby : IntKind.u8.wrap ((X / 2 ^ (8 * m) : Nat) : Int) = ((UInt8.ofNat (X / 256 ^ m % 256)).toNat : Int) := by rw [pow_256]; exact byte_of _
      have e8 : (8 : Int) * (m : Int) = ((8 * m : Nat) : Int) := by omega
      (repeat' (first | ((first | refine sv1 F M (h := ?_) (hr := by ((first | (refine rt_shr (k := .i64) (m := X) (s := 8 * m) rfl rfl ?_ ?_; (rw [← e8]; exact rfl); omega) | (apply rt_conv; (exact rfl); (exact rfl); (exact inferInstance); (exact inferInstance); (exact hby))))) | refine pv1 (h := ?_) (hr := by ((first | (refine rt_shr (k := .i64) (m := X) (s := 8 * m) rfl rfl ?_ ?_; (rw [← e8]; exact rfl); omega) | (apply rt_conv; (exact rfl); (exact rfl); (exact inferInstance); (exact inferInstance); (exact hby)))))); (try (clear F a; intro a F))) | (refine sx_nil ?_; (try (replace F := F.filt [0, 1, 2, 3, 4, 5, 6, 8, 9, 17, 22, 23, 24, 25, 32] rfl))) | (refine sv1 F M (h := ?_); clear F a; intro a F) | refine pv1 (h := ?_) | (refine sv3 F M (h := ?_); clear M; intro w M) | (refine sv2 F M (h := ?_); clear F M a; intro nb a w F M) | refine pv3 (h := ?_) | (refine pv2 (h := ?_); intro nb) | ((first | refine svC F M (h := ?_) | refine svC0 F M (h := ?_) | refine pvC (h := ?_) | refine pvC0 (h := ?_)); ((first | ((refine acW (k := d.gf) (hg1 _) ?_); rintro u L' ⟨rfl, rfl⟩) | (refine ac_appendH (f := u8L) (xs := bs ++ T) (ys := [UInt8.ofNat (X / 256 ^ m % 256)]) rfl rfl inferInstance rfl rfl pullA inferInstance gsA rfl rfl (by simp; omega) ?_; intro nv))); (first | refine ⟨rvsA, ?_⟩ | (clear F M a; intro a w F M) | (clear M; intro w M))) | (refine svK F (h := ?_); clear F a; intro a F) | refine svK0 F (h := ?_) | ((refine sx_guardb F rfl (fun hg => ?_) (fun hg => ?_)) <;> (rw [hg] at F; (try (exact no hg)))) | (refine pvF (h := ?_); intro nb) | refine pvK (h := ?_) | refine pvK0 (h := ?_) | (refine pv_nil ?_; intro a w F M; (try (replace F := F.filt [0, 1, 2, 3, 4, 5, 6, 8, 9, 17, 22, 23, 24, 25, 32] rfl))) | ((fail_if_success (with_reducible first | refine isW ?_ | refine isP ?_ | refine isL ?_)); (first | with_reducible refine sx_region ?_ | ((with_reducible refine isK ?_); (first | refine svT F (h := ?_) | refine svF F (h := ?_) | ((refine svB F (fun hc => ?_) (fun hc => ?_)) <;> (try (exact no hc))))) | ((with_reducible refine isD ?_); fail) | with_reducible refine wp_scope_straight ?_ | with_reducible refine wp_label ?_ | go_step))))
      refine sv_again F M (⟨m, nv, T ++ [UInt8.ofNat (X / 256 ^ m % 256)]⟩ : WrZ) kpA (by rw [← List.append_assoc]; exact permsA) ⟨?_, by simp only; omega⟩ (by simp only; omega)
      rw [← p1, bigL]; simp
  · obtain rfl : j = ds.length := by omega
    rw [List.take_length] at q2
    subst q2
    (repeat' (first | (refine sx_nil ?_; (try (replace F := F.filt [0, 1, 2, 3, 4, 5, 6, 8, 9, 17, 22, 23, 24, 25, 32] rfl))) | (refine sv1 F M (h := ?_); clear F a; intro a F) | refine pv1 (h := ?_) | (refine sv3 F M (h := ?_); clear M; intro w M) | (refine sv2 F M (h := ?_); clear F M a; intro nb a w F M) | refine pv3 (h := ?_) | (refine pv2 (h := ?_); intro nb) | ((first | refine svC F M (h := ?_) | refine svC0 F M (h := ?_) | refine pvC (h := ?_) | refine pvC0 (h := ?_)); (fail); (first | refine ⟨rvsA, ?_⟩ | (clear F M a; intro a w F M) | (clear M; intro w M))) | (refine svK F (h := ?_); clear F a; intro a F) | refine svK0 F (h := ?_) | ((refine sx_guardb F rfl (fun hg => ?_) (fun hg => ?_)) <;> (rw [hg] at F; (try (exact no hg)))) | (refine pvF (h := ?_); intro nb) | refine pvK (h := ?_) | refine pvK0 (h := ?_) | (refine pv_nil ?_; intro a w F M; (try (replace F := F.filt [0, 1, 2, 3, 4, 5, 6, 8, 9, 17, 22, 23, 24, 25, 32] rfl))) | ((fail_if_success (with_reducible first | refine isW ?_ | refine isP ?_ | refine isL ?_)); (first | with_reducible refine sx_region ?_ | ((with_reducible refine isK ?_); (first | refine svT F (h := ?_) | refine svF F (h := ?_) | ((refine svB F (fun hc => ?_) (fun hc => ?_)) <;> (try (exact no hc))))) | ((with_reducible refine isD ?_); fail) | with_reducible refine wp_scope_straight ?_ | with_reducible refine wp_label ?_ | go_step))))
    all_goals (first | refine svEnd F M ?_ | refine svRet F M ?_)
    all_goals exact ⟨_, _, rfl, ⟨h, rfl, rfl⟩, M.perms permsA⟩
theorem valid_spec (o : Opn) (hk : I64 o.k) (hr : OpR o) (R : List Asn) : Spec 20 [opV o] R fun u L' => u = .bool (okM o) ∧ L' = R := by
  obtain ⟨r1, r2, r3⟩ := hr
  cases hd : odsOf o.k with
  | none =>
    have hw := fun R => write_none o hk hd R
    have e : okM o = false := by rw [okM, hd]
    rw [e]
    obtain ⟨k, ix, tg, am⟩ := o
    (intro G w M; refine sx_enter (vs := ([opV ⟨k, ix, tg, am⟩] : List Value)) Tryz.func20 (n := 24) rfl rfl rfl rfl ?_; intro a F; (try simp only [List.cons_append, List.nil_append] at M))
    (repeat' (first | (refine sx_nil ?_; (try (replace F := F.filt [0, 1, 2, 3, 4, 5, 14] rfl))) | (refine sv1 F M (h := ?_); clear F a; intro a F) | refine pv1 (h := ?_) | (refine sv3 F M (h := ?_); clear M; intro w M) | (refine sv2 F M (h := ?_); clear F M a; intro nb a w F M) | refine pv3 (h := ?_) | (refine pv2 (h := ?_); intro nb) | ((first | refine svC F M (h := ?_) | refine svC0 F M (h := ?_) | refine pvC (h := ?_) | refine pvC0 (h := ?_)); (((refine acW (k := 26) (hw _) ?_); rintro u L' ⟨rfl, rfl⟩)); (first | refine ⟨rvsA, ?_⟩ | (clear F M a; intro a w F M) | (clear M; intro w M))) | (refine svK F (h := ?_); clear F a; intro a F) | refine svK0 F (h := ?_) | ((refine sx_guardb F rfl (fun hg => ?_) (fun hg => ?_)) <;> (rw [hg] at F; (try (exact no hg)))) | (refine pvF (h := ?_); intro nb) | refine pvK (h := ?_) | refine pvK0 (h := ?_) | (refine pv_nil ?_; intro a w F M; (try (replace F := F.filt [0, 1, 2, 3, 4, 5, 14] rfl))) | ((fail_if_success (with_reducible first | refine isW ?_ | refine isP ?_ | refine isL ?_)); (first | with_reducible refine sx_region ?_ | ((with_reducible refine isK ?_); (first | refine svT F (h := ?_) | refine svF F (h := ?_) | ((refine svB F (fun hc => ?_) (fun hc => ?_)) <;> (try (exact no hc))))) | ((with_reducible refine isD ?_); fail) | with_reducible refine wp_scope_straight ?_ | with_reducible refine wp_label ?_ | go_step))))
    all_goals (first | refine svEnd F M ?_ | refine svRet F M ?_)
    all_goals exact ⟨_, _, rfl, ⟨rfl, rfl⟩, M.perms permsA⟩
  | some ds =>
    have hw := fun R => write_some o hk r3 ds hd R
    have hv := valid_iff o r1 r2 r3 ds hd
    have hl := wrL_len o ds
    obtain ⟨hl2, hz⟩ := ods_len hd
    have hdc := fun (h : SlH) R (hg : BG R h (wrL o ds)) => dec_spec h (wrL o ds) 0 (by omega) (by omega) R hg
    rw [← hv]
    obtain ⟨k, ix, tg, am⟩ := o
    generalize wrL ⟨k, ix, tg, am⟩ ds = W at *
    generalize decM W 0 = X at *
    obtain ⟨p, nx⟩ := X
    simp only at hdc ⊢
    (intro G w M; refine sx_enter (vs := ([opV ⟨k, ix, tg, am⟩] : List Value)) Tryz.func20 (n := 24) rfl rfl rfl rfl ?_; intro a F; (try simp only [List.cons_append, List.nil_append] at M))
    (repeat' (first | ((first | refine sv1 F M (h := ?_) (hr := by ((refine rt_eqlT (f := opL) (p := p) (q := ⟨k, ix, tg, am⟩) rfl rfl rfl inferInstance inferInstance))) | refine pv1 (h := ?_) (hr := by ((refine rt_eqlT (f := opL) (p := p) (q := ⟨k, ix, tg, am⟩) rfl rfl rfl inferInstance inferInstance)))); (try (clear F a; intro a F))) | (refine sx_nil ?_; (try (replace F := F.filt [0, 1, 2, 3, 4, 5, 14] rfl))) | (refine sv1 F M (h := ?_); clear F a; intro a F) | refine pv1 (h := ?_) | (refine sv3 F M (h := ?_); clear M; intro w M) | (refine sv2 F M (h := ?_); clear F M a; intro nb a w F M) | refine pv3 (h := ?_) | (refine pv2 (h := ?_); intro nb) | ((first | refine svC F M (h := ?_) | refine svC0 F M (h := ?_) | refine pvC (h := ?_) | refine pvC0 (h := ?_)); ((first | ((refine acW (k := 26) (hw _) ?_); rintro u L' ⟨h, rfl, rfl⟩) | ((refine acW (k := 32) (hdc h _ ?_) ?_); (exact bg_own M pullA); rintro u L' ⟨rfl, rfl⟩))); (first | refine ⟨rvsA, ?_⟩ | (clear F M a; intro a w F M) | (clear M; intro w M))) | (refine svK F (h := ?_); clear F a; intro a F) | refine svK0 F (h := ?_) | ((refine sx_guardb F rfl (fun hg => ?_) (fun hg => ?_)) <;> (rw [hg] at F; (try (exact no hg)))) | (refine pvF (h := ?_); intro nb) | refine pvK (h := ?_) | refine pvK0 (h := ?_) | (refine pv_nil ?_; intro a w F M; (try (replace F := F.filt [0, 1, 2, 3, 4, 5, 14] rfl))) | ((fail_if_success (with_reducible first | refine isW ?_ | refine isP ?_ | refine isL ?_)); (first | with_reducible refine sx_region ?_ | ((with_reducible refine isK ?_); (first | refine svT F (h := ?_) | refine svF F (h := ?_) | ((refine svB F (fun hc => ?_) (fun hc => ?_)) <;> (try (exact no hc))))) | ((with_reducible refine isD ?_); fail) | with_reducible refine wp_scope_straight ?_ | with_reducible refine wp_label ?_ | go_step))))
    all_goals (first | refine svEnd F M ?_ | refine svRet F M ?_)
    all_goals exact ⟨_, _, rfl, ⟨rfl, rfl⟩, M.perms permsA⟩
end Go.Proofs.YtaggjikjohamjaaGreatDoor
end
section
namespace Go.Proofs.YtaggjikjohamjaaGreatDoor
open Go.RowKit
set_option linter.unusedVariables false
set_option maxRecDepth 100000
set_option linter.unusedSimpArgs false
set_option maxHeartbeats 2000000
theorem opnames_spec {L : List Asn} : Spec 36 [] L fun u L' => ∃ h, u = sl h ∧ L' = ownT 9 strL 1 (sl h) names7 :: L := by
  (intro G w M; refine sx_enter (vs := []) Tryz.func36 (n := 2) rfl rfl rfl rfl ?_; intro a F; (try simp only [List.cons_append, List.nil_append] at M))
  (repeat' (first | (first | (refine sx_nil ?_; (try (replace F := F.filt [0] rfl))) | (refine sv1 F M (h := ?_) (hr := by fail); clear F a; intro a F) | (refine sv1 F M (h := ?_); clear F a; intro a F) | (refine sv3 F M (h := ?_); clear M; intro w M) | (refine sv2 F M (h := ?_); clear F M a; intro b a w F M) | (refine svC F M (h := ?_); fail; (clear F M a; intro a w F M)) | (refine svC0 F M (h := ?_); fail; (clear M; intro w M)) | (refine sv1 F M (h := ?_) (hr := by fail); clear F a; intro a F) | (refine svK F (h := ?_); clear F a; intro a F) | (refine svK0 F (h := ?_)) | ((refine sx_guardb F rfl (fun hg => ?_) (fun hg => ?_)) <;> (rw [hg] at F; (try (exact no hg))))) | (first | (refine pv1 (h := ?_) (hr := by fail)) | (refine pv1 (h := ?_)) | (refine pv3 (h := ?_)) | (refine pv2 (h := ?_); intro b) | (refine pvC (h := ?_); fail; (refine ⟨?_, ?_⟩; (exact rvsA))) | (refine pvC0 (h := ?_); fail; (refine ⟨?_, ?_⟩; (exact rvsA))) | (refine pv1 (h := ?_) (hr := by fail)) | (refine pvF (h := ?_); intro b) | (refine pvK (h := ?_)) | (refine pvK0 (h := ?_)) | (refine pv_nil ?_; intro a w F M; refine ql_open ?_) | (refine pv_nil ?_; intro a w F M; (try (replace F := F.filt [0] rfl)))) | ((fail_if_success (with_reducible show wpList _ _ _ _ _ _)); (fail_if_success (with_reducible show PW _ _ _ _ _ _ _ _ _ _)); (fail_if_success (with_reducible show Code.wp _ (Code.loop _) _ _ _)); (first | ((with_reducible show Code.wp _ (Code.region _ _ false) _ _ _); (refine sx_region ?_)) | ((with_reducible show Code.wp _ (Code.cond _ _ _) _ _ _); (first | (refine svT F (h := ?_)) | (refine svF F (h := ?_)) | ((refine svB F (fun hc => ?_) (fun hc => ?_)) <;> (try (exact no hc))))) | ((with_reducible show Code.wp _ (Code.region _ _ true) _ _ _); fail) | go_step))))
  (first | (refine svEnd F M ?_) | (refine svRet F M ?_))
  exact ⟨_, _, rfl, ⟨⟨_, _, _⟩, rfl, rfl⟩, M⟩
theorem gs_names {L L' : List Asn} {h : SlH} (hp : Pull L (ownT 9 strL 1 (sl h) names7) L') : GS L 1 (sl h) 7 (names7.flatMap strL) := gs_own hp
theorem name_reads (k : Int) (h0 : -9223372036854775808 ≤ k) (h1 : k ≤ 9223372036854775807) {L : List Asn} : Reads 21 [.int .i64 k] (str (nameOf k)) L := by
  (intro K hK w M; refine sx_enter (vs := [.int .i64 k]) Tryz.func21 (n := 16) rfl rfl rfl rfl ?_; intro a F)
  have e7 : names7.length = 7 := rfl
  by_cases hk : 1 ≤ k ∧ k ≤ 7
  · obtain ⟨hk1, hk2⟩ := hk
    have hnm := (names7_at hk1 hk2).1
    (repeat' (first | (first | (refine sx_nil ?_; (try (replace F := F.filt [0, 2, 10] rfl))) | (refine sv1 F M (h := ?_) (hr := by fail); clear F a; intro a F) | (refine sv1 F M (h := ?_); clear F a; intro a F) | (refine sv3 F M (h := ?_); clear M; intro w M) | (refine sv2 F M (h := ?_); clear F M a; intro b a w F M) | (refine svC F M (h := ?_); ((refine acCall (k := 36) ?_); refine Spec.mono opnames_spec ?_; rintro u L' ⟨hs, rfl, rfl⟩); (clear F M a; intro a w F M)) | (refine svC0 F M (h := ?_); ((refine acCall (k := 36) ?_); refine Spec.mono opnames_spec ?_; rintro u L' ⟨hs, rfl, rfl⟩); (clear M; intro w M)) | (refine sv1 F M (h := ?_) (hr := by ((apply rt_lenG; (exact rfl); (exact rfl); (exact rfl); (exact inferInstance); (exact gs_names pullA)))); clear F a; intro a F) | (refine svK F (h := ?_); clear F a; intro a F) | (refine svK0 F (h := ?_)) | ((refine sx_guardb F rfl (fun hg => ?_) (fun hg => ?_)) <;> (rw [hg] at F; (try (exact no hg))))) | (first | (refine pv1 (h := ?_) (hr := by fail)) | (refine pv1 (h := ?_)) | (refine pv3 (h := ?_)) | (refine pv2 (h := ?_); intro b) | (refine pvC (h := ?_); ((refine acCall (k := 36) ?_); refine Spec.mono opnames_spec ?_; rintro u L' ⟨hs, rfl, rfl⟩); (refine ⟨?_, ?_⟩; (exact rvsA))) | (refine pvC0 (h := ?_); ((refine acCall (k := 36) ?_); refine Spec.mono opnames_spec ?_; rintro u L' ⟨hs, rfl, rfl⟩); (refine ⟨?_, ?_⟩; (exact rvsA))) | (refine pv1 (h := ?_) (hr := by ((apply rt_lenG; (exact rfl); (exact rfl); (exact rfl); (exact inferInstance); (exact gs_names pullA))))) | (refine pvF (h := ?_); intro b) | (refine pvK (h := ?_)) | (refine pvK0 (h := ?_)) | (refine pv_nil ?_; intro a w F M; refine ql_open ?_) | (refine pv_nil ?_; intro a w F M; (try (replace F := F.filt [0, 2, 10] rfl)))) | ((fail_if_success (with_reducible show wpList _ _ _ _ _ _)); (fail_if_success (with_reducible show PW _ _ _ _ _ _ _ _ _ _)); (fail_if_success (with_reducible show Code.wp _ (Code.loop _) _ _ _)); (first | ((with_reducible show Code.wp _ (Code.region _ _ false) _ _ _); (refine sx_region ?_)) | ((with_reducible show Code.wp _ (Code.cond _ _ _) _ _ _); (first | (refine svT F (h := ?_)) | (refine svF F (h := ?_)) | ((refine svB F (fun hc => ?_) (fun hc => ?_)) <;> (try (exact no hc))))) | ((with_reducible show Code.wp _ (Code.region _ _ true) _ _ _); fail) | go_step))))
    (all_goals ((first | (refine svEnd F M ?_) | (refine svRet F M ?_)); refine ⟨?_, M.perms permsA⟩))
    rfl
  · have hn : nameOf k = [] := by rw [nameOf, if_pos (by omega)]
    by_cases h3 : k < 1
    · (repeat' (first | (first | (refine sx_nil ?_; (try (replace F := F.filt [0, 2, 10] rfl))) | (refine sv1 F M (h := ?_) (hr := by fail); clear F a; intro a F) | (refine sv1 F M (h := ?_); clear F a; intro a F) | (refine sv3 F M (h := ?_); clear M; intro w M) | (refine sv2 F M (h := ?_); clear F M a; intro b a w F M) | (refine svC F M (h := ?_); ((refine acCall (k := 36) ?_); refine Spec.mono opnames_spec ?_; rintro u L' ⟨hs, rfl, rfl⟩); (clear F M a; intro a w F M)) | (refine svC0 F M (h := ?_); ((refine acCall (k := 36) ?_); refine Spec.mono opnames_spec ?_; rintro u L' ⟨hs, rfl, rfl⟩); (clear M; intro w M)) | (refine sv1 F M (h := ?_) (hr := by ((apply rt_lenG; (exact rfl); (exact rfl); (exact rfl); (exact inferInstance); (exact gs_names pullA)))); clear F a; intro a F) | (refine svK F (h := ?_); clear F a; intro a F) | (refine svK0 F (h := ?_)) | ((refine sx_guardb F rfl (fun hg => ?_) (fun hg => ?_)) <;> (rw [hg] at F; (try (exact no hg))))) | (first | (refine pv1 (h := ?_) (hr := by fail)) | (refine pv1 (h := ?_)) | (refine pv3 (h := ?_)) | (refine pv2 (h := ?_); intro b) | (refine pvC (h := ?_); ((refine acCall (k := 36) ?_); refine Spec.mono opnames_spec ?_; rintro u L' ⟨hs, rfl, rfl⟩); (refine ⟨?_, ?_⟩; (exact rvsA))) | (refine pvC0 (h := ?_); ((refine acCall (k := 36) ?_); refine Spec.mono opnames_spec ?_; rintro u L' ⟨hs, rfl, rfl⟩); (refine ⟨?_, ?_⟩; (exact rvsA))) | (refine pv1 (h := ?_) (hr := by ((apply rt_lenG; (exact rfl); (exact rfl); (exact rfl); (exact inferInstance); (exact gs_names pullA))))) | (refine pvF (h := ?_); intro b) | (refine pvK (h := ?_)) | (refine pvK0 (h := ?_)) | (refine pv_nil ?_; intro a w F M; refine ql_open ?_) | (refine pv_nil ?_; intro a w F M; (try (replace F := F.filt [0, 2, 10] rfl)))) | ((fail_if_success (with_reducible show wpList _ _ _ _ _ _)); (fail_if_success (with_reducible show PW _ _ _ _ _ _ _ _ _ _)); (fail_if_success (with_reducible show Code.wp _ (Code.loop _) _ _ _)); (first | ((with_reducible show Code.wp _ (Code.region _ _ false) _ _ _); (refine sx_region ?_)) | ((with_reducible show Code.wp _ (Code.cond _ _ _) _ _ _); (first | (refine svT F (h := ?_)) | (refine svF F (h := ?_)) | ((refine svB F (fun hc => ?_) (fun hc => ?_)) <;> (try (exact no hc))))) | ((with_reducible show Code.wp _ (Code.region _ _ true) _ _ _); fail) | go_step))))
      (all_goals ((first | (refine svEnd F M ?_) | (refine svRet F M ?_)); refine ⟨?_, M.perms permsA⟩))
      rw [hn]; rfl
    · have h4 : ¬ (k ≤ 7) := by omega
      (repeat' (first | (first | (refine sx_nil ?_; (try (replace F := F.filt [0, 2, 10] rfl))) | (refine sv1 F M (h := ?_) (hr := by fail); clear F a; intro a F) | (refine sv1 F M (h := ?_); clear F a; intro a F) | (refine sv3 F M (h := ?_); clear M; intro w M) | (refine sv2 F M (h := ?_); clear F M a; intro b a w F M) | (refine svC F M (h := ?_); ((refine acCall (k := 36) ?_); refine Spec.mono opnames_spec ?_; rintro u L' ⟨hs, rfl, rfl⟩); (clear F M a; intro a w F M)) | (refine svC0 F M (h := ?_); ((refine acCall (k := 36) ?_); refine Spec.mono opnames_spec ?_; rintro u L' ⟨hs, rfl, rfl⟩); (clear M; intro w M)) | (refine sv1 F M (h := ?_) (hr := by ((apply rt_lenG; (exact rfl); (exact rfl); (exact rfl); (exact inferInstance); (exact gs_names pullA)))); clear F a; intro a F) | (refine svK F (h := ?_); clear F a; intro a F) | (refine svK0 F (h := ?_)) | ((refine sx_guardb F rfl (fun hg => ?_) (fun hg => ?_)) <;> (rw [hg] at F; (try (exact no hg))))) | (first | (refine pv1 (h := ?_) (hr := by fail)) | (refine pv1 (h := ?_)) | (refine pv3 (h := ?_)) | (refine pv2 (h := ?_); intro b) | (refine pvC (h := ?_); ((refine acCall (k := 36) ?_); refine Spec.mono opnames_spec ?_; rintro u L' ⟨hs, rfl, rfl⟩); (refine ⟨?_, ?_⟩; (exact rvsA))) | (refine pvC0 (h := ?_); ((refine acCall (k := 36) ?_); refine Spec.mono opnames_spec ?_; rintro u L' ⟨hs, rfl, rfl⟩); (refine ⟨?_, ?_⟩; (exact rvsA))) | (refine pv1 (h := ?_) (hr := by ((apply rt_lenG; (exact rfl); (exact rfl); (exact rfl); (exact inferInstance); (exact gs_names pullA))))) | (refine pvF (h := ?_); intro b) | (refine pvK (h := ?_)) | (refine pvK0 (h := ?_)) | (refine pv_nil ?_; intro a w F M; refine ql_open ?_) | (refine pv_nil ?_; intro a w F M; (try (replace F := F.filt [0, 2, 10] rfl)))) | ((fail_if_success (with_reducible show wpList _ _ _ _ _ _)); (fail_if_success (with_reducible show PW _ _ _ _ _ _ _ _ _ _)); (fail_if_success (with_reducible show Code.wp _ (Code.loop _) _ _ _)); (first | ((with_reducible show Code.wp _ (Code.region _ _ false) _ _ _); (refine sx_region ?_)) | ((with_reducible show Code.wp _ (Code.cond _ _ _) _ _ _); (first | (refine svT F (h := ?_)) | (refine svF F (h := ?_)) | ((refine svB F (fun hc => ?_) (fun hc => ?_)) <;> (try (exact no hc))))) | ((with_reducible show Code.wp _ (Code.region _ _ true) _ _ _); fail) | go_step))))
      (all_goals ((first | (refine svEnd F M ?_) | (refine svRet F M ?_)); refine ⟨?_, M.perms permsA⟩))
      rw [hn]; rfl
end Go.Proofs.YtaggjikjohamjaaGreatDoor
end
section
namespace Go.Proofs.YtaggjikjohamjaaGreatDoor
open Go.RowKit Go.Maps
set_option linter.unusedVariables false
set_option maxRecDepth 100000
set_option linter.unusedSimpArgs false
set_option maxHeartbeats 8000000
section
variable {o : Oper} {n : Nat} {l : List (Nat × Value)} {L : List Asn}
end
def Od.ch : Od → UInt8
  | .i => 105
  | .t => 116
  | .a => 97
def odsS (k : Int) : List UInt8 := match odsOf k with
  | none => [63]
  | some ds => ds.map Od.ch
theorem rops_spec (k : Int) (R : List Asn) : Spec 27 [.int .i64 k] R fun u L' => u = str (odsS k) ∧ L' = R := by
  by_cases hk7 : k = 1 ∨ k = 2 ∨ k = 3 ∨ k = 4 ∨ k = 5 ∨ k = 6 ∨ k = 7
  · have e : ∃ ds, odsOf k = some ds := by rcases hk7 with rfl | rfl | rfl | rfl | rfl | rfl | rfl <;> exact ⟨_, rfl⟩
    obtain ⟨ds, e⟩ := e
    have e2 : odsS k = ds.map Od.ch := by rw [odsS, e]
    rw [e2]
    rcases ods_cases e with ⟨rfl, rfl⟩ | ⟨rfl, rfl⟩ | ⟨rfl, rfl⟩ | ⟨rfl, rfl⟩ | ⟨rfl, rfl⟩ | ⟨rfl, rfl⟩ | ⟨rfl, rfl⟩
    · (intro G w M; refine sx_enter (vs := ([.int .i64 1] : List Value)) Tryz.func27 (n := 16) rfl rfl rfl rfl ?_; intro a F; (try simp only [List.cons_append, List.nil_append] at M))
      (repeat' (first | (refine sx_nil ?_; (try (replace F := F.filt [0, 2, 3, 4, 6, 10, 12, 14] rfl))) | (refine sv1 F M (h := ?_); clear F a; intro a F) | refine pv1 (h := ?_) | (refine sv3 F M (h := ?_); clear M; intro w M) | (refine sv2 F M (h := ?_); clear F M a; intro nb a w F M) | refine pv3 (h := ?_) | (refine pv2 (h := ?_); intro nb) | ((first | refine svC F M (h := ?_) | refine svC0 F M (h := ?_) | refine pvC (h := ?_) | refine pvC0 (h := ?_)); (fail); (first | refine ⟨rvsA, ?_⟩ | (clear F M a; intro a w F M) | (clear M; intro w M))) | (refine svK F (h := ?_); clear F a; intro a F) | refine svK0 F (h := ?_) | ((refine sx_guardb F rfl (fun hg => ?_) (fun hg => ?_)) <;> (rw [hg] at F; (try (exact no hg)))) | (refine pvF (h := ?_); intro nb) | refine pvK (h := ?_) | refine pvK0 (h := ?_) | (refine pv_nil ?_; intro a w F M; (try (replace F := F.filt [0, 2, 3, 4, 6, 10, 12, 14] rfl))) | ((fail_if_success (with_reducible first | refine isW ?_ | refine isP ?_ | refine isL ?_)); (first | with_reducible refine sx_region ?_ | ((with_reducible refine isK ?_); (first | refine svT F (h := ?_) | refine svF F (h := ?_) | ((refine svB F (fun hc => ?_) (fun hc => ?_)) <;> (try (exact no hc))))) | ((with_reducible refine isD ?_); fail) | with_reducible refine wp_scope_straight ?_ | with_reducible refine wp_label ?_ | go_step))))
      (all_goals ((first | refine svEnd F M ?_ | refine svRet F M ?_); exact ⟨_, _, rfl, ⟨rfl, rfl⟩, M.perms permsA⟩))
    · (intro G w M; refine sx_enter (vs := ([.int .i64 2] : List Value)) Tryz.func27 (n := 16) rfl rfl rfl rfl ?_; intro a F; (try simp only [List.cons_append, List.nil_append] at M))
      (repeat' (first | (refine sx_nil ?_; (try (replace F := F.filt [0, 2, 3, 4, 6, 10, 12, 14] rfl))) | (refine sv1 F M (h := ?_); clear F a; intro a F) | refine pv1 (h := ?_) | (refine sv3 F M (h := ?_); clear M; intro w M) | (refine sv2 F M (h := ?_); clear F M a; intro nb a w F M) | refine pv3 (h := ?_) | (refine pv2 (h := ?_); intro nb) | ((first | refine svC F M (h := ?_) | refine svC0 F M (h := ?_) | refine pvC (h := ?_) | refine pvC0 (h := ?_)); (fail); (first | refine ⟨rvsA, ?_⟩ | (clear F M a; intro a w F M) | (clear M; intro w M))) | (refine svK F (h := ?_); clear F a; intro a F) | refine svK0 F (h := ?_) | ((refine sx_guardb F rfl (fun hg => ?_) (fun hg => ?_)) <;> (rw [hg] at F; (try (exact no hg)))) | (refine pvF (h := ?_); intro nb) | refine pvK (h := ?_) | refine pvK0 (h := ?_) | (refine pv_nil ?_; intro a w F M; (try (replace F := F.filt [0, 2, 3, 4, 6, 10, 12, 14] rfl))) | ((fail_if_success (with_reducible first | refine isW ?_ | refine isP ?_ | refine isL ?_)); (first | with_reducible refine sx_region ?_ | ((with_reducible refine isK ?_); (first | refine svT F (h := ?_) | refine svF F (h := ?_) | ((refine svB F (fun hc => ?_) (fun hc => ?_)) <;> (try (exact no hc))))) | ((with_reducible refine isD ?_); fail) | with_reducible refine wp_scope_straight ?_ | with_reducible refine wp_label ?_ | go_step))))
      (all_goals ((first | refine svEnd F M ?_ | refine svRet F M ?_); exact ⟨_, _, rfl, ⟨rfl, rfl⟩, M.perms permsA⟩))
    · (intro G w M; refine sx_enter (vs := ([.int .i64 3] : List Value)) Tryz.func27 (n := 16) rfl rfl rfl rfl ?_; intro a F; (try simp only [List.cons_append, List.nil_append] at M))
      (repeat' (first | (refine sx_nil ?_; (try (replace F := F.filt [0, 2, 3, 4, 6, 10, 12, 14] rfl))) | (refine sv1 F M (h := ?_); clear F a; intro a F) | refine pv1 (h := ?_) | (refine sv3 F M (h := ?_); clear M; intro w M) | (refine sv2 F M (h := ?_); clear F M a; intro nb a w F M) | refine pv3 (h := ?_) | (refine pv2 (h := ?_); intro nb) | ((first | refine svC F M (h := ?_) | refine svC0 F M (h := ?_) | refine pvC (h := ?_) | refine pvC0 (h := ?_)); (fail); (first | refine ⟨rvsA, ?_⟩ | (clear F M a; intro a w F M) | (clear M; intro w M))) | (refine svK F (h := ?_); clear F a; intro a F) | refine svK0 F (h := ?_) | ((refine sx_guardb F rfl (fun hg => ?_) (fun hg => ?_)) <;> (rw [hg] at F; (try (exact no hg)))) | (refine pvF (h := ?_); intro nb) | refine pvK (h := ?_) | refine pvK0 (h := ?_) | (refine pv_nil ?_; intro a w F M; (try (replace F := F.filt [0, 2, 3, 4, 6, 10, 12, 14] rfl))) | ((fail_if_success (with_reducible first | refine isW ?_ | refine isP ?_ | refine isL ?_)); (first | with_reducible refine sx_region ?_ | ((with_reducible refine isK ?_); (first | refine svT F (h := ?_) | refine svF F (h := ?_) | ((refine svB F (fun hc => ?_) (fun hc => ?_)) <;> (try (exact no hc))))) | ((with_reducible refine isD ?_); fail) | with_reducible refine wp_scope_straight ?_ | with_reducible refine wp_label ?_ | go_step))))
      (all_goals ((first | refine svEnd F M ?_ | refine svRet F M ?_); exact ⟨_, _, rfl, ⟨rfl, rfl⟩, M.perms permsA⟩))
    · (intro G w M; refine sx_enter (vs := ([.int .i64 4] : List Value)) Tryz.func27 (n := 16) rfl rfl rfl rfl ?_; intro a F; (try simp only [List.cons_append, List.nil_append] at M))
      (repeat' (first | (refine sx_nil ?_; (try (replace F := F.filt [0, 2, 3, 4, 6, 10, 12, 14] rfl))) | (refine sv1 F M (h := ?_); clear F a; intro a F) | refine pv1 (h := ?_) | (refine sv3 F M (h := ?_); clear M; intro w M) | (refine sv2 F M (h := ?_); clear F M a; intro nb a w F M) | refine pv3 (h := ?_) | (refine pv2 (h := ?_); intro nb) | ((first | refine svC F M (h := ?_) | refine svC0 F M (h := ?_) | refine pvC (h := ?_) | refine pvC0 (h := ?_)); (fail); (first | refine ⟨rvsA, ?_⟩ | (clear F M a; intro a w F M) | (clear M; intro w M))) | (refine svK F (h := ?_); clear F a; intro a F) | refine svK0 F (h := ?_) | ((refine sx_guardb F rfl (fun hg => ?_) (fun hg => ?_)) <;> (rw [hg] at F; (try (exact no hg)))) | (refine pvF (h := ?_); intro nb) | refine pvK (h := ?_) | refine pvK0 (h := ?_) | (refine pv_nil ?_; intro a w F M; (try (replace F := F.filt [0, 2, 3, 4, 6, 10, 12, 14] rfl))) | ((fail_if_success (with_reducible first | refine isW ?_ | refine isP ?_ | refine isL ?_)); (first | with_reducible refine sx_region ?_ | ((with_reducible refine isK ?_); (first | refine svT F (h := ?_) | refine svF F (h := ?_) | ((refine svB F (fun hc => ?_) (fun hc => ?_)) <;> (try (exact no hc))))) | ((with_reducible refine isD ?_); fail) | with_reducible refine wp_scope_straight ?_ | with_reducible refine wp_label ?_ | go_step))))
      (all_goals ((first | refine svEnd F M ?_ | refine svRet F M ?_); exact ⟨_, _, rfl, ⟨rfl, rfl⟩, M.perms permsA⟩))
    · (intro G w M; refine sx_enter (vs := ([.int .i64 5] : List Value)) Tryz.func27 (n := 16) rfl rfl rfl rfl ?_; intro a F; (try simp only [List.cons_append, List.nil_append] at M))
      (repeat' (first | (refine sx_nil ?_; (try (replace F := F.filt [0, 2, 3, 4, 6, 10, 12, 14] rfl))) | (refine sv1 F M (h := ?_); clear F a; intro a F) | refine pv1 (h := ?_) | (refine sv3 F M (h := ?_); clear M; intro w M) | (refine sv2 F M (h := ?_); clear F M a; intro nb a w F M) | refine pv3 (h := ?_) | (refine pv2 (h := ?_); intro nb) | ((first | refine svC F M (h := ?_) | refine svC0 F M (h := ?_) | refine pvC (h := ?_) | refine pvC0 (h := ?_)); (fail); (first | refine ⟨rvsA, ?_⟩ | (clear F M a; intro a w F M) | (clear M; intro w M))) | (refine svK F (h := ?_); clear F a; intro a F) | refine svK0 F (h := ?_) | ((refine sx_guardb F rfl (fun hg => ?_) (fun hg => ?_)) <;> (rw [hg] at F; (try (exact no hg)))) | (refine pvF (h := ?_); intro nb) | refine pvK (h := ?_) | refine pvK0 (h := ?_) | (refine pv_nil ?_; intro a w F M; (try (replace F := F.filt [0, 2, 3, 4, 6, 10, 12, 14] rfl))) | ((fail_if_success (with_reducible first | refine isW ?_ | refine isP ?_ | refine isL ?_)); (first | with_reducible refine sx_region ?_ | ((with_reducible refine isK ?_); (first | refine svT F (h := ?_) | refine svF F (h := ?_) | ((refine svB F (fun hc => ?_) (fun hc => ?_)) <;> (try (exact no hc))))) | ((with_reducible refine isD ?_); fail) | with_reducible refine wp_scope_straight ?_ | with_reducible refine wp_label ?_ | go_step))))
      (all_goals ((first | refine svEnd F M ?_ | refine svRet F M ?_); exact ⟨_, _, rfl, ⟨rfl, rfl⟩, M.perms permsA⟩))
    · (intro G w M; refine sx_enter (vs := ([.int .i64 6] : List Value)) Tryz.func27 (n := 16) rfl rfl rfl rfl ?_; intro a F; (try simp only [List.cons_append, List.nil_append] at M))
      (repeat' (first | (refine sx_nil ?_; (try (replace F := F.filt [0, 2, 3, 4, 6, 10, 12, 14] rfl))) | (refine sv1 F M (h := ?_); clear F a; intro a F) | refine pv1 (h := ?_) | (refine sv3 F M (h := ?_); clear M; intro w M) | (refine sv2 F M (h := ?_); clear F M a; intro nb a w F M) | refine pv3 (h := ?_) | (refine pv2 (h := ?_); intro nb) | ((first | refine svC F M (h := ?_) | refine svC0 F M (h := ?_) | refine pvC (h := ?_) | refine pvC0 (h := ?_)); (fail); (first | refine ⟨rvsA, ?_⟩ | (clear F M a; intro a w F M) | (clear M; intro w M))) | (refine svK F (h := ?_); clear F a; intro a F) | refine svK0 F (h := ?_) | ((refine sx_guardb F rfl (fun hg => ?_) (fun hg => ?_)) <;> (rw [hg] at F; (try (exact no hg)))) | (refine pvF (h := ?_); intro nb) | refine pvK (h := ?_) | refine pvK0 (h := ?_) | (refine pv_nil ?_; intro a w F M; (try (replace F := F.filt [0, 2, 3, 4, 6, 10, 12, 14] rfl))) | ((fail_if_success (with_reducible first | refine isW ?_ | refine isP ?_ | refine isL ?_)); (first | with_reducible refine sx_region ?_ | ((with_reducible refine isK ?_); (first | refine svT F (h := ?_) | refine svF F (h := ?_) | ((refine svB F (fun hc => ?_) (fun hc => ?_)) <;> (try (exact no hc))))) | ((with_reducible refine isD ?_); fail) | with_reducible refine wp_scope_straight ?_ | with_reducible refine wp_label ?_ | go_step))))
      (all_goals ((first | refine svEnd F M ?_ | refine svRet F M ?_); exact ⟨_, _, rfl, ⟨rfl, rfl⟩, M.perms permsA⟩))
    · (intro G w M; refine sx_enter (vs := ([.int .i64 7] : List Value)) Tryz.func27 (n := 16) rfl rfl rfl rfl ?_; intro a F; (try simp only [List.cons_append, List.nil_append] at M))
      (repeat' (first | (refine sx_nil ?_; (try (replace F := F.filt [0, 2, 3, 4, 6, 10, 12, 14] rfl))) | (refine sv1 F M (h := ?_); clear F a; intro a F) | refine pv1 (h := ?_) | (refine sv3 F M (h := ?_); clear M; intro w M) | (refine sv2 F M (h := ?_); clear F M a; intro nb a w F M) | refine pv3 (h := ?_) | (refine pv2 (h := ?_); intro nb) | ((first | refine svC F M (h := ?_) | refine svC0 F M (h := ?_) | refine pvC (h := ?_) | refine pvC0 (h := ?_)); (fail); (first | refine ⟨rvsA, ?_⟩ | (clear F M a; intro a w F M) | (clear M; intro w M))) | (refine svK F (h := ?_); clear F a; intro a F) | refine svK0 F (h := ?_) | ((refine sx_guardb F rfl (fun hg => ?_) (fun hg => ?_)) <;> (rw [hg] at F; (try (exact no hg)))) | (refine pvF (h := ?_); intro nb) | refine pvK (h := ?_) | refine pvK0 (h := ?_) | (refine pv_nil ?_; intro a w F M; (try (replace F := F.filt [0, 2, 3, 4, 6, 10, 12, 14] rfl))) | ((fail_if_success (with_reducible first | refine isW ?_ | refine isP ?_ | refine isL ?_)); (first | with_reducible refine sx_region ?_ | ((with_reducible refine isK ?_); (first | refine svT F (h := ?_) | refine svF F (h := ?_) | ((refine svB F (fun hc => ?_) (fun hc => ?_)) <;> (try (exact no hc))))) | ((with_reducible refine isD ?_); fail) | with_reducible refine wp_scope_straight ?_ | with_reducible refine wp_label ?_ | go_step))))
      (all_goals ((first | refine svEnd F M ?_ | refine svRet F M ?_); exact ⟨_, _, rfl, ⟨rfl, rfl⟩, M.perms permsA⟩))
  · have e : odsS k = [63] := by
      unfold odsS odsOf
      repeat rw [if_neg (by omega)]
    rw [e]
    (intro G w M; refine sx_enter (vs := ([.int .i64 k] : List Value)) Tryz.func27 (n := 16) rfl rfl rfl rfl ?_; intro a F; (try simp only [List.cons_append, List.nil_append] at M))
    (repeat' (first | (refine sx_nil ?_; (try (replace F := F.filt [0, 2, 3, 4, 6, 10, 12, 14] rfl))) | (refine sv1 F M (h := ?_); clear F a; intro a F) | refine pv1 (h := ?_) | (refine sv3 F M (h := ?_); clear M; intro w M) | (refine sv2 F M (h := ?_); clear F M a; intro nb a w F M) | refine pv3 (h := ?_) | (refine pv2 (h := ?_); intro nb) | ((first | refine svC F M (h := ?_) | refine svC0 F M (h := ?_) | refine pvC (h := ?_) | refine pvC0 (h := ?_)); (fail); (first | refine ⟨rvsA, ?_⟩ | (clear F M a; intro a w F M) | (clear M; intro w M))) | (refine svK F (h := ?_); clear F a; intro a F) | refine svK0 F (h := ?_) | ((refine sx_guardb F rfl (fun hg => ?_) (fun hg => ?_)) <;> (rw [hg] at F; (try (exact no hg)))) | (refine pvF (h := ?_); intro nb) | refine pvK (h := ?_) | refine pvK0 (h := ?_) | (refine pv_nil ?_; intro a w F M; (try (replace F := F.filt [0, 2, 3, 4, 6, 10, 12, 14] rfl))) | ((fail_if_success (with_reducible first | refine isW ?_ | refine isP ?_ | refine isL ?_)); (first | with_reducible refine sx_region ?_ | ((with_reducible refine isK ?_); (first | refine svT F (h := ?_) | refine svF F (h := ?_) | ((refine svB F (fun hc => ?_) (fun hc => ?_)) <;> (try (exact no hc))))) | ((with_reducible refine isD ?_); fail) | with_reducible refine wp_scope_straight ?_ | with_reducible refine wp_label ?_ | go_step))))
    (all_goals ((first | refine svEnd F M ?_ | refine svRet F M ?_); exact ⟨_, _, rfl, ⟨rfl, rfl⟩, M.perms permsA⟩))
theorem odsS_some {k : Int} {ds : List Od} (h : odsOf k = some ds) : odsS k = ds.map Od.ch ∧ odsS k ≠ [63] := by
  have e : odsS k = ds.map Od.ch := by rw [odsS, h]
  refine ⟨e, ?_⟩
  rw [e]
  rcases ods_cases h with ⟨_, rfl⟩ | ⟨_, rfl⟩ | ⟨_, rfl⟩ | ⟨_, rfl⟩ | ⟨_, rfl⟩ | ⟨_, rfl⟩ | ⟨_, rfl⟩ <;> decide
theorem odsS_len (k : Int) : (odsS k).length ≤ 2 := by
  unfold odsS
  cases h : odsOf k with
  | none => decide
  | some ds => simp only [List.length_map]; exact (ods_len h).1
def usesM (k : Int) (c : UInt8) : Bool := (odsS k).any fun x => decide (x = c)
theorem u8_int {x c : UInt8} : ((x.toNat : Int) = (c.toNat : Int)) ↔ x = c := by
  constructor
  · intro h; exact UInt8.toNat_inj.1 (by omega)
  · intro h; rw [h]
theorem ruses_spec (k : Int) (c : UInt8) (R : List Asn) : Spec 29 [.int .i64 k, .int .u8 (c.toNat : Int)] R fun u L' => u = .bool (usesM k c) ∧ L' = R := by
  have hop := fun R => rops_spec k R
  have hl := odsS_len k
  unfold usesM
  generalize odsS k = S at *
  generalize hX : (S.any fun x => decide (x = c)) = X
  (intro G w M; refine sx_enter (vs := ([.int .i64 k, .int .u8 (c.toNat : Int)] : List Value)) Tryz.func29 (n := 20) rfl rfl rfl rfl ?_; intro a F; (try simp only [List.cons_append, List.nil_append] at M))
  (repeat' (first | (refine sx_nil ?_; (try (replace F := F.filt [0, 1, 4, 5, 6, 12, 19] rfl))) | (refine sv1 F M (h := ?_); clear F a; intro a F) | refine pv1 (h := ?_) | (refine sv3 F M (h := ?_); clear M; intro w M) | (refine sv2 F M (h := ?_); clear F M a; intro nb a w F M) | refine pv3 (h := ?_) | (refine pv2 (h := ?_); intro nb) | ((first | refine svC F M (h := ?_) | refine svC0 F M (h := ?_) | refine pvC (h := ?_) | refine pvC0 (h := ?_)); (((refine acW (k := 27) (hop _) ?_); rintro u L' ⟨rfl, rfl⟩)); (first | refine ⟨rvsA, ?_⟩ | (clear F M a; intro a w F M) | (clear M; intro w M))) | (refine svK F (h := ?_); clear F a; intro a F) | refine svK0 F (h := ?_) | ((refine sx_guardb F rfl (fun hg => ?_) (fun hg => ?_)) <;> (rw [hg] at F; (try (exact no hg)))) | (refine pvF (h := ?_); intro nb) | refine pvK (h := ?_) | refine pvK0 (h := ?_) | (refine pv_nil ?_; intro a w F M; (try (replace F := F.filt [0, 1, 4, 5, 6, 12, 19] rfl))) | ((fail_if_success (with_reducible first | refine isW ?_ | refine isP ?_ | refine isL ?_)); (first | with_reducible refine sx_region ?_ | ((with_reducible refine isK ?_); (first | refine svT F (h := ?_) | refine svF F (h := ?_) | ((refine svB F (fun hc => ?_) (fun hc => ?_)) <;> (try (exact no hc))))) | ((with_reducible refine isD ?_); fail) | with_reducible refine wp_scope_straight ?_ | with_reducible refine wp_label ?_ | go_step))))
  refine svLoop F M (0 : Nat) (fun j => [(6, .int .i64 j)]) (fun _ => []) (fun j => j ≤ S.length ∧ ((S.drop j).any fun x => decide (x = c)) = X) (fun j => S.length - j) [] ⟨Nat.zero_le _, hX⟩ ?_
  (rintro j ⟨q1, q2⟩ a w F M; (try simp only [List.cons_append, List.nil_append] at F M q1 q2 ⊢))
  by_cases hj : j < S.length
  · obtain ⟨x, hx⟩ : ∃ x, S[j]? = some x := ⟨S[j], by simp [hj]⟩
    rw [drop_cons hx, List.any_cons] at q2
    by_cases hxc : x = c
    · have d2 : (x.toNat : Int) = (c.toNat : Int) := u8_int.2 hxc
      rw [decide_eq_true hxc, Bool.true_or] at q2
      (repeat' (first | (refine sx_nil ?_; (try (replace F := F.filt [0, 1, 4, 5, 6, 12, 19] rfl))) | (refine sv1 F M (h := ?_); clear F a; intro a F) | refine pv1 (h := ?_) | (refine sv3 F M (h := ?_); clear M; intro w M) | (refine sv2 F M (h := ?_); clear F M a; intro nb a w F M) | refine pv3 (h := ?_) | (refine pv2 (h := ?_); intro nb) | ((first | refine svC F M (h := ?_) | refine svC0 F M (h := ?_) | refine pvC (h := ?_) | refine pvC0 (h := ?_)); (((refine acW (k := 27) (hop _) ?_); rintro u L' ⟨rfl, rfl⟩)); (first | refine ⟨rvsA, ?_⟩ | (clear F M a; intro a w F M) | (clear M; intro w M))) | (refine svK F (h := ?_); clear F a; intro a F) | refine svK0 F (h := ?_) | ((refine sx_guardb F rfl (fun hg => ?_) (fun hg => ?_)) <;> (rw [hg] at F; (try (exact no hg)))) | (refine pvF (h := ?_); intro nb) | refine pvK (h := ?_) | refine pvK0 (h := ?_) | (refine pv_nil ?_; intro a w F M; (try (replace F := F.filt [0, 1, 4, 5, 6, 12, 19] rfl))) | ((fail_if_success (with_reducible first | refine isW ?_ | refine isP ?_ | refine isL ?_)); (first | with_reducible refine sx_region ?_ | ((with_reducible refine isK ?_); (first | refine svT F (h := ?_) | refine svF F (h := ?_) | ((refine svB F (fun hc => ?_) (fun hc => ?_)) <;> (try (exact no hc))))) | ((with_reducible refine isD ?_); fail) | with_reducible refine wp_scope_straight ?_ | with_reducible refine wp_label ?_ | go_step))))
      all_goals (first | refine svEnd F M ?_ | refine svRet F M ?_)
      all_goals (rw [← q2]; exact ⟨_, _, rfl, ⟨rfl, rfl⟩, M.perms permsA⟩)
    · have d1 : decide ((x.toNat : Int) = (c.toNat : Int)) = false := by rw [decide_eq_false_iff_not]; exact fun h => hxc (u8_int.1 h)
      have d2 : ¬ ((x.toNat : Int) = (c.toNat : Int)) := fun h => hxc (u8_int.1 h)
      rw [decide_eq_false hxc, Bool.false_or] at q2
      (repeat' (first | (refine sx_nil ?_; (try (replace F := F.filt [0, 1, 4, 5, 6, 12, 19] rfl))) | (refine sv1 F M (h := ?_); clear F a; intro a F) | refine pv1 (h := ?_) | (refine sv3 F M (h := ?_); clear M; intro w M) | (refine sv2 F M (h := ?_); clear F M a; intro nb a w F M) | refine pv3 (h := ?_) | (refine pv2 (h := ?_); intro nb) | ((first | refine svC F M (h := ?_) | refine svC0 F M (h := ?_) | refine pvC (h := ?_) | refine pvC0 (h := ?_)); (((refine acW (k := 27) (hop _) ?_); rintro u L' ⟨rfl, rfl⟩)); (first | refine ⟨rvsA, ?_⟩ | (clear F M a; intro a w F M) | (clear M; intro w M))) | (refine svK F (h := ?_); clear F a; intro a F) | refine svK0 F (h := ?_) | ((refine sx_guardb F rfl (fun hg => ?_) (fun hg => ?_)) <;> (rw [hg] at F; (try (exact no hg)))) | (refine pvF (h := ?_); intro nb) | refine pvK (h := ?_) | refine pvK0 (h := ?_) | (refine pv_nil ?_; intro a w F M; (try (replace F := F.filt [0, 1, 4, 5, 6, 12, 19] rfl))) | ((fail_if_success (with_reducible first | refine isW ?_ | refine isP ?_ | refine isL ?_)); (first | with_reducible refine sx_region ?_ | ((with_reducible refine isK ?_); (first | refine svT F (h := ?_) | refine svF F (h := ?_) | ((refine svB F (fun hc => ?_) (fun hc => ?_)) <;> (try (exact no hc))))) | ((with_reducible refine isD ?_); fail) | with_reducible refine wp_scope_straight ?_ | with_reducible refine wp_label ?_ | go_step))))
      exact sv_again F M (j + 1) kpA permsA ⟨by omega, q2⟩ (by omega)
  · obtain rfl : j = S.length := by omega
    rw [List.drop_length] at q2
    have q2 : false = X := q2
    subst q2
    (repeat' (first | (refine sx_nil ?_; (try (replace F := F.filt [0, 1, 4, 5, 6, 12, 19] rfl))) | (refine sv1 F M (h := ?_); clear F a; intro a F) | refine pv1 (h := ?_) | (refine sv3 F M (h := ?_); clear M; intro w M) | (refine sv2 F M (h := ?_); clear F M a; intro nb a w F M) | refine pv3 (h := ?_) | (refine pv2 (h := ?_); intro nb) | ((first | refine svC F M (h := ?_) | refine svC0 F M (h := ?_) | refine pvC (h := ?_) | refine pvC0 (h := ?_)); (((refine acW (k := 27) (hop _) ?_); rintro u L' ⟨rfl, rfl⟩)); (first | refine ⟨rvsA, ?_⟩ | (clear F M a; intro a w F M) | (clear M; intro w M))) | (refine svK F (h := ?_); clear F a; intro a F) | refine svK0 F (h := ?_) | ((refine sx_guardb F rfl (fun hg => ?_) (fun hg => ?_)) <;> (rw [hg] at F; (try (exact no hg)))) | (refine pvF (h := ?_); intro nb) | refine pvK (h := ?_) | refine pvK0 (h := ?_) | (refine pv_nil ?_; intro a w F M; (try (replace F := F.filt [0, 1, 4, 5, 6, 12, 19] rfl))) | ((fail_if_success (with_reducible first | refine isW ?_ | refine isP ?_ | refine isL ?_)); (first | with_reducible refine sx_region ?_ | ((with_reducible refine isK ?_); (first | refine svT F (h := ?_) | refine svF F (h := ?_) | ((refine svB F (fun hc => ?_) (fun hc => ?_)) <;> (try (exact no hc))))) | ((with_reducible refine isD ?_); fail) | with_reducible refine wp_scope_straight ?_ | with_reducible refine wp_label ?_ | go_step))))
    all_goals (first | refine svEnd F M ?_ | refine svRet F M ?_)
    all_goals exact ⟨_, _, rfl, ⟨rfl, rfl⟩, M.perms permsA⟩
theorem uses_od {k : Int} {ds : List Od} (h : odsOf k = some ds) (d : Od) : usesM k d.ch = decide (d ∈ ds) := by
  unfold usesM
  rw [(odsS_some h).1]
  rcases ods_cases h with ⟨_, rfl⟩ | ⟨_, rfl⟩ | ⟨_, rfl⟩ | ⟨_, rfl⟩ | ⟨_, rfl⟩ | ⟨_, rfl⟩ | ⟨_, rfl⟩ <;> cases d <;> decide
theorem rindex_spec (n : Int) (b : Bool) (R : List Asn) : Spec 28 [.int .i64 n, .bool b] R fun u L' => u = .bool (decide (if b = true then 0 ≤ n ∧ n ≤ 65535 else n = 0)) ∧ L' = R := by
  (intro G w M; refine sx_enter (vs := ([.int .i64 n, .bool b] : List Value)) Tryz.func28 (n := 18) rfl rfl rfl rfl ?_; intro a F; (try simp only [List.cons_append, List.nil_append] at M))
  cases b
  · by_cases h0 : n = 0
    · have d0 : decide (n = 0) = true := by simpa using h0
      (repeat' (first | (refine sx_nil ?_; (try (replace F := F.filt [0, 1, 4] rfl))) | (refine sv1 F M (h := ?_); clear F a; intro a F) | refine pv1 (h := ?_) | (refine sv3 F M (h := ?_); clear M; intro w M) | (refine sv2 F M (h := ?_); clear F M a; intro nb a w F M) | refine pv3 (h := ?_) | (refine pv2 (h := ?_); intro nb) | ((first | refine svC F M (h := ?_) | refine svC0 F M (h := ?_) | refine pvC (h := ?_) | refine pvC0 (h := ?_)); (fail); (first | refine ⟨rvsA, ?_⟩ | (clear F M a; intro a w F M) | (clear M; intro w M))) | (refine svK F (h := ?_); clear F a; intro a F) | refine svK0 F (h := ?_) | ((refine sx_guardb F rfl (fun hg => ?_) (fun hg => ?_)) <;> (rw [hg] at F; (try (exact no hg)))) | (refine pvF (h := ?_); intro nb) | refine pvK (h := ?_) | refine pvK0 (h := ?_) | (refine pv_nil ?_; intro a w F M; (try (replace F := F.filt [0, 1, 4] rfl))) | ((fail_if_success (with_reducible first | refine isW ?_ | refine isP ?_ | refine isL ?_)); (first | with_reducible refine sx_region ?_ | ((with_reducible refine isK ?_); (first | refine svT F (h := ?_) | refine svF F (h := ?_) | ((refine svB F (fun hc => ?_) (fun hc => ?_)) <;> (try (exact no hc))))) | ((with_reducible refine isD ?_); fail) | with_reducible refine wp_scope_straight ?_ | with_reducible refine wp_label ?_ | go_step))))
      all_goals (first | refine svEnd F M ?_ | refine svRet F M ?_)
      all_goals (refine ⟨_, _, rfl, ⟨?_, rfl⟩, M.perms permsA⟩; simp [tupOf, h0])
    · have d0 : decide (n = 0) = false := by simpa using h0
      (repeat' (first | (refine sx_nil ?_; (try (replace F := F.filt [0, 1, 4] rfl))) | (refine sv1 F M (h := ?_); clear F a; intro a F) | refine pv1 (h := ?_) | (refine sv3 F M (h := ?_); clear M; intro w M) | (refine sv2 F M (h := ?_); clear F M a; intro nb a w F M) | refine pv3 (h := ?_) | (refine pv2 (h := ?_); intro nb) | ((first | refine svC F M (h := ?_) | refine svC0 F M (h := ?_) | refine pvC (h := ?_) | refine pvC0 (h := ?_)); (fail); (first | refine ⟨rvsA, ?_⟩ | (clear F M a; intro a w F M) | (clear M; intro w M))) | (refine svK F (h := ?_); clear F a; intro a F) | refine svK0 F (h := ?_) | ((refine sx_guardb F rfl (fun hg => ?_) (fun hg => ?_)) <;> (rw [hg] at F; (try (exact no hg)))) | (refine pvF (h := ?_); intro nb) | refine pvK (h := ?_) | refine pvK0 (h := ?_) | (refine pv_nil ?_; intro a w F M; (try (replace F := F.filt [0, 1, 4] rfl))) | ((fail_if_success (with_reducible first | refine isW ?_ | refine isP ?_ | refine isL ?_)); (first | with_reducible refine sx_region ?_ | ((with_reducible refine isK ?_); (first | refine svT F (h := ?_) | refine svF F (h := ?_) | ((refine svB F (fun hc => ?_) (fun hc => ?_)) <;> (try (exact no hc))))) | ((with_reducible refine isD ?_); fail) | with_reducible refine wp_scope_straight ?_ | with_reducible refine wp_label ?_ | go_step))))
      all_goals (first | refine svEnd F M ?_ | refine svRet F M ?_)
      all_goals (refine ⟨_, _, rfl, ⟨?_, rfl⟩, M.perms permsA⟩; simp [tupOf, h0])
  · by_cases h0 : n = 0
    · have d0 : decide (n = 0) = true := by simpa using h0
      (repeat' (first | (refine sx_nil ?_; (try (replace F := F.filt [0, 1, 4] rfl))) | (refine sv1 F M (h := ?_); clear F a; intro a F) | refine pv1 (h := ?_) | (refine sv3 F M (h := ?_); clear M; intro w M) | (refine sv2 F M (h := ?_); clear F M a; intro nb a w F M) | refine pv3 (h := ?_) | (refine pv2 (h := ?_); intro nb) | ((first | refine svC F M (h := ?_) | refine svC0 F M (h := ?_) | refine pvC (h := ?_) | refine pvC0 (h := ?_)); (fail); (first | refine ⟨rvsA, ?_⟩ | (clear F M a; intro a w F M) | (clear M; intro w M))) | (refine svK F (h := ?_); clear F a; intro a F) | refine svK0 F (h := ?_) | ((refine sx_guardb F rfl (fun hg => ?_) (fun hg => ?_)) <;> (rw [hg] at F; (try (exact no hg)))) | (refine pvF (h := ?_); intro nb) | refine pvK (h := ?_) | refine pvK0 (h := ?_) | (refine pv_nil ?_; intro a w F M; (try (replace F := F.filt [0, 1, 4] rfl))) | ((fail_if_success (with_reducible first | refine isW ?_ | refine isP ?_ | refine isL ?_)); (first | with_reducible refine sx_region ?_ | ((with_reducible refine isK ?_); (first | refine svT F (h := ?_) | refine svF F (h := ?_) | ((refine svB F (fun hc => ?_) (fun hc => ?_)) <;> (try (exact no hc))))) | ((with_reducible refine isD ?_); fail) | with_reducible refine wp_scope_straight ?_ | with_reducible refine wp_label ?_ | go_step))))
      all_goals (first | refine svEnd F M ?_ | refine svRet F M ?_)
      all_goals (refine ⟨_, _, rfl, ⟨?_, rfl⟩, M.perms permsA⟩; simp [tupOf, h0])
    · have d0 : decide (n = 0) = false := by simpa using h0
      by_cases h1 : 0 < n
      · have d1 : decide (0 < n) = true := by simpa using h1
        (repeat' (first | (refine sx_nil ?_; (try (replace F := F.filt [0, 1, 4] rfl))) | (refine sv1 F M (h := ?_); clear F a; intro a F) | refine pv1 (h := ?_) | (refine sv3 F M (h := ?_); clear M; intro w M) | (refine sv2 F M (h := ?_); clear F M a; intro nb a w F M) | refine pv3 (h := ?_) | (refine pv2 (h := ?_); intro nb) | ((first | refine svC F M (h := ?_) | refine svC0 F M (h := ?_) | refine pvC (h := ?_) | refine pvC0 (h := ?_)); (fail); (first | refine ⟨rvsA, ?_⟩ | (clear F M a; intro a w F M) | (clear M; intro w M))) | (refine svK F (h := ?_); clear F a; intro a F) | refine svK0 F (h := ?_) | ((refine sx_guardb F rfl (fun hg => ?_) (fun hg => ?_)) <;> (rw [hg] at F; (try (exact no hg)))) | (refine pvF (h := ?_); intro nb) | refine pvK (h := ?_) | refine pvK0 (h := ?_) | (refine pv_nil ?_; intro a w F M; (try (replace F := F.filt [0, 1, 4] rfl))) | ((fail_if_success (with_reducible first | refine isW ?_ | refine isP ?_ | refine isL ?_)); (first | with_reducible refine sx_region ?_ | ((with_reducible refine isK ?_); (first | refine svT F (h := ?_) | refine svF F (h := ?_) | ((refine svB F (fun hc => ?_) (fun hc => ?_)) <;> (try (exact no hc))))) | ((with_reducible refine isD ?_); fail) | with_reducible refine wp_scope_straight ?_ | with_reducible refine wp_label ?_ | go_step))))
        all_goals (first | refine svEnd F M ?_ | refine svRet F M ?_)
        all_goals (refine ⟨_, _, rfl, ⟨?_, rfl⟩, M.perms permsA⟩; simp [tupOf, h0, h1]; try omega)
      · have d1 : decide (0 < n) = false := by simpa using h1
        (repeat' (first | (refine sx_nil ?_; (try (replace F := F.filt [0, 1, 4] rfl))) | (refine sv1 F M (h := ?_); clear F a; intro a F) | refine pv1 (h := ?_) | (refine sv3 F M (h := ?_); clear M; intro w M) | (refine sv2 F M (h := ?_); clear F M a; intro nb a w F M) | refine pv3 (h := ?_) | (refine pv2 (h := ?_); intro nb) | ((first | refine svC F M (h := ?_) | refine svC0 F M (h := ?_) | refine pvC (h := ?_) | refine pvC0 (h := ?_)); (fail); (first | refine ⟨rvsA, ?_⟩ | (clear F M a; intro a w F M) | (clear M; intro w M))) | (refine svK F (h := ?_); clear F a; intro a F) | refine svK0 F (h := ?_) | ((refine sx_guardb F rfl (fun hg => ?_) (fun hg => ?_)) <;> (rw [hg] at F; (try (exact no hg)))) | (refine pvF (h := ?_); intro nb) | refine pvK (h := ?_) | refine pvK0 (h := ?_) | (refine pv_nil ?_; intro a w F M; (try (replace F := F.filt [0, 1, 4] rfl))) | ((fail_if_success (with_reducible first | refine isW ?_ | refine isP ?_ | refine isL ?_)); (first | with_reducible refine sx_region ?_ | ((with_reducible refine isK ?_); (first | refine svT F (h := ?_) | refine svF F (h := ?_) | ((refine svB F (fun hc => ?_) (fun hc => ?_)) <;> (try (exact no hc))))) | ((with_reducible refine isD ?_); fail) | with_reducible refine wp_scope_straight ?_ | with_reducible refine wp_label ?_ | go_step))))
        all_goals (first | refine svEnd F M ?_ | refine svRet F M ?_)
        all_goals (refine ⟨_, _, rfl, ⟨?_, rfl⟩, M.perms permsA⟩; simp [tupOf, h0, h1]; try omega)
end Go.Proofs.YtaggjikjohamjaaGreatDoor
end
section
namespace Go.Proofs.YtaggjikjohamjaaGreatDoor
open Go.RowKit Go.Maps
set_option linter.unusedVariables false
set_option maxRecDepth 100000
set_option linter.unusedSimpArgs false
set_option maxHeartbeats 8000000
theorem okM_rules (o : Opn) (ds : List Od) (h : odsOf o.k = some ds) : okM o = (decide (if usesM o.k 105 = true then 0 ≤ o.ix ∧ o.ix ≤ 65535 else o.ix = 0) && (decide (if usesM o.k 116 = true then 0 ≤ o.tg ∧ o.tg ≤ 65535 else o.tg = 0) && (decide (o.am = 0) || usesM o.k 97))) := by
  have u1 : usesM o.k 105 = _ := uses_od h .i
  have u2 : usesM o.k 116 = _ := uses_od h .t
  have u3 : usesM o.k 97 = _ := uses_od h .a
  rw [u1, u2, u3]
  unfold okM
  rw [h]
  simp only [decide_eq_true_eq, Bool.and_assoc]
  congr 1
  congr 1
  by_cases ha : Od.a ∈ ds <;> simp [ha]
theorem rvalid_spec (o : Opn) (R : List Asn) : Spec 15 [opV o] R fun u L' => u = .bool (okM o) ∧ L' = R := by
  have hop := fun R => rops_spec o.k R
  have hu1 := fun R => ruses_spec o.k 105 R
  have hu2 := fun R => ruses_spec o.k 116 R
  have hu3 := fun R => ruses_spec o.k 97 R
  have hi := fun R => rindex_spec o.ix (usesM o.k 105) R
  have ht := fun R => rindex_spec o.tg (usesM o.k 116) R
  cases hd : odsOf o.k with
  | none =>
    have e : okM o = false := by rw [okM, hd]
    have e2 : odsS o.k = [63] := by rw [odsS, hd]
    rw [e]
    rw [e2] at hop
    obtain ⟨k, ix, tg, am⟩ := o
    have dS : decide (([63] : List UInt8) ≠ [63]) = false := by decide
    (intro G w M; refine sx_enter (vs := ([opV ⟨k, ix, tg, am⟩] : List Value)) Tryz.func15 (n := 33) rfl rfl rfl rfl ?_; intro a F; (try simp only [List.cons_append, List.nil_append] at M))
    (repeat' (first | (refine sx_nil ?_; (try (replace F := F.filt [0, 1, 2] rfl))) | (refine sv1 F M (h := ?_); clear F a; intro a F) | refine pv1 (h := ?_) | (refine sv3 F M (h := ?_); clear M; intro w M) | (refine sv2 F M (h := ?_); clear F M a; intro nb a w F M) | refine pv3 (h := ?_) | (refine pv2 (h := ?_); intro nb) | ((first | refine svC F M (h := ?_) | refine svC0 F M (h := ?_) | refine pvC (h := ?_) | refine pvC0 (h := ?_)); (((refine acW (k := 27) (hop _) ?_); rintro u L' ⟨rfl, rfl⟩)); (first | refine ⟨rvsA, ?_⟩ | (clear F M a; intro a w F M) | (clear M; intro w M))) | (refine svK F (h := ?_); clear F a; intro a F) | refine svK0 F (h := ?_) | ((refine sx_guardb F rfl (fun hg => ?_) (fun hg => ?_)) <;> (rw [hg] at F; (try (exact no hg)))) | (refine pvF (h := ?_); intro nb) | refine pvK (h := ?_) | refine pvK0 (h := ?_) | (refine pv_nil ?_; intro a w F M; (try (replace F := F.filt [0, 1, 2] rfl))) | ((fail_if_success (with_reducible first | refine isW ?_ | refine isP ?_ | refine isL ?_)); (first | with_reducible refine sx_region ?_ | ((with_reducible refine isK ?_); (first | refine svT F (h := ?_) | refine svF F (h := ?_) | ((refine svB F (fun hc => ?_) (fun hc => ?_)) <;> (try (exact no hc))))) | ((with_reducible refine isD ?_); (first | (refine svDraw (id := 1) [2, 9, 10, 17, 18, 27] [] [(9, [5, 6]), (17, [13, 14])] [0, 1, 2, 3, 4, 5, 6, 7, 8, 9, 10, 11, 12, 13, 14, 15, 16, 17, 18, 19, 20, 21, 22, 23, 24, 25, 26, 27, 28, 29, 30] F M (h := ?_); clear F M a w))) | with_reducible refine wp_scope_straight ?_ | with_reducible refine wp_label ?_ | go_step))))
    try rw [dS]
    (repeat' (first | (refine sx_nil ?_; (try (replace F := F.filt [0, 1, 2] rfl))) | (refine sv1 F M (h := ?_); clear F a; intro a F) | refine pv1 (h := ?_) | (refine sv3 F M (h := ?_); clear M; intro w M) | (refine sv2 F M (h := ?_); clear F M a; intro nb a w F M) | refine pv3 (h := ?_) | (refine pv2 (h := ?_); intro nb) | ((first | refine svC F M (h := ?_) | refine svC0 F M (h := ?_) | refine pvC (h := ?_) | refine pvC0 (h := ?_)); (((refine acW (k := 27) (hop _) ?_); rintro u L' ⟨rfl, rfl⟩)); (first | refine ⟨rvsA, ?_⟩ | (clear F M a; intro a w F M) | (clear M; intro w M))) | (refine svK F (h := ?_); clear F a; intro a F) | refine svK0 F (h := ?_) | ((refine sx_guardb F rfl (fun hg => ?_) (fun hg => ?_)) <;> (rw [hg] at F; (try (exact no hg)))) | (refine pvF (h := ?_); intro nb) | refine pvK (h := ?_) | refine pvK0 (h := ?_) | (refine pv_nil ?_; intro a w F M; (try (replace F := F.filt [0, 1, 2] rfl))) | ((fail_if_success (with_reducible first | refine isW ?_ | refine isP ?_ | refine isL ?_)); (first | with_reducible refine sx_region ?_ | ((with_reducible refine isK ?_); (first | refine svT F (h := ?_) | refine svF F (h := ?_) | ((refine svB F (fun hc => ?_) (fun hc => ?_)) <;> (try (exact no hc))))) | ((with_reducible refine isD ?_); (first | (refine svDraw (id := 1) [2, 9, 10, 17, 18, 27] [] [(9, [5, 6]), (17, [13, 14])] [0, 1, 2, 3, 4, 5, 6, 7, 8, 9, 10, 11, 12, 13, 14, 15, 16, 17, 18, 19, 20, 21, 22, 23, 24, 25, 26, 27, 28, 29, 30] F M (h := ?_); clear F M a w))) | with_reducible refine wp_scope_straight ?_ | with_reducible refine wp_label ?_ | go_step))))
    all_goals (first | refine svEnd F M ?_ | refine svRet F M ?_)
    all_goals exact ⟨_, _, rfl, ⟨rfl, rfl⟩, M.perms permsA⟩
  | some ds =>
    rw [okM_rules o ds hd]
    have hne := (odsS_some hd).2
    have dS : decide (odsS o.k ≠ [63]) = true := by simpa using hne
    obtain ⟨k, ix, tg, am⟩ := o
    simp only at hop hu1 hu2 hu3 hi ht dS ⊢
    generalize decide (if usesM k 105 = true then 0 ≤ ix ∧ ix ≤ 65535 else ix = 0) = A at *
    generalize decide (if usesM k 116 = true then 0 ≤ tg ∧ tg ≤ 65535 else tg = 0) = B at *
    generalize usesM k 105 = U1 at *
    generalize usesM k 116 = U2 at *
    generalize usesM k 97 = U3 at *
    generalize odsS k = S at *
    generalize hD : decide (am = 0) = D
    (intro G w M; refine sx_enter (vs := ([opV ⟨k, ix, tg, am⟩] : List Value)) Tryz.func15 (n := 33) rfl rfl rfl rfl ?_; intro a F; (try simp only [List.cons_append, List.nil_append] at M))
    (repeat' (first | (refine sx_nil ?_; (try (replace F := F.filt [0, 1, 2] rfl))) | (refine sv1 F M (h := ?_); clear F a; intro a F) | refine pv1 (h := ?_) | (refine sv3 F M (h := ?_); clear M; intro w M) | (refine sv2 F M (h := ?_); clear F M a; intro nb a w F M) | refine pv3 (h := ?_) | (refine pv2 (h := ?_); intro nb) | ((first | refine svC F M (h := ?_) | refine svC0 F M (h := ?_) | refine pvC (h := ?_) | refine pvC0 (h := ?_)); ((first | ((refine acW (k := 27) (hop _) ?_); rintro u L' ⟨rfl, rfl⟩) | ((refine acW (k := 29) (hu1 _) ?_); rintro u L' ⟨rfl, rfl⟩) | ((refine acW (k := 29) (hu2 _) ?_); rintro u L' ⟨rfl, rfl⟩) | ((refine acW (k := 29) (hu3 _) ?_); rintro u L' ⟨rfl, rfl⟩) | ((refine acW (k := 28) (hi _) ?_); rintro u L' ⟨rfl, rfl⟩) | ((refine acW (k := 28) (ht _) ?_); rintro u L' ⟨rfl, rfl⟩))); (first | refine ⟨rvsA, ?_⟩ | (clear F M a; intro a w F M) | (clear M; intro w M))) | (refine svK F (h := ?_); clear F a; intro a F) | refine svK0 F (h := ?_) | ((refine sx_guardb F rfl (fun hg => ?_) (fun hg => ?_)) <;> (rw [hg] at F; (try (exact no hg)))) | (refine pvF (h := ?_); intro nb) | refine pvK (h := ?_) | refine pvK0 (h := ?_) | (refine pv_nil ?_; intro a w F M; (try (replace F := F.filt [0, 1, 2] rfl))) | ((fail_if_success (with_reducible first | refine isW ?_ | refine isP ?_ | refine isL ?_)); (first | with_reducible refine sx_region ?_ | ((with_reducible refine isK ?_); (first | refine svT F (h := ?_) | refine svF F (h := ?_) | ((refine svB F (fun hc => ?_) (fun hc => ?_)) <;> (try (exact no hc))))) | ((with_reducible refine isD ?_); (first | (refine svDraw (id := 1) [2, 9, 10, 17, 18, 27] [] [(9, [5, 6]), (17, [13, 14])] [0, 1, 2, 3, 4, 5, 6, 7, 8, 9, 10, 11, 12, 13, 14, 15, 16, 17, 18, 19, 20, 21, 22, 23, 24, 25, 26, 27, 28, 29, 30] F M (h := ?_); clear F M a w))) | with_reducible refine wp_scope_straight ?_ | with_reducible refine wp_label ?_ | go_step))))
    rw [dS]
    (repeat' (first | (refine sx_nil ?_; (try (replace F := F.filt [0, 1, 2] rfl))) | (refine sv1 F M (h := ?_); clear F a; intro a F) | refine pv1 (h := ?_) | (refine sv3 F M (h := ?_); clear M; intro w M) | (refine sv2 F M (h := ?_); clear F M a; intro nb a w F M) | refine pv3 (h := ?_) | (refine pv2 (h := ?_); intro nb) | ((first | refine svC F M (h := ?_) | refine svC0 F M (h := ?_) | refine pvC (h := ?_) | refine pvC0 (h := ?_)); ((first | ((refine acW (k := 27) (hop _) ?_); rintro u L' ⟨rfl, rfl⟩) | ((refine acW (k := 29) (hu1 _) ?_); rintro u L' ⟨rfl, rfl⟩) | ((refine acW (k := 29) (hu2 _) ?_); rintro u L' ⟨rfl, rfl⟩) | ((refine acW (k := 29) (hu3 _) ?_); rintro u L' ⟨rfl, rfl⟩) | ((refine acW (k := 28) (hi _) ?_); rintro u L' ⟨rfl, rfl⟩) | ((refine acW (k := 28) (ht _) ?_); rintro u L' ⟨rfl, rfl⟩))); (first | refine ⟨rvsA, ?_⟩ | (clear F M a; intro a w F M) | (clear M; intro w M))) | (refine svK F (h := ?_); clear F a; intro a F) | refine svK0 F (h := ?_) | ((refine sx_guardb F rfl (fun hg => ?_) (fun hg => ?_)) <;> (rw [hg] at F; (try (exact no hg)))) | (refine pvF (h := ?_); intro nb) | refine pvK (h := ?_) | refine pvK0 (h := ?_) | (refine pv_nil ?_; intro a w F M; (try (replace F := F.filt [0, 1, 2] rfl))) | ((fail_if_success (with_reducible first | refine isW ?_ | refine isP ?_ | refine isL ?_)); (first | with_reducible refine sx_region ?_ | ((with_reducible refine isK ?_); (first | refine svT F (h := ?_) | refine svF F (h := ?_) | ((refine svB F (fun hc => ?_) (fun hc => ?_)) <;> (try (exact no hc))))) | ((with_reducible refine isD ?_); (first | (refine svDraw (id := 1) [2, 9, 10, 17, 18, 27] [] [(9, [5, 6]), (17, [13, 14])] [0, 1, 2, 3, 4, 5, 6, 7, 8, 9, 10, 11, 12, 13, 14, 15, 16, 17, 18, 19, 20, 21, 22, 23, 24, 25, 26, 27, 28, 29, 30] F M (h := ?_); clear F M a w))) | with_reducible refine wp_scope_straight ?_ | with_reducible refine wp_label ?_ | go_step))))
    all_goals cases A
    all_goals (repeat' (first | (refine sx_nil ?_; (try (replace F := F.filt [0, 1, 2] rfl))) | (refine sv1 F M (h := ?_); clear F a; intro a F) | refine pv1 (h := ?_) | (refine sv3 F M (h := ?_); clear M; intro w M) | (refine sv2 F M (h := ?_); clear F M a; intro nb a w F M) | refine pv3 (h := ?_) | (refine pv2 (h := ?_); intro nb) | ((first | refine svC F M (h := ?_) | refine svC0 F M (h := ?_) | refine pvC (h := ?_) | refine pvC0 (h := ?_)); ((first | ((refine acW (k := 27) (hop _) ?_); rintro u L' ⟨rfl, rfl⟩) | ((refine acW (k := 29) (hu1 _) ?_); rintro u L' ⟨rfl, rfl⟩) | ((refine acW (k := 29) (hu2 _) ?_); rintro u L' ⟨rfl, rfl⟩) | ((refine acW (k := 29) (hu3 _) ?_); rintro u L' ⟨rfl, rfl⟩) | ((refine acW (k := 28) (hi _) ?_); rintro u L' ⟨rfl, rfl⟩) | ((refine acW (k := 28) (ht _) ?_); rintro u L' ⟨rfl, rfl⟩))); (first | refine ⟨rvsA, ?_⟩ | (clear F M a; intro a w F M) | (clear M; intro w M))) | (refine svK F (h := ?_); clear F a; intro a F) | refine svK0 F (h := ?_) | ((refine sx_guardb F rfl (fun hg => ?_) (fun hg => ?_)) <;> (rw [hg] at F; (try (exact no hg)))) | (refine pvF (h := ?_); intro nb) | refine pvK (h := ?_) | refine pvK0 (h := ?_) | (refine pv_nil ?_; intro a w F M; (try (replace F := F.filt [0, 1, 2] rfl))) | ((fail_if_success (with_reducible first | refine isW ?_ | refine isP ?_ | refine isL ?_)); (first | with_reducible refine sx_region ?_ | ((with_reducible refine isK ?_); (first | refine svT F (h := ?_) | refine svF F (h := ?_) | ((refine svB F (fun hc => ?_) (fun hc => ?_)) <;> (try (exact no hc))))) | ((with_reducible refine isD ?_); (first | (refine svDraw (id := 1) [2, 9, 10, 17, 18, 27] [] [(9, [5, 6]), (17, [13, 14])] [0, 1, 2, 3, 4, 5, 6, 7, 8, 9, 10, 11, 12, 13, 14, 15, 16, 17, 18, 19, 20, 21, 22, 23, 24, 25, 26, 27, 28, 29, 30] F M (h := ?_); clear F M a w))) | with_reducible refine wp_scope_straight ?_ | with_reducible refine wp_label ?_ | go_step))))
    all_goals cases B
    all_goals (repeat' (first | (refine sx_nil ?_; (try (replace F := F.filt [0, 1, 2] rfl))) | (refine sv1 F M (h := ?_); clear F a; intro a F) | refine pv1 (h := ?_) | (refine sv3 F M (h := ?_); clear M; intro w M) | (refine sv2 F M (h := ?_); clear F M a; intro nb a w F M) | refine pv3 (h := ?_) | (refine pv2 (h := ?_); intro nb) | ((first | refine svC F M (h := ?_) | refine svC0 F M (h := ?_) | refine pvC (h := ?_) | refine pvC0 (h := ?_)); ((first | ((refine acW (k := 27) (hop _) ?_); rintro u L' ⟨rfl, rfl⟩) | ((refine acW (k := 29) (hu1 _) ?_); rintro u L' ⟨rfl, rfl⟩) | ((refine acW (k := 29) (hu2 _) ?_); rintro u L' ⟨rfl, rfl⟩) | ((refine acW (k := 29) (hu3 _) ?_); rintro u L' ⟨rfl, rfl⟩) | ((refine acW (k := 28) (hi _) ?_); rintro u L' ⟨rfl, rfl⟩) | ((refine acW (k := 28) (ht _) ?_); rintro u L' ⟨rfl, rfl⟩))); (first | refine ⟨rvsA, ?_⟩ | (clear F M a; intro a w F M) | (clear M; intro w M))) | (refine svK F (h := ?_); clear F a; intro a F) | refine svK0 F (h := ?_) | ((refine sx_guardb F rfl (fun hg => ?_) (fun hg => ?_)) <;> (rw [hg] at F; (try (exact no hg)))) | (refine pvF (h := ?_); intro nb) | refine pvK (h := ?_) | refine pvK0 (h := ?_) | (refine pv_nil ?_; intro a w F M; (try (replace F := F.filt [0, 1, 2] rfl))) | ((fail_if_success (with_reducible first | refine isW ?_ | refine isP ?_ | refine isL ?_)); (first | with_reducible refine sx_region ?_ | ((with_reducible refine isK ?_); (first | refine svT F (h := ?_) | refine svF F (h := ?_) | ((refine svB F (fun hc => ?_) (fun hc => ?_)) <;> (try (exact no hc))))) | ((with_reducible refine isD ?_); (first | (refine svDraw (id := 1) [2, 9, 10, 17, 18, 27] [] [(9, [5, 6]), (17, [13, 14])] [0, 1, 2, 3, 4, 5, 6, 7, 8, 9, 10, 11, 12, 13, 14, 15, 16, 17, 18, 19, 20, 21, 22, 23, 24, 25, 26, 27, 28, 29, 30] F M (h := ?_); clear F M a w))) | with_reducible refine wp_scope_straight ?_ | with_reducible refine wp_label ?_ | go_step))))
    all_goals (try rw [hD])
    all_goals cases D
    all_goals (repeat' (first | (refine sx_nil ?_; (try (replace F := F.filt [0, 1, 2] rfl))) | (refine sv1 F M (h := ?_); clear F a; intro a F) | refine pv1 (h := ?_) | (refine sv3 F M (h := ?_); clear M; intro w M) | (refine sv2 F M (h := ?_); clear F M a; intro nb a w F M) | refine pv3 (h := ?_) | (refine pv2 (h := ?_); intro nb) | ((first | refine svC F M (h := ?_) | refine svC0 F M (h := ?_) | refine pvC (h := ?_) | refine pvC0 (h := ?_)); ((first | ((refine acW (k := 27) (hop _) ?_); rintro u L' ⟨rfl, rfl⟩) | ((refine acW (k := 29) (hu1 _) ?_); rintro u L' ⟨rfl, rfl⟩) | ((refine acW (k := 29) (hu2 _) ?_); rintro u L' ⟨rfl, rfl⟩) | ((refine acW (k := 29) (hu3 _) ?_); rintro u L' ⟨rfl, rfl⟩) | ((refine acW (k := 28) (hi _) ?_); rintro u L' ⟨rfl, rfl⟩) | ((refine acW (k := 28) (ht _) ?_); rintro u L' ⟨rfl, rfl⟩))); (first | refine ⟨rvsA, ?_⟩ | (clear F M a; intro a w F M) | (clear M; intro w M))) | (refine svK F (h := ?_); clear F a; intro a F) | refine svK0 F (h := ?_) | ((refine sx_guardb F rfl (fun hg => ?_) (fun hg => ?_)) <;> (rw [hg] at F; (try (exact no hg)))) | (refine pvF (h := ?_); intro nb) | refine pvK (h := ?_) | refine pvK0 (h := ?_) | (refine pv_nil ?_; intro a w F M; (try (replace F := F.filt [0, 1, 2] rfl))) | ((fail_if_success (with_reducible first | refine isW ?_ | refine isP ?_ | refine isL ?_)); (first | with_reducible refine sx_region ?_ | ((with_reducible refine isK ?_); (first | refine svT F (h := ?_) | refine svF F (h := ?_) | ((refine svB F (fun hc => ?_) (fun hc => ?_)) <;> (try (exact no hc))))) | ((with_reducible refine isD ?_); (first | (refine svDraw (id := 1) [2, 9, 10, 17, 18, 27] [] [(9, [5, 6]), (17, [13, 14])] [0, 1, 2, 3, 4, 5, 6, 7, 8, 9, 10, 11, 12, 13, 14, 15, 16, 17, 18, 19, 20, 21, 22, 23, 24, 25, 26, 27, 28, 29, 30] F M (h := ?_); clear F M a w))) | with_reducible refine wp_scope_straight ?_ | with_reducible refine wp_label ?_ | go_step))))
    all_goals (first | refine svEnd F M ?_ | refine svRet F M ?_)
    all_goals exact ⟨_, _, rfl, ⟨rfl, rfl⟩, M.perms permsA⟩
end Go.Proofs.YtaggjikjohamjaaGreatDoor
end
section
namespace Go.Proofs.YtaggjikjohamjaaGreatDoor
open Go.RowKit
set_option linter.unusedVariables false
set_option maxRecDepth 100000
set_option linter.unusedSimpArgs false
set_option maxHeartbeats 1000000
/-- An act with more calls deferred. -/
def sh (D : List Deferred) (a : Act) : Act := { a with defers := a.defers ++ D }
theorem sh_put (D : List Deferred) (a : Act) (d : Option Tmp) (v : Value) : (sh D a).put d v = sh D (a.put d v) := by cases d <;> rfl
section
variable {P : Program} {ops : Array Oper} {Q : Exit → Act → World → Prop} {D : List Deferred}
theorem upon_sh {o : Oper} {a : Act} {next : Act → World → Prop} {r : Result Next} (h : o.upon P a (fun a w => next (sh D a) w) (fun e a w => Q e (sh D a) w) r) : o.upon P (sh D a) next Q r := by
  cases r with
  | ok x w =>
    cases x <;> simp only [Oper.upon, sh_put] at h ⊢ <;> first | exact h | skip
    · exact h.mono fun e w' he => by cases e <;> first | exact he | (obtain ⟨a', w'', h'⟩ := he; exact ⟨_, _, h'⟩)
    · rename_i d
      have e : ({ sh D a with defers := d :: (sh D a).defers } : Act) = sh D { a with defers := d :: a.defers } := rfl
      rw [e, sh_put]; exact h
  | halt x w => cases x <;> simp only [Oper.upon] at h ⊢ <;> exact h
theorem wp_sh {o : Oper} {a : Act} {w : World} {next : Act → World → Prop} (h : o.wp P a w (fun a w => next (sh D a) w) (fun e a w => Q e (sh D a) w)) : o.wp P (sh D a) w next Q := upon_sh h
theorem outs_sh (h : LetsOut fun e a w => Q e (sh D a) w) : LetsOut Q := by obtain ⟨a, w, h⟩ := h; exact ⟨_, w, h⟩
theorem wpList_sh : ∀ (rest : List Oper) (a : Act) (w : World), wpList P ops (fun e a w => Q e (sh D a) w) rest a w → wpList P ops Q rest (sh D a) w
  | [], a, w, h => h
  | o :: rest, a, w, h => by
    simp only [wpList] at h ⊢
    have e : yielded ops (sh D a).tmps = yielded ops a.tmps := rfl
    rw [e]
    split at h
    · rename_i hw
      rw [if_pos hw]
      rcases h with h | ⟨h1, h2⟩
      · exact .inl (wp_sh (Oper.wp_mono (fun a w h => wpList_sh rest a w h) h))
      · exact .inr ⟨h1, outs_sh h2⟩
    · rename_i hw
      rw [if_neg hw, sh_put]
      exact wpList_sh rest _ w h
theorem regL_sh {id : Nat} {os : List Oper} {a : Act} {w : World} (h : wpList P os.toArray (fun e a w => Q e (sh D a) w) os a w) : (Code.region id os.toArray false).wp P Q (sh D a) w := wp_region_lit (wpList_sh os a w h)
end
section
variable {ops : Array Oper} {Q : Exit → Act → World → Prop} {D : List Deferred} {a : Act} {w : World} {n : Nat} {l : List (Nat × Value)} {L : List Asn}
end
end Go.Proofs.YtaggjikjohamjaaGreatDoor
end
section
namespace Go.Proofs.YtaggjikjohamjaaGreatDoor
open Go.RowKit
set_option linter.unusedVariables false
set_option maxRecDepth 100000
set_option linter.unusedSimpArgs false
set_option maxHeartbeats 1000000
/-- A block that holds an object. -/
def obA (b : Nat) (o : Obj) : Asn := fun s w => s = [b] ∧ w.heap[b]? = some o
section
variable {w : World} {L : List Asn}
theorem ok_ob {b : Nat} {o : Obj} (h : w.heap[b]? = some o) : Ok (obA b o) [b] w :=
  ⟨fun x hx => (show x = b by simpa using hx) ▸ (Array.getElem?_eq_some_iff.1 h).1, fun w' hw => ⟨rfl, (hw.2.2.2 b (by simp)).trans h⟩⟩
theorem Mem.ob {b : Nat} {o : Obj} (M : Mem w (obA b o :: L)) : w.heap[b]? = some o := by
  obtain ⟨s, hs, _⟩ := M.head
  exact hs.2
theorem Mem.obNew (M : Mem w L) (o : Obj) : Mem (w.alloc o) (obA w.heap.size o :: L) :=
  M.new ⟨rfl, rfl, rfl, by simp, fun k hk _ => (((Below.refl _ _).alloc (Nat.le_refl _) _).block k hk)⟩ ⟨[w.heap.size], ok_ob (World.alloc_heap_new w o), by simp⟩
theorem Mem.obSet {b : Nat} {o : Obj} (M : Mem w (obA b o :: L)) (o' : Obj) : Mem (w.putObj b o') (obA b o' :: L) := M.change fun s hs => by
  obtain ⟨rfl, h⟩ := hs.now
  exact ⟨⟨rfl, rfl, rfl, by simp, fun k hk hb => World.putObj_heap_other (by simpa using hb)⟩, [b], ok_ob (World.putObj_heap_same (Array.getElem?_eq_some_iff.1 h).1), fun x hx => .inl hx⟩
end
/-- The fence that lets all in; in a round, or not. -/
def FR (ro : Option Nat) : Fence := { Fence.wide with round := ro }
section
variable {ro : Option Nat} {ops : Array Oper} {Q : Exit → Act → World → Prop} {rest : List Oper} {o : Oper} {a : Act} {w : World} {n : Nat} {l : List (Nat × Value)} {L : List Asn} {C : Value → List Asn → Prop}
theorem li_upon {next : Act → World → Prop} {r : Result Next} {Φ : Value → World → Prop} (h : UponD Tryz.prog Φ r) (hn : ∀ v w', Φ v w' → next (a.put o.dst v) w') : o.uponIn (FR ro) 0 Tryz.prog a next Q r := by
  cases r with
  | ok x w =>
    cases x <;> simp only [UponD] at h
    case value u => exact hn _ _ h
    case skip => exact hn _ _ h
    case enter f args =>
      refine ⟨(fun h => by cases h), ?_⟩
      have hc : CallsIn Fence.wide (0 - 1) Tryz.prog f args w fun e w'' => ∃ v, e = .returned v ∧ Φ v w'' := callsIn_wide.2 h
      refine ⟨trivial, fun cs hr => ?_⟩
      obtain ⟨e, w', fr, hR, hx⟩ := hc.2 cs (room_wide _)
      obtain ⟨v, rfl, hv⟩ := hR
      exact ⟨_, w', fr, hn v w' hv, hx⟩
  | halt x w => cases h
theorem li_act (F : Fr a n l) (M : Mem w L) (hw : Wanted o ops l = some true) (hnd : ∀ c, o.op ≠ .defer c) {d : Nat} (hd : o.dst = some d) (hn : Nat.ble (d + 1) n = true)
    (h : AC o l L n (fun v L' => ∀ a' w', Fr a' n ((d, v) :: l) → Mem w' L' → wpListIn (FR ro) 0 Tryz.prog ops Q rest a' w')) : wpListIn (FR ro) 0 Tryz.prog ops Q (o :: rest) a w := by
  unfold wpListIn
  rw [if_pos (F.wanted hw)]
  refine ⟨fun _ _ => trivial, ?_⟩
  rw [Oper.semAt_eq _ _ _ hnd]
  exact li_upon (h [] a w F (by simpa using M)) fun v w' ⟨L', hC, hM⟩ => by rw [hd]; exact hC _ _ (F.put d v hn) (by simpa using hM)
theorem li_act0 (F : Fr a n l) (M : Mem w L) (hw : Wanted o ops l = some true) (hnd : ∀ c, o.op ≠ .defer c) (hd : o.dst = none)
    (h : AC o l L n (fun v L' => ∀ w', Mem w' L' → wpListIn (FR ro) 0 Tryz.prog ops Q rest a w')) : wpListIn (FR ro) 0 Tryz.prog ops Q (o :: rest) a w := by
  unfold wpListIn
  rw [if_pos (F.wanted hw)]
  refine ⟨fun _ _ => trivial, ?_⟩
  rw [Oper.semAt_eq _ _ _ hnd]
  exact li_upon (h [] a w F (by simpa using M)) fun v w' ⟨L', hC, hM⟩ => by rw [hd]; exact hC _ (by simpa using hM)
theorem li_nil (h : Q .normal a w) : wpListIn (FR ro) 0 Tryz.prog ops Q [] a w := h
theorem lv1 (F : Fr a n l) (M : Mem w L) {d : Nat} {v : Value} (h : ∀ a', Fr a' n ((d, v) :: l) → wpListIn (FR ro) 0 Tryz.prog ops Q rest a' w)
    (hw : Wanted o ops l = some true := by exact rfl) (hd : o.dst = some d := by exact rfl) (hn : Nat.ble (d + 1) n = true := by exact rfl) (hr : RT o l L n v := by exact rtA) (hnd : ∀ c, o.op ≠ .defer c := by (intro c h; cases h)) : wpListIn (FR ro) 0 Tryz.prog ops Q (o :: rest) a w := by
  unfold wpListIn
  rw [if_pos (F.wanted hw)]
  refine ⟨fun _ _ => trivial, ?_⟩
  rw [Oper.semAt_eq _ _ _ hnd, hr a w F M]
  show wpListIn (FR ro) 0 Tryz.prog ops Q rest (a.put o.dst v) w
  rw [hd]
  exact h _ (F.put d v hn)
theorem lv2 (F : Fr a n l) (M : Mem w L) {d : Nat} {fv : Nat → Value} {fL : Nat → List Asn} (h : ∀ b a' w', Fr a' n ((d, fv b) :: l) → Mem w' (fL b) → wpListIn (FR ro) 0 Tryz.prog ops Q rest a' w')
    (hw : Wanted o ops l = some true := by exact rfl) (hd : o.dst = some d := by exact rfl) (hn : Nat.ble (d + 1) n = true := by exact rfl)
    (s : ∀ C : Value → List Asn → Prop, (∀ b, C (fv b) (fL b)) → AC o l L n C := by (intro C h; exact acA h)) (hnd : ∀ c, o.op ≠ .defer c := by (intro c h; cases h)) : wpListIn (FR ro) 0 Tryz.prog ops Q (o :: rest) a w := li_act F M hw hnd hd hn (s _ h)
theorem lv3 (F : Fr a n l) (M : Mem w L) {v : Value} {L' : List Asn} (h : ∀ w', Mem w' L' → wpListIn (FR ro) 0 Tryz.prog ops Q rest a w')
    (hw : Wanted o ops l = some true := by exact rfl) (hd : o.dst = none := by exact rfl)
    (s : ∀ C : Value → List Asn → Prop, C v L' → AC o l L n C := by (intro C h; exact acB h)) (hnd : ∀ c, o.op ≠ .defer c := by (intro c h; cases h)) : wpListIn (FR ro) 0 Tryz.prog ops Q (o :: rest) a w := li_act0 F M hw hnd hd (s _ h)
theorem lvC (F : Fr a n l) (M : Mem w L) {d : Nat} (h : AC o l L n (fun v L' => ∀ a' w', Fr a' n ((d, v) :: l) → Mem w' L' → wpListIn (FR ro) 0 Tryz.prog ops Q rest a' w')) (hw : Wanted o ops l = some true := by exact rfl) (hd : o.dst = some d := by exact rfl) (hn : Nat.ble (d + 1) n = true := by exact rfl) (hnd : ∀ c, o.op ≠ .defer c := by (intro c h; cases h)) : wpListIn (FR ro) 0 Tryz.prog ops Q (o :: rest) a w := li_act F M hw hnd hd hn h
theorem lvK (F : Fr a n l) {d : Nat} (h : ∀ a', Fr a' n ((d, undef) :: l) → wpListIn (FR ro) 0 Tryz.prog ops Q rest a' w) (hw : Wanted o ops l = some false := by exact rfl) (hd : o.dst = some d := by exact rfl) (hn : Nat.ble (d + 1) n = true := by exact rfl) : wpListIn (FR ro) 0 Tryz.prog ops Q (o :: rest) a w := by
  unfold wpListIn
  rw [if_neg (by rw [F.wanted hw]; decide)]
  refine ⟨fun _ _ => trivial, ?_⟩
  rw [hd]
  exact h _ (F.put d undef hn)
theorem lvG (F : Fr a n l) {b : Bool} (hg : guardOf o ops l = some (.bool b)) (h1 : b = true → wpListIn (FR ro) 0 Tryz.prog ops Q (o :: rest) a w) (h2 : b = false → wpListIn (FR ro) 0 Tryz.prog ops Q (o :: rest) a w) : wpListIn (FR ro) 0 Tryz.prog ops Q (o :: rest) a w := by
  cases b
  · exact h2 rfl
  · exact h1 rfl
theorem isI (h : wpListIn (FR ro) 0 Tryz.prog ops Q rest a w) : wpListIn (FR ro) 0 Tryz.prog ops Q rest a w := h
theorem reg_in {id : Nat} {os : List Oper} (h : wpListIn (FR ro) 0 Tryz.prog os.toArray Q os a w) : (Code.region id os.toArray false).wpIn (FR ro) 0 Tryz.prog Q a w := wpIn_region_lit h
/-- A region, walked so that yield may be called in it. -/
theorem reg_out {id : Nat} {os : List Oper} (h : wpListIn (FR none) 0 Tryz.prog os.toArray Q os a w) : (Code.region id os.toArray false).wp Tryz.prog Q a w := (wpIn_wide (n := 0)).1 (wpIn_region_lit (F := Fence.wide) h)
/-- The record of a loop. -/
def lpR (fn : FuncId) (tmps : Array Value) (p : Nat) (asg bod : Code) (D : Nat) (st : LoopState) : Loop := { state := st, pending := none, fn, tmps, params := #[p], assign := asg, body := bod, defers := D }
/-- A round's contract: from what memory holds to what it holds, at a value. -/
def RoundC (lp : Nat) (fn : FuncId) (tmps : Array Value) (p : Nat) (asg bod : Code) (x : Value) (L L2 : List Asn) : Prop :=
  ∀ G w, Mem w (L ++ G) → RoundIn Fence.wide 0 Tryz.prog lp fn (tmps.setIfInBounds p x) asg bod w fun e w' => e = .returned (.bool true) ∧ Mem w' (L2 ++ G)
/-- A call of yield. -/
theorem lvY (F : Fr a n l) (M : Mem w L) {d : Nat} {fo : Operand} {xs : Array Operand} {ats : Array TypeId} {lp : Nat} {x : Value} {fn : FuncId} {tmps : Array Value} {p : Nat} {asg bod : Code} {D : Nat} {L1 L2 R : List Asn}
    (hR : RoundC lp fn tmps p asg bod x (obA lp (.loop (lpR fn tmps p asg bod D .ready)) :: L1) L2) (hp : Perms L ((obA lp (.loop (lpR fn tmps p asg bod D .ready)) :: L1) ++ R))
    (h : ∀ a' w', Fr a' n ((d, .bool true) :: l) → Mem w' (L2 ++ R) → wpListIn (FR none) 0 Tryz.prog ops Q rest a' w')
    (ho : o.op = .call { callee := .value fo, args := xs, argTypes := ats } := by exact rfl) (hf : evl l fo = some (.func (.yield lp) #[] #[]) := by exact rfl) (hx : evls l xs.toList = some [x] := by exact rfl)
    (hw : Wanted o ops l = some true := by exact rfl) (hd : o.dst = some d := by exact rfl) (hn : Nat.ble (d + 1) n = true := by exact rfl) : wpListIn (FR none) 0 Tryz.prog ops Q (o :: rest) a w := by
  unfold wpListIn
  rw [if_pos (F.wanted hw)]
  refine ⟨fun _ _ => trivial, ?_⟩
  rw [Oper.semAt_eq _ _ _ (by rw [ho]; intro c h; cases h)]
  have M2 := M.perms hp
  have hl := Mem.ob (show Mem w (obA lp (.loop (lpR fn tmps p asg bod D .ready)) :: (L1 ++ R)) from M2)
  have e1 : xs.map a.eval = [x].toArray := by have := F.evals hx; apply Array.toList_inj.1; simpa using this
  have hy := run_yield (P := Tryz.prog) (args := #[x]) hl rfl
  have hrun : (execOp a.eval o).run Tryz.prog w = .ok (.round lp fn (tmps.setIfInBounds p x) asg bod) w := by
    unfold execOp
    rw [ho]
    rw [Sem.run_bind]
    simp only [resolve, F.eval hf, Deferred.ofValue, Sem.run_pure, Result.andThen_ok, invoke, e1]
    simpa [lpR] using hy
  rw [hrun, Oper.uponIn_round]
  refine ⟨(fun h => by cases h), ?_⟩
  refine RoundIn.mono (hR R w M2) ?_
  rintro e w' ⟨rfl, M3⟩
  rw [hd]
  exact h _ _ (F.put d _ hn) M3
theorem round_mk {lp : Nat} {fn : FuncId} {a0 : Act} {p D : Nat} {asg bod : Code} {x : Value} {L1 L2 : List Asn} (F0 : Fr a0 n l) (hp : Nat.ble (p + 1) n = true)
    (h : ∀ G a w, Fr a n ((p, x) :: l) → Mem w (obA lp (.loop (lpR fn a0.tmps p asg bod D .ready)) :: (L1 ++ G)) → asg.wpIn (FR (some lp)) 0 Tryz.prog (Exit.then (fun a1 w1 => ∃ G1, Mem w1 (obA lp (.loop (lpR fn a0.tmps p asg bod D .ready)) :: G1) ∧ ∀ w2, Mem w2 (obA lp (.loop (lpR fn a0.tmps p asg bod D .busy)) :: G1) →
      bod.wpIn (FR (some lp)) 0 Tryz.prog (fun e a w => e = .normal ∧ Mem w (obA lp (.loop (lpR fn a0.tmps p asg bod D .busy)) :: (L2 ++ G))) a1 w2) (fun _ _ _ => False)) a w) :
    RoundC lp fn a0.tmps p asg bod x (obA lp (.loop (lpR fn a0.tmps p asg bod D .ready)) :: L1) (obA lp (.loop (lpR fn a0.tmps p asg bod D .ready)) :: L2) := fun G w M => by
  refine roundIn_of_wpIn trivial ?_
  have hF := F0.put p x hp
  have e : (a0.put (some p) x) = { tmps := a0.tmps.setIfInBounds p x, defers := [] } := by
    have := F0.ds
    obtain ⟨t, ds⟩ := a0
    simp only at this
    subst this; rfl
  rw [e] at hF
  refine wpIn_mono (h G _ w hF M) ?_
  intro e a1 w1 hq
  cases e with
  | normal =>
    obtain ⟨G1, M1, hb⟩ := hq
    refine ⟨_, run_beginRound (Mem.ob M1) rfl, ?_⟩
    refine wpIn_mono (hb _ (M1.obSet _)) ?_
    rintro e a2 w2 ⟨rfl, M2⟩
    exact ⟨_, _, run_endRound none (Mem.ob M2), rfl, M2.obSet _⟩
  | _ => exact hq.elim
/-- A range over a function. -/
theorem rf_range {g : Operand} {p : Nat} {asg bod : Code} {k : FuncId} {caps : Array Value} (F : Fr a n l) (M : Mem w L) (hg : evl l g = some (.func (.func k) #[] caps)) (hfk : FK k) {C : List Asn → Prop}
    (hit : ∀ (fn : FuncId) lp D, Spec k (.func (.yield lp) #[] #[] :: caps.toList) (obA lp (.loop (lpR fn a.tmps p asg bod D .ready)) :: L) fun _ L' => ∃ L2, C L2 ∧ L' = obA lp (.loop (lpR fn a.tmps p asg bod D .ready)) :: L2)
    (h : ∀ D w' L2, C L2 → Mem w' (obA D (.deferred (some [])) :: L2) → Q .normal (sh [{ target := .collected D, args := #[] }] a) w') : (Code.rangeFunc g #[p] asg bod).wp Tryz.prog Q a w := by
  refine (wpIn_wide (n := 0)).1 (wpIn_rangeFunc (F := Fence.wide) ?_)
  intro fn _
  have M1 := Mem.back (R := []) (show Mem _ (obA w.heap.size (.deferred (some [])) :: (L ++ [])) by rw [List.append_nil]; exact M.obNew (.deferred (some [])))
  have M2 := M1.obNew (.loop (lpR fn a.tmps p asg bod w.heap.size .ready))
  have hsz : (w.alloc (.deferred (some []))).heap.size = w.heap.size + 1 := by simp
  rw [hsz] at M2
  obtain ⟨W1, hW1⟩ : ∃ W1, (w.alloc (.deferred (some []))).alloc (.loop (lpR fn a.tmps p asg bod w.heap.size .ready)) = W1 := ⟨_, rfl⟩
  have hent : (Instr.enterLoop fn a.tmps #[p] asg bod Fence.wide.round).run Tryz.prog w = .ok (w.heap.size + 1, [{ target := .collected w.heap.size, args := #[] }]) W1 := by rw [← hW1]; exact run_enterLoop_outer _ _ _ _ _
  rw [hW1] at M2
  refine ⟨w.heap.size + 1, [{ target := .collected w.heap.size, args := #[] }], W1, { target := .fn (.func k) caps, args := #[.func (.yield (w.heap.size + 1)) #[] #[]] }, W1, k, #[.func (.yield (w.heap.size + 1)) #[] #[]] ++ caps, W1, hent, ?_, fun _ _ => trivial, ?_, (fun h => by cases h), ?_⟩
  · simp only [rangeCall, resolve, F.eval hg, Deferred.ofValue]
    simp [Act.eval]
  · have := @run_callFunc k hfk (#[.func (.yield (w.heap.size + 1)) #[] #[]] ++ caps) W1
    simpa [invoke] using this
  · refine callsIn_wide.2 ?_
    have e : (#[.func (.yield (w.heap.size + 1)) #[] #[]] ++ caps : Array Value) = (Value.func (.yield (w.heap.size + 1)) #[] #[] :: caps.toList).toArray := by
      apply Array.toList_inj.1; simp
    rw [e]
    refine (hit fn (w.heap.size + 1) w.heap.size [obA w.heap.size (.deferred (some []))] W1 M2).mono ?_
    rintro e w3 ⟨v, L', rfl, ⟨L2, hC, rfl⟩, M4⟩
    have M4' : Mem w3 (obA (w.heap.size + 1) (.loop (lpR fn a.tmps p asg bod w.heap.size .ready)) :: (L2 ++ [obA w.heap.size (.deferred (some []))])) := M4
    refine ⟨none, _, run_endLoop (Mem.ob M4') (by simp [lpR]), ?_⟩
    have M5 := Mem.front (R := []) (M4'.obSet (.loop { lpR fn a.tmps p asg bod w.heap.size .ready with state := .exhausted })).drop
    rw [List.append_nil] at M5
    have e2 : ({ a with defers := [{ target := .collected w.heap.size, args := #[] }] ++ a.defers } : Act) = sh [{ target := .collected w.heap.size, args := #[] }] a := by
      have := F.ds
      obtain ⟨t, ds⟩ := a
      simp only at this
      subst this; rfl
    show Q .normal { a with defers := [{ target := .collected w.heap.size, args := #[] }] ++ a.defers } _
    rw [e2]
    exact h _ _ L2 hC M5
end
section
variable {ops : Array Oper} {Q : Exit → Act → World → Prop} {D : List Deferred} {a : Act} {w : World} {n : Nat} {l : List (Nat × Value)} {L : List Asn}
/-- What a function is entered with, where it ranges over a function. -/
theorem sx_enterM {f : FuncId} {fn : Func} {c : Code} {vs : List Value} {w : World} {R : Ending → World → Prop} (hf : Tryz.prog.funcs[f]? = some fn) (hb : fn.body = some c) {n k : Nat} (hn : fn.ntmps = n) (hle : Nat.ble vs.length n = true) (hk0 : n - vs.length = k)
    (h : ∀ a, Fr a n (initL 0 vs) → c.wp Tryz.prog (bodyPostM Fence.wide 0 Tryz.prog fn R) a w) : Calls Tryz.prog f vs.toArray w R := by
  have hk : vs.length + k = n := by have := Nat.le_of_ble_eq_true hle; omega
  subst hn
  refine callsIn_wide.1 (callsIn_of_wp_marks (n := 0) hf hb trivial ((wpIn_wide (n := 0)).2 (h _ ?_)))
  have := Fr.init vs k
  rw [hk] at this
  rw [show fn.ntmps - vs.toArray.size = k by simp; omega]
  exact this
/-- The end of a function behind a range over a function: nothing was deferred in its rounds. -/
theorem end_col {fn : Func} {R : Ending → World → Prop} {b : Nat} {rs : List ResultVar} {vs : List Value} (F : Fr a n l) (M : Mem w (obA b (.deferred (some [])) :: L)) (hR : ∀ w', Mem w' L → R (.returned (tupOf vs)) w') (hf : fn.results = rs.toArray := by exact rfl) (hr : Ress (obA b (.deferred none) :: L) l rs vs := by (focus ((repeat (first | exact Ress.nil | (apply Ress.cons) | (apply Res.tmp; exact rfl) | (apply Res.agg; (exact rfl); (exact inferInstance); (exact pullA); (exact rfl)) | (apply Res.one; (exact rfl); (exact inferInstance); (exact pullA); (exact rfl)))); done))) : bodyPostM Fence.wide 0 Tryz.prog fn R .ret (sh [{ target := .collected b, args := #[] }] a) w := by
  have e : (sh [({ target := .collected b, args := #[] } : Deferred)] a).defers = [{ target := .collected b, args := #[] }] := by simp [sh, F.ds]
  show LeavesInM _ _ _ _ _ _ _ _ _
  rw [e]
  have M2 := M.obSet (.deferred none)
  exact ⟨by simp, .inl ⟨b, _, rfl, run_takeDeferred (Mem.ob M), ⟨_, (show (results fn a.tmps).run Tryz.prog _ = _ from hr.run F M2 hf), hR _ M2.drop⟩⟩⟩
end
end Go.Proofs.YtaggjikjohamjaaGreatDoor
end
section
namespace Go.Proofs.YtaggjikjohamjaaGreatDoor
open Go.RowKit Go.Maps
set_option linter.unusedVariables false
set_option maxRecDepth 100000
set_option linter.unusedSimpArgs false
set_option maxHeartbeats 8000000
theorem operations_spec (h : SlH) (L : List Asn) : Spec 17 [sl h] L fun u L' => ∃ b, u = .func (.func 31) #[] #[ptr b] ∧ L' = pt b [sl h] 24 :: L := by
  (intro G w M; refine sx_enter (vs := ([sl h] : List Value)) Tryz.func17 (n := 4) rfl rfl rfl rfl ?_; intro a F; (try simp only [List.cons_append, List.nil_append] at M))
  (repeat' (first | (refine sx_nil ?_; (try (replace F := F.filt [0, 1, 2] rfl))) | (refine sv1 F M (h := ?_); clear F a; intro a F) | refine pv1 (h := ?_) | (refine sv3 F M (h := ?_); clear M; intro w M) | (refine sv2 F M (h := ?_); clear F M a; intro nb a w F M) | refine pv3 (h := ?_) | (refine pv2 (h := ?_); intro nb) | ((first | refine svC F M (h := ?_) | refine svC0 F M (h := ?_) | refine pvC (h := ?_) | refine pvC0 (h := ?_)); (fail); (first | refine ⟨rvsA, ?_⟩ | (clear F M a; intro a w F M) | (clear M; intro w M))) | (refine svK F (h := ?_); clear F a; intro a F) | refine svK0 F (h := ?_) | ((refine sx_guardb F rfl (fun hg => ?_) (fun hg => ?_)) <;> (rw [hg] at F; (try (exact no hg)))) | (refine pvF (h := ?_); intro nb) | refine pvK (h := ?_) | refine pvK0 (h := ?_) | (refine pv_nil ?_; intro a w F M; (try (replace F := F.filt [0, 1, 2] rfl))) | ((fail_if_success (with_reducible first | refine isW ?_ | refine isP ?_ | refine isL ?_)); (first | with_reducible refine sx_region ?_ | ((with_reducible refine isK ?_); (first | refine svT F (h := ?_) | refine svF F (h := ?_) | ((refine svB F (fun hc => ?_) (fun hc => ?_)) <;> (try (exact no hc))))) | ((with_reducible refine isD ?_); fail) | with_reducible refine wp_scope_straight ?_ | with_reducible refine wp_label ?_ | go_step))))
  all_goals (first | refine svEnd F M ?_ | refine svRet F M ?_)
  all_goals exact ⟨_, _, rfl, ⟨_, rfl, rfl⟩, M.perms permsA⟩
/-- The operations that a loop's rounds gather. -/
def outS (b : Nat) (l : List Opn) : Asn := exA fun h : SlH => [pt b [sl h] 22, ownT 35 opL 4 (sl h) l]
theorem outS_open {w : World} {L : List Asn} {b : Nat} {l : List Opn} (M : Mem w (outS b l :: L)) : ∃ h, Mem w (pt b [sl h] 22 :: ownT 35 opL 4 (sl h) l :: L) := by
  obtain ⟨h, M⟩ := M.exo
  exact ⟨h, M⟩
theorem outS_close {w : World} {L : List Asn} {b : Nat} {l : List Opn} {h : SlH} (M : Mem w (pt b [sl h] 22 :: ownT 35 opL 4 (sl h) l :: L)) : Mem w (outS b l :: L) := Mem.exc (f := fun h : SlH => [pt b [sl h] 22, ownT 35 opL 4 (sl h) l]) h M
section
variable {ops : Array Oper} {Q : Exit → Act → World → Prop} {rest : List Oper} {o : Oper} {a : Act} {w : World} {n : Nat} {l : List (Nat × Value)} {L : List Asn}
theorem lvYs (F : Fr a n l) (M : Mem w L) {d : Nat} {fo : Operand} {xs : Array Operand} {ats : Array TypeId} {lp : Nat} {x : Value} {fn : FuncId} {tmps : Array Value} {p : Nat} {asg bod : Code} {D : Nat} {A B : Asn} {R : List Asn}
    (hR : RoundC lp fn tmps p asg bod x (obA lp (.loop (lpR fn tmps p asg bod D .ready)) :: [A]) (obA lp (.loop (lpR fn tmps p asg bod D .ready)) :: [B]))
    (h : ∀ a' w', Fr a' n ((d, .bool true) :: l) → Mem w' (obA lp (.loop (lpR fn tmps p asg bod D .ready)) :: B :: R) → wpListIn (FR none) 0 Tryz.prog ops Q rest a' w')
    (hp : Perms L (obA lp (.loop (lpR fn tmps p asg bod D .ready)) :: A :: R) := by exact permsA)
    (ho : o.op = .call { callee := .value fo, args := xs, argTypes := ats } := by exact rfl) (hf : evl l fo = some (.func (.yield lp) #[] #[]) := by exact rfl) (hx : evls l xs.toList = some [x] := by exact rfl)
    (hw : Wanted o ops l = some true := by exact rfl) (hd : o.dst = some d := by exact rfl) (hn : Nat.ble (d + 1) n = true := by exact rfl) : wpListIn (FR none) 0 Tryz.prog ops Q (o :: rest) a w :=
  lvY (R := R) F M hR hp h ho hf hx hw hd hn
end
section
variable (bb b7 : Nat) (h : SlH) (bs : List UInt8) (hlen : bs.length ≤ 100000) (R : List Asn) (hg : BG R h bs) (lp : Nat) (fn : FuncId) (tmps : Array Value) (p D : Nat) (asg bod : Code)
include hlen hg in
theorem ops1_spec (hrd : ∀ (out : List Opn) (o : Opn), out.length ≤ 100000 → RoundC lp fn tmps p asg bod (opV o) (obA lp (.loop (lpR fn tmps p asg bod D .ready)) :: [outS b7 out]) (obA lp (.loop (lpR fn tmps p asg bod D .ready)) :: [outS b7 (out ++ [o])])) :
    Spec 31 [.func (.yield lp) #[] #[], ptr bb] (obA lp (.loop (lpR fn tmps p asg bod D .ready)) :: outS b7 [] :: pt bb [sl h] 24 :: R) fun u L' => L' = obA lp (.loop (lpR fn tmps p asg bod D .ready)) :: outS b7 (decAll bs 0) :: R := by
  generalize hX : decAll bs 0 = X
  (intro G w M; refine sx_enter (vs := ([.func (.yield lp) #[] #[], ptr bb] : List Value)) Tryz.func31 (n := 27) rfl rfl rfl rfl ?_; intro a F; (try simp only [List.cons_append, List.nil_append] at M))
  have gb := hg.app G
  have gg := gb.g
  (repeat' (first | (refine sx_nil ?_; (try (replace F := F.filt [0, 1, 3, 4, 5, 6, 10, 25] rfl))) | (refine sv1 F M (h := ?_); clear F a; intro a F) | refine pv1 (h := ?_) | (refine sv3 F M (h := ?_); clear M; intro w M) | (refine sv2 F M (h := ?_); clear F M a; intro nb a w F M) | refine pv3 (h := ?_) | (refine pv2 (h := ?_); intro nb) | ((first | refine svC F M (h := ?_) | refine svC0 F M (h := ?_) | refine pvC (h := ?_) | refine pvC0 (h := ?_)); (fail); (first | refine ⟨rvsA, ?_⟩ | (clear F M a; intro a w F M) | (clear M; intro w M))) | (refine svK F (h := ?_); clear F a; intro a F) | refine svK0 F (h := ?_) | ((refine sx_guardb F rfl (fun hg => ?_) (fun hg => ?_)) <;> (rw [hg] at F; (try (exact no hg)))) | (refine pvF (h := ?_); intro nb) | refine pvK (h := ?_) | refine pvK0 (h := ?_) | (refine pv_nil ?_; intro a w F M; (try (replace F := F.filt [0, 1, 3, 4, 5, 6, 10, 25] rfl))) | ((fail_if_success (with_reducible first | refine isW ?_ | refine isP ?_ | refine isL ?_)); (first | with_reducible refine sx_region ?_ | ((with_reducible refine isK ?_); (first | refine svT F (h := ?_) | refine svF F (h := ?_) | ((refine svB F (fun hc => ?_) (fun hc => ?_)) <;> (try (exact no hc))))) | ((with_reducible refine isD ?_); fail) | with_reducible refine wp_scope_straight ?_ | with_reducible refine wp_label ?_ | go_step))))
  refine svLoop F M ((0, []) : Nat × List Opn) (fun s => [(3, .int .i64 s.1)]) (fun s => [outS b7 s.2]) (fun s => s.1 ≤ bs.length ∧ s.2 ++ decAll bs s.1 = X ∧ s.2.length ≤ s.1) (fun s => bs.length - s.1) [4, 5, 6] ⟨Nat.zero_le _, hX, Nat.zero_le _⟩ ?_ (hR := by (repeat (first | exact Pulls.nil | (apply Pulls.cons; (focus ((repeat (first | exact Pull.here | apply Pull.there)); done))))))
  (rintro ⟨j, out⟩ ⟨q1, q2, q3⟩ a w F M; (try simp only [List.cons_append, List.nil_append] at F M q1 q2 q3 ⊢))
  by_cases hj : j < bs.length
  · have hd := fun R hg => dec_spec h bs j hj (by omega) R hg
    have hlt := decM_lt hj
    rw [decAll_step hj] at q2
    generalize decM bs j = DD at *
    obtain ⟨o, nx⟩ := DD
    simp only at hd hlt q2
    have hrd2 := hrd out o (by omega)
    (repeat' (first | (refine li_nil ?_; (try (replace F := F.filt [0, 1, 3, 4, 5, 6, 10, 25] rfl))) | (((refine lvYs F M hrd2 ?_); clear F M a; intro a w F M)) | (refine lv1 F M (h := ?_); clear F a; intro a F) | (refine lv3 F M (h := ?_); clear M; intro w M) | (refine lv2 F M (h := ?_); clear F M a; intro nb a w F M) | (refine lvC F M (h := ?_); (((refine acW (k := 32) (hd _ ?_) ?_); (focus ((repeat (first | assumption | apply BG.tail)); done)); rintro u L' ⟨rfl, rfl⟩)); (clear F M a; intro a w F M)) | (refine lvK F (h := ?_); clear F a; intro a F) | ((refine lvG F rfl (fun hg => ?_) (fun hg => ?_)) <;> (rw [hg] at F; (try (exact no hg)))) | ((fail_if_success (with_reducible first | refine isI ?_ | refine isL ?_)); (first | with_reducible refine reg_out ?_ | ((with_reducible refine isK ?_); (first | refine svT F (h := ?_) | refine svF F (h := ?_) | ((refine svB F (fun hc => ?_) (fun hc => ?_)) <;> (try (exact no hc))))) | go_step))))
    exact sv_again F M ((nx, out ++ [o]) : Nat × List Opn) kpA permsA ⟨by simp only; omega, by simpa using q2, by simp; omega⟩ (by simp only; omega)
  · obtain rfl : j = bs.length := by omega
    rw [decAll_end (Nat.le_refl _), List.append_nil] at q2
    subst q2
    (repeat' (first | (refine li_nil ?_; (try (replace F := F.filt [0, 1, 3, 4, 5, 6, 10, 25] rfl))) | (fail) | (refine lv1 F M (h := ?_); clear F a; intro a F) | (refine lv3 F M (h := ?_); clear M; intro w M) | (refine lv2 F M (h := ?_); clear F M a; intro nb a w F M) | (refine lvC F M (h := ?_); (fail); (clear F M a; intro a w F M)) | (refine lvK F (h := ?_); clear F a; intro a F) | ((refine lvG F rfl (fun hg => ?_) (fun hg => ?_)) <;> (rw [hg] at F; (try (exact no hg)))) | ((fail_if_success (with_reducible first | refine isI ?_ | refine isL ?_)); (first | with_reducible refine reg_out ?_ | ((with_reducible refine isK ?_); (first | refine svT F (h := ?_) | refine svF F (h := ?_) | ((refine svB F (fun hc => ?_) (fun hc => ?_)) <;> (try (exact no hc))))) | go_step))))
    all_goals (first | refine svEnd F M ?_ | refine svRet F M ?_)
    all_goals exact ⟨_, _, rfl, rfl, M.perms permsA⟩
end
theorem sdec_spec (h : SlH) (bs : List UInt8) (hlen : bs.length ≤ 100000) (R : List Asn) (hg : BG R h bs) : Spec 9 [sl h] R fun u L' => ∃ h', u = sl h' ∧ L' = ownT 35 opL 4 (sl h') (decAll bs 0) :: R := by
  intro G w M
  refine sx_enterM (vs := ([sl h] : List Value)) Tryz.func9 (n := 13) rfl rfl rfl rfl ?_
  intro a F
  have gb := hg.app G
  (repeat' (first | (refine sx_nil ?_; (try (replace F := F.filt [0, 2, 3, 4, 6] rfl))) | (refine sv1 F M (h := ?_); clear F a; intro a F) | refine pv1 (h := ?_) | (refine sv3 F M (h := ?_); clear M; intro w M) | (refine sv2 F M (h := ?_); clear F M a; intro nb a w F M) | refine pv3 (h := ?_) | (refine pv2 (h := ?_); intro nb) | ((first | refine svC F M (h := ?_) | refine svC0 F M (h := ?_) | refine pvC (h := ?_) | refine pvC0 (h := ?_)); (((refine acW (k := 17) (operations_spec h _) ?_); rintro u L' ⟨bb, rfl, rfl⟩)); (first | refine ⟨rvsA, ?_⟩ | (clear F M a; intro a w F M) | (clear M; intro w M))) | (refine svK F (h := ?_); clear F a; intro a F) | refine svK0 F (h := ?_) | ((refine sx_guardb F rfl (fun hg => ?_) (fun hg => ?_)) <;> (rw [hg] at F; (try (exact no hg)))) | (refine pvF (h := ?_); intro nb) | refine pvK (h := ?_) | refine pvK0 (h := ?_) | (refine pv_nil ?_; intro a w F M; (try (replace F := F.filt [0, 2, 3, 4, 6] rfl))) | ((fail_if_success (with_reducible first | refine isW ?_ | refine isP ?_ | refine isL ?_)); (first | with_reducible refine sx_region ?_ | ((with_reducible refine isK ?_); (first | refine svT F (h := ?_) | refine svF F (h := ?_) | ((refine svB F (fun hc => ?_) (fun hc => ?_)) <;> (try (exact no hc))))) | ((with_reducible refine isD ?_); fail) | with_reducible refine wp_scope_straight ?_ | with_reducible refine wp_label ?_ | go_step))))
  obtain ⟨b7, hb7⟩ : ∃ b7, b7 = nb := ⟨_, rfl⟩
  rw [← hb7] at F M
  have M0 := M.own_nil 35 4
  have M1 : Mem w (outS b7 [] :: pt bb [sl h] 24 :: (R ++ G)) := outS_close (h := nilH) (M0.perms permsA)
  clear M M0
  refine rf_range F M1 (g := .tmp 6) rfl inferInstance (C := fun L2 => L2 = outS b7 (decAll bs 0) :: (R ++ G)) (fun fn lp D => ?_) (fun D w' L2 hC M2 => ?_)
  · refine Spec.mono (ops1_spec bb b7 h bs hlen (R ++ G) gb lp fn a.tmps 7 D _ _ (fun out o ho => ?_)) ?_
    · refine round_mk F rfl fun G2 a w F M => ?_
      obtain ⟨ok, oi, ot, oa⟩ := o
      refine reg_in ?_
      (repeat' (first | (refine li_nil ?_; (try (replace F := F.filt [0, 2, 3, 4, 6] rfl))) | (refine lv1 F M (h := ?_); clear F a; intro a F) | (refine lv3 F M (h := ?_); clear M; intro w M) | (refine lv2 F M (h := ?_); clear F M a; intro nb a w F M) | (refine lvC F M (h := ?_); (fail); (clear F M a; intro a w F M)) | (refine lvK F (h := ?_); clear F a; intro a F) | ((refine lvG F rfl (fun hg => ?_) (fun hg => ?_)) <;> (rw [hg] at F; (try (exact no hg))))))
      refine ⟨pt nb (opL ⟨ok, oi, ot, oa⟩) 35 :: outS b7 out :: G2, (M.perms permsA : Mem _ _), fun w M => ?_⟩
      refine wpIn_block (reg_in ?_)
      obtain ⟨h9, M2⟩ := outS_open (M.pull (.there (.there .here)))
      clear M; have M := M2; clear M2
      (repeat' (first | (refine li_nil ?_; (try (replace F := F.filt [0, 2, 3, 4, 6] rfl))) | (refine lv1 F M (h := ?_); clear F a; intro a F) | (refine lv3 F M (h := ?_); clear M; intro w M) | (refine lv2 F M (h := ?_); clear F M a; intro nb a w F M) | (refine lvC F M (h := ?_); ((refine ac_appendH (f := opL) (xs := out) (ys := [⟨ok, oi, ot, oa⟩]) rfl rfl inferInstance rfl rfl pullA inferInstance gsA rfl rfl (by simp; omega) ?_; intro nv)); (clear F M a; intro a w F M)) | (refine lvK F (h := ?_); clear F a; intro a F) | ((refine lvG F rfl (fun hg => ?_) (fun hg => ?_)) <;> (rw [hg] at F; (try (exact no hg))))))
      exact ⟨rfl, (outS_close (h := nv) (M.perms permsA)).perms permsA⟩
    · rintro u L' rfl
      exact ⟨_, rfl, rfl⟩
  · subst hC
    clear M1
    obtain ⟨h2, M3⟩ := outS_open (M2.perms (permsA : Perms _ (outS b7 (decAll bs 0) :: obA D (.deferred (some [])) :: (R ++ G))))
    clear M2; have M := M3; clear M3
    (repeat' (first | (refine sx_nil ?_; (try (replace F := F.filt [0, 2, 3, 4, 6] rfl))) | (refine sv1 F M (h := ?_); clear F a; intro a F) | refine pv1 (h := ?_) | (refine sv3 F M (h := ?_); clear M; intro w M) | (refine sv2 F M (h := ?_); clear F M a; intro nb a w F M) | refine pv3 (h := ?_) | (refine pv2 (h := ?_); intro nb) | ((first | refine svC F M (h := ?_) | refine svC0 F M (h := ?_) | refine pvC (h := ?_) | refine pvC0 (h := ?_)); (fail); (first | refine ⟨rvsA, ?_⟩ | (clear F M a; intro a w F M) | (clear M; intro w M))) | (refine pv_nil ?_; intro a w F M; (try (replace F := F.filt [0, 2, 3, 4, 6] rfl))) | ((fail_if_success (with_reducible first | refine isW ?_ | refine isP ?_ | refine isL ?_)); (first | with_reducible refine regL_sh ?_ | ((with_reducible refine isD ?_); fail) | go_step))))
    refine end_col F (M.perms (permsA : Perms _ (obA D (.deferred (some [])) :: ownT 35 opL 4 (sl h2) (decAll bs 0) :: (R ++ G)))) ?_
    intro w' M2
    exact ⟨_, _, rfl, ⟨h2, rfl, rfl⟩, M2⟩
end Go.Proofs.YtaggjikjohamjaaGreatDoor
end
section
namespace Go.Proofs
open Go.Shelf
def Tryz.lays156_ren : Go.Shelf.Ren := ⟨fun | 156 => 24 | 165 => 38 | 166 => 39 | 169 => 40 | 240 => 51 | 241 => 52 | 276 => 69 | 277 => 70 | n => n, fun | 31 => 45 | 9 => 9 | 3 => 3 | 4 => 4 | 0 => 0 | 20 => 20 | 72 => 72 | 76 => 76 | 70 => 70 | 37 => 24 | 75 => 75 | 127 => 97 | 164 => 115 | 5 => 5 | 80 => 78 | n => n, fun | n => n⟩
theorem Tryz.lays156 : Go.Proofs.Lays.n156 Tryz.prog Tryz.lays156_ren := {
  mixed := by kernel_rfl
  f156 := Tryz.func24.trans (congrArg some (by kernel_rfl))
  f165 := Tryz.func38.trans (congrArg some (by kernel_rfl))
  f166 := Tryz.func39.trans (congrArg some (by kernel_rfl))
  f169 := Tryz.func40.trans (congrArg some (by kernel_rfl))
  f240 := Tryz.func51.trans (congrArg some (by kernel_rfl))
  f241 := Tryz.func52.trans (congrArg some (by kernel_rfl))
  f276 := Tryz.func69.trans (congrArg some (by kernel_rfl))
  f277 := Tryz.func70.trans (congrArg some (by kernel_rfl))
  t0 := Tryz.underlying0
  a0 := Tryz.isAgg0
  z0 := Tryz.sizeOf0
  v0 := Tryz.zeroValue0
  t3 := Tryz.underlying3
  a3 := Tryz.isAgg3
  z3 := Tryz.sizeOf3
  v3 := Tryz.zeroValue3
  t4 := Tryz.underlying4
  a4 := Tryz.isAgg4
  z4 := Tryz.sizeOf4
  v4 := Tryz.zeroValue4
  t9 := Tryz.underlying9
  a9 := Tryz.isAgg9
  z9 := Tryz.sizeOf9
  v9 := Tryz.zeroValue9
  t20 := Tryz.underlying20
  a20 := Tryz.isAgg20
  z20 := Tryz.sizeOf20
  v20 := Tryz.zeroValue20
  t31 := Tryz.underlying45
  a31 := Tryz.isAgg45
  z31 := Tryz.sizeOf45
  v31 := Tryz.zeroValue45
  t37 := Tryz.underlying24
  a37 := Tryz.isAgg24
  z37 := Tryz.sizeOf24
  v37 := Tryz.zeroValue24
  t70 := Tryz.underlying70
  a70 := Tryz.isAgg70
  z70 := Tryz.sizeOf70
  v70 := Tryz.zeroValue70
  t72 := Tryz.underlying72
  a72 := Tryz.isAgg72
  z72 := Tryz.sizeOf72
  v72 := Tryz.zeroValue72
  t75 := Tryz.underlying75
  a75 := Tryz.isAgg75
  z75 := Tryz.sizeOf75
  v75 := Tryz.zeroValue75
  t76 := Tryz.underlying76
  a76 := Tryz.isAgg76
  z76 := Tryz.sizeOf76
  v76 := Tryz.zeroValue76
  t127 := Tryz.underlying97
  a127 := Tryz.isAgg97
  z127 := Tryz.sizeOf97
  v127 := Tryz.zeroValue97
  t164 := Tryz.underlying115
  a164 := Tryz.isAgg115
  z164 := Tryz.sizeOf115
  v164 := Tryz.zeroValue115 }
theorem Tryz.Builder_Extra_156 : Builder.Extra Tryz.prog Tryz.lays156_ren := {
  sizeBuilder := by kernel_rfl
  liesBuilder := by kernel_rfl
  t5 := Tryz.underlying5
  a5 := Tryz.isAgg5
  z5 := Tryz.sizeOf5
  v5 := Tryz.zeroValue5
  infoByte := by kernel_rfl
  cellsByte := by kernel_rfl
  sizeByte := by kernel_rfl
  neB5 := by decide }
open Go.RowKit in
/-- strings.Join: "Join concatenates the elements of its first argument to create a single string. The separator string sep is placed between elements in the resulting string.": HOWEVER MANY ELEMENTS. Below the heap's end the world is as it was. (LAID: no walk: one application.) -/
theorem Tryz.strings_Join (bk o c : Nat) (xs : List ByteArray) (sep : ByteArray) (w : World) (hcells : ∀ (j : Nat) x, xs[j]? = some x → w.cell? ⟨bk, o + j, none⟩ = some (.string x)) (hbk : bk < w.heap.size) (hN : xs.length ≤ 140737488355328) (hcap : xs.length ≤ c) (hlen : (Lib.join (xs.map (·.data.toList)) sep.data.toList).length ≤ 140737488355328) :
    Calls Tryz.prog 24 #[.slice (some ⟨bk, o, none⟩) xs.length c, .string sep] w fun e w' => e = .returned (.string ⟨(Lib.join (xs.map (·.data.toList)) sep.data.toList).toArray⟩) ∧ Below w.heap.size w w' := Any.strings_Join Tryz.lays156 Tryz.Builder_Extra_156 bk o c xs sep w hcells hbk hN hcap hlen
def Tryz.lays283_ren : Go.Shelf.Ren := ⟨fun | 283 => 65 | n => n, fun | 3 => 3 | 9 => 9 | 4 => 4 | n => n, fun | n => n⟩
theorem Tryz.lays283 : Go.Proofs.Lays.n283 Tryz.prog Tryz.lays283_ren := {
  mixed := by kernel_rfl
  f283 := Tryz.func65.trans (congrArg some (by kernel_rfl))
  t3 := Tryz.underlying3
  a3 := Tryz.isAgg3
  z3 := Tryz.sizeOf3
  v3 := Tryz.zeroValue3
  t4 := Tryz.underlying4
  a4 := Tryz.isAgg4
  z4 := Tryz.sizeOf4
  v4 := Tryz.zeroValue4
  t9 := Tryz.underlying9
  a9 := Tryz.isAgg9
  z9 := Tryz.sizeOf9
  v9 := Tryz.zeroValue9 }
open Go.Lib in
/-- internal/strconv.small: "small returns the string for an i with 0 <= i < nSmalls.": i's decimal numeral. The world is as it was. (LAID: no walk: one application.) -/
theorem Tryz.internal_strconv_small (i : Nat) (h : i < 100) (w : World) :
    Calls Tryz.prog 65 #[.int .i64 i] w fun e w' => e = .returned (.string ⟨(Lib.decDigits i).toArray⟩) ∧ w' = w := Any.internal_strconv_small Tryz.lays283 i h w
def Tryz.laysM284_ren : Go.Shelf.Ren := ⟨fun | 284 => 66 | 129 => 89 | 317 => 88 | 318 => 90 | n => n, fun | 53 => 33 | 3 => 3 | 212 => 125 | 0 => 0 | 4 => 4 | 46 => 79 | 5 => 5 | 9 => 9 | n => n, fun | 17 => 1 | n => n⟩
theorem Tryz.laysM284 : Go.Proofs.LaysM.n284 Tryz.prog Tryz.laysM284_ren := {
  mixed := by kernel_rfl
  f129 := Tryz.func89.trans (congrArg some (by kernel_rfl))
  f284 := Tryz.func66.trans (congrArg some (by kernel_rfl))
  f317 := Tryz.func88.trans (congrArg some (by kernel_rfl))
  f318 := Tryz.func90.trans (congrArg some (by kernel_rfl))
  t0 := Tryz.underlying0
  a0 := Tryz.isAgg0
  z0 := Tryz.sizeOf0
  v0 := Tryz.zeroValue0
  t3 := Tryz.underlying3
  a3 := Tryz.isAgg3
  z3 := Tryz.sizeOf3
  v3 := Tryz.zeroValue3
  t4 := Tryz.underlying4
  a4 := Tryz.isAgg4
  z4 := Tryz.sizeOf4
  v4 := Tryz.zeroValue4
  t5 := Tryz.underlying5
  a5 := Tryz.isAgg5
  z5 := Tryz.sizeOf5
  v5 := Tryz.zeroValue5
  t9 := Tryz.underlying9
  a9 := Tryz.isAgg9
  z9 := Tryz.sizeOf9
  v9 := Tryz.zeroValue9
  t46 := Tryz.underlying79
  a46 := Tryz.isAgg79
  z46 := Tryz.sizeOf79
  v46 := Tryz.zeroValue79
  t53 := Tryz.underlying33
  a53 := Tryz.isAgg33
  z53 := Tryz.sizeOf33
  v53 := Tryz.zeroValue33
  t212 := Tryz.underlying125
  a212 := Tryz.isAgg125
  z212 := Tryz.sizeOf125
  v212 := Tryz.zeroValue125
  g17 := by kernel_rfl
  i0 := by kernel_rfl
  i3 := by kernel_rfl
  i4 := by kernel_rfl
  i5 := by kernel_rfl
  i9 := by kernel_rfl
  i46 := by kernel_rfl
  i53 := by kernel_rfl
  i212 := by kernel_rfl
  m17 := by kernel_rfl }
open Go.Lib in
/-- internal/strconv.numDigits, at a d that is not 0: THE NUMBER OF d's DECIMAL DIGITS. The world is as it was. (LAID: no walk: one application.) -/
theorem Tryz.internal_strconv_numDigits (u : Nat) (h1 : 1 ≤ u) (h2 : u < 18446744073709551616) (w : World) (htab : Lib.TabIs Tryz.prog w "internal/strconv.uint64pow10" .u64 Lib.pow10Tab) :
    Calls Tryz.prog 66 #[.int .u64 u] w fun e w' => e = .returned (.int .i64 (Lib.nDigits u)) ∧ w' = w := Any.internal_strconv_numDigits Tryz.laysM284 u h1 h2 w htab
def Tryz.lays285_ren : Go.Shelf.Ren := ⟨fun | 285 => 67 | n => n, fun | 37 => 24 | 53 => 33 | 3 => 3 | 4 => 4 | 51 => 98 | 9 => 9 | 5 => 5 | 0 => 0 | n => n, fun | n => n⟩
theorem Tryz.lays285 : Go.Proofs.Lays.n285 Tryz.prog Tryz.lays285_ren := {
  mixed := by kernel_rfl
  f285 := Tryz.func67.trans (congrArg some (by kernel_rfl))
  t0 := Tryz.underlying0
  a0 := Tryz.isAgg0
  z0 := Tryz.sizeOf0
  v0 := Tryz.zeroValue0
  t3 := Tryz.underlying3
  a3 := Tryz.isAgg3
  z3 := Tryz.sizeOf3
  v3 := Tryz.zeroValue3
  t4 := Tryz.underlying4
  a4 := Tryz.isAgg4
  z4 := Tryz.sizeOf4
  v4 := Tryz.zeroValue4
  t5 := Tryz.underlying5
  a5 := Tryz.isAgg5
  z5 := Tryz.sizeOf5
  v5 := Tryz.zeroValue5
  t9 := Tryz.underlying9
  a9 := Tryz.isAgg9
  z9 := Tryz.sizeOf9
  v9 := Tryz.zeroValue9
  t37 := Tryz.underlying24
  a37 := Tryz.isAgg24
  z37 := Tryz.sizeOf24
  v37 := Tryz.zeroValue24
  t51 := Tryz.underlying98
  a51 := Tryz.isAgg98
  z51 := Tryz.sizeOf98
  v51 := Tryz.zeroValue98
  t53 := Tryz.underlying33
  a53 := Tryz.isAgg33
  z53 := Tryz.sizeOf33
  v53 := Tryz.zeroValue33 }
open Go.RowKit Go.Sort Go.Lib in
/-- internal/strconv.formatBase10: "formatBase10 formats the decimal representation of u into a. The caller is responsible for ensuring that a is big enough to hold u. If a is too big, leading zeros will be filled in as needed.": THE ROW HOLDS u's DIGITS ('FmtInv .. 0 ..': every place t holds 'dg u (len - 1 - t)'); all else is as it was but for the count of draws. (LAID: no walk: one application.) -/
theorem Tryz.internal_strconv_formatBase10 (blk off cap : Nat) (u : Nat) (d : Array UInt8) (w : World) (hH : Holds (fun (b : UInt8) => Value.int .u8 (b.toNat : Int)) w blk off d) (hu : u < 10 ^ d.size) (hu64 : u < 18446744073709551616) (hsz : d.size < 4611686018427387904) :
    Calls Tryz.prog 67 #[.slice (some ⟨blk, off, none⟩) d.size cap, .int .u64 u] w fun e w' =>
      e = .returned (.tuple #[]) ∧ ∃ (n v' : Nat) (dk : Array UInt8), w' = (putRow (fun (b : UInt8) => Value.int .u8 (b.toNat : Int)) w blk off dk).drewN n ∧ FmtInv d.size u 0 v' dk := Any.internal_strconv_formatBase10 Tryz.lays285 blk off cap u d w hH hu hu64 hsz
def Tryz.laysPu14_ren : Go.Shelf.Ren := ⟨fun | 14 => 49 | 16 => 63 | 17 => 64 | 19 => 82 | 20 => 83 | 21 => 84 | 22 => 85 | 23 => 86 | 24 => 87 | 25 => 95 | 27 => 97 | 26 => 96 | 28 => 100 | 29 => 101 | 30 => 65 | 31 => 66 | 32 => 67 | 33 => 68 | 35 => 89 | 34 => 88 | 36 => 90 | 37 => 91 | 38 => 92 | 39 => 98 | 40 => 99 | n => n, fun | 9 => 9 | 3 => 3 | 22 => 33 | 24 => 75 | 25 => 95 | 4 => 4 | 34 => 118 | 5 => 5 | 36 => 79 | 37 => 24 | 0 => 0 | 39 => 121 | 21 => 21 | 44 => 136 | 47 => 97 | 50 => 141 | 48 => 139 | 2 => 2 | 52 => 110 | 55 => 113 | 59 => 125 | 60 => 98 | 20 => 20 | 61 => 126 | 65 => 142 | 66 => 143 | 67 => 78 | n => n, fun | 0 => 4 | 1 => 5 | 2 => 1 | 3 => 6 | 4 => 7 | n => n⟩
theorem Tryz.laysPu14 : Go.Proofs.LaysPu.n14 Tryz.prog Tryz.laysPu14_ren := {
  mixed := by kernel_rfl
  f14 := Tryz.func49.trans (congrArg some (by kernel_rfl))
  f16 := Tryz.func63.trans (congrArg some (by kernel_rfl))
  f17 := Tryz.func64.trans (congrArg some (by kernel_rfl))
  f19 := Tryz.func82.trans (congrArg some (by kernel_rfl))
  f20 := Tryz.func83.trans (congrArg some (by kernel_rfl))
  f21 := Tryz.func84.trans (congrArg some (by kernel_rfl))
  f22 := Tryz.func85.trans (congrArg some (by kernel_rfl))
  f23 := Tryz.func86.trans (congrArg some (by kernel_rfl))
  f24 := Tryz.func87.trans (congrArg some (by kernel_rfl))
  f25 := Tryz.func95.trans (congrArg some (by kernel_rfl))
  f26 := Tryz.func96.trans (congrArg some (by kernel_rfl))
  f27 := Tryz.func97.trans (congrArg some (by kernel_rfl))
  f28 := Tryz.func100.trans (congrArg some (by kernel_rfl))
  f29 := Tryz.func101.trans (congrArg some (by kernel_rfl))
  f30 := Tryz.func65.trans (congrArg some (by kernel_rfl))
  f31 := Tryz.func66.trans (congrArg some (by kernel_rfl))
  f32 := Tryz.func67.trans (congrArg some (by kernel_rfl))
  f33 := Tryz.func68.trans (congrArg some (by kernel_rfl))
  f34 := Tryz.func88.trans (congrArg some (by kernel_rfl))
  f35 := Tryz.func89.trans (congrArg some (by kernel_rfl))
  f36 := Tryz.func90.trans (congrArg some (by kernel_rfl))
  f37 := Tryz.func91.trans (congrArg some (by kernel_rfl))
  f38 := Tryz.func92.trans (congrArg some (by kernel_rfl))
  f39 := Tryz.func98.trans (congrArg some (by kernel_rfl))
  f40 := Tryz.func99.trans (congrArg some (by kernel_rfl))
  t0 := Tryz.underlying0
  a0 := Tryz.isAgg0
  z0 := Tryz.sizeOf0
  v0 := Tryz.zeroValue0
  i0 := by kernel_rfl
  t2 := Tryz.underlying2
  a2 := Tryz.isAgg2
  z2 := Tryz.sizeOf2
  v2 := Tryz.zeroValue2
  i2 := by kernel_rfl
  t3 := Tryz.underlying3
  a3 := Tryz.isAgg3
  z3 := Tryz.sizeOf3
  v3 := Tryz.zeroValue3
  i3 := by kernel_rfl
  t4 := Tryz.underlying4
  a4 := Tryz.isAgg4
  z4 := Tryz.sizeOf4
  v4 := Tryz.zeroValue4
  i4 := by kernel_rfl
  t5 := Tryz.underlying5
  a5 := Tryz.isAgg5
  z5 := Tryz.sizeOf5
  v5 := Tryz.zeroValue5
  i5 := by kernel_rfl
  t9 := Tryz.underlying9
  a9 := Tryz.isAgg9
  z9 := Tryz.sizeOf9
  v9 := Tryz.zeroValue9
  i9 := by kernel_rfl
  t20 := Tryz.underlying20
  a20 := Tryz.isAgg20
  z20 := Tryz.sizeOf20
  v20 := Tryz.zeroValue20
  i20 := by kernel_rfl
  t21 := Tryz.underlying21
  a21 := Tryz.isAgg21
  z21 := Tryz.sizeOf21
  v21 := Tryz.zeroValue21
  i21 := by kernel_rfl
  t22 := Tryz.underlying33
  a22 := Tryz.isAgg33
  z22 := Tryz.sizeOf33
  v22 := Tryz.zeroValue33
  i22 := by kernel_rfl
  t24 := Tryz.underlying75
  a24 := Tryz.isAgg75
  z24 := Tryz.sizeOf75
  v24 := Tryz.zeroValue75
  i24 := by kernel_rfl
  t25 := Tryz.underlying95
  a25 := Tryz.isAgg95
  z25 := Tryz.sizeOf95
  v25 := Tryz.zeroValue95
  i25 := by kernel_rfl
  t34 := Tryz.underlying118
  a34 := Tryz.isAgg118
  z34 := Tryz.sizeOf118
  v34 := Tryz.zeroValue118
  i34 := by kernel_rfl
  c34 := by kernel_rfl
  t36 := Tryz.underlying79
  a36 := Tryz.isAgg79
  z36 := Tryz.sizeOf79
  v36 := Tryz.zeroValue79
  i36 := by kernel_rfl
  t37 := Tryz.underlying24
  a37 := Tryz.isAgg24
  z37 := Tryz.sizeOf24
  v37 := Tryz.zeroValue24
  i37 := by kernel_rfl
  t39 := Tryz.underlying121
  a39 := Tryz.isAgg121
  z39 := Tryz.sizeOf121
  v39 := Tryz.zeroValue121
  i39 := by kernel_rfl
  t44 := Tryz.underlying136
  a44 := Tryz.isAgg136
  z44 := Tryz.sizeOf136
  v44 := Tryz.zeroValue136
  i44 := by kernel_rfl
  t47 := Tryz.underlying97
  a47 := Tryz.isAgg97
  z47 := Tryz.sizeOf97
  v47 := Tryz.zeroValue97
  i47 := by kernel_rfl
  t48 := Tryz.underlying139
  a48 := Tryz.isAgg139
  z48 := Tryz.sizeOf139
  v48 := Tryz.zeroValue139
  i48 := by kernel_rfl
  t50 := Tryz.underlying141
  a50 := Tryz.isAgg141
  z50 := Tryz.sizeOf141
  v50 := Tryz.zeroValue141
  i50 := by kernel_rfl
  t52 := Tryz.underlying110
  a52 := Tryz.isAgg110
  z52 := Tryz.sizeOf110
  v52 := Tryz.zeroValue110
  i52 := by kernel_rfl
  t55 := Tryz.underlying113
  a55 := Tryz.isAgg113
  z55 := Tryz.sizeOf113
  v55 := Tryz.zeroValue113
  i55 := by kernel_rfl
  t59 := Tryz.underlying125
  a59 := Tryz.isAgg125
  z59 := Tryz.sizeOf125
  v59 := Tryz.zeroValue125
  i59 := by kernel_rfl
  t60 := Tryz.underlying98
  a60 := Tryz.isAgg98
  z60 := Tryz.sizeOf98
  v60 := Tryz.zeroValue98
  i60 := by kernel_rfl
  t61 := Tryz.underlying126
  a61 := Tryz.isAgg126
  z61 := Tryz.sizeOf126
  t65 := Tryz.underlying142
  a65 := Tryz.isAgg142
  z65 := Tryz.sizeOf142
  v65 := Tryz.zeroValue142
  i65 := by kernel_rfl
  t66 := Tryz.underlying143
  a66 := Tryz.isAgg143
  z66 := Tryz.sizeOf143
  v66 := Tryz.zeroValue143
  i66 := by kernel_rfl
  t67 := Tryz.underlying78
  a67 := Tryz.isAgg78
  z67 := Tryz.sizeOf78
  v67 := Tryz.zeroValue78
  i67 := by kernel_rfl
  g0 := by kernel_rfl
  m0 := by kernel_rfl
  g1 := by kernel_rfl
  m1 := by kernel_rfl
  g2 := by kernel_rfl
  m2 := by kernel_rfl
  g3 := by kernel_rfl
  m3 := by kernel_rfl
  g4 := by kernel_rfl
  m4 := by kernel_rfl }
open Go.RowKit in
/-- strconv.ParseUint(s, 10, 64), AT EVERY STRING THAT SPELLS A uint64 ('Lib.parseUintB 64 s.data.toList = .ok u'): u, AND NO ERROR. (LAID: no walk: one application.) -/
theorem Tryz.strconv_ParseUint_10_at64_ok (s : ByteArray) (hmax : s.size ≤ 9223372036854775806) (u : Nat) (h : Lib.parseUintB 64 s.data.toList = .ok u) (w : World) :
    Calls Tryz.prog 49 #[.string s, .int .i64 10, .int .i64 64] w fun e w' => e = .returned (.tuple #[.int .u64 u, .nilIface]) ∧ (w' = w ∨ w' = Lib.bytesWorld w 5 s) := Any.strconv_ParseUint_10_at64_ok Tryz.laysPu14 s hmax u h w
open Go.RowKit in
/-- strconv.ParseUint(s, 10, 64), AT EVERY NUMERAL THAT NO uint64 HOLDS: THE GREATEST uint64, AND AN ERROR THAT IS NOT nil: a *NumError in a new block N: {Func: "ParseUint", Num: s's bytes, Err: what the variable ErrRange holds}. Of what was there nothing has turned. (LAID: no walk: one application.) -/
theorem Tryz.strconv_ParseUint_10_at64_range (s : ByteArray) (hlim : s.size ≤ 281474976710656) (h : Lib.parseUintB 64 s.data.toList = .range) (ev : Value) (w : World) (hv : w.cell? ⟨5, 0, none⟩ = some ev) (hev : ev = .nilIface ∨ ∃ te pe, ev = .iface te pe) :
    Calls Tryz.prog 49 #[.string s, .int .i64 10, .int .i64 64] w fun e w' => ∃ N, e = .returned (.tuple #[.int .u64 18446744073709551615, .iface 121 (.pointer (some ⟨N, 0, none⟩))]) ∧ w.heap.size ≤ N ∧ w'.heap[N]? = some (.cells #[.string ⟨#[80, 97, 114, 115, 101, 85, 105, 110, 116]⟩, .string s, ev] 136 (0, 0)) ∧ Below w.heap.size w w' := Any.strconv_ParseUint_10_at64_range Tryz.laysPu14 s hlim h ev w hv hev
def Tryz.lays146_ren : Go.Shelf.Ren := ⟨fun | 146 => 18 | 221 => 33 | 268 => 45 | 138 => 46 | 143 => 47 | 195 => 59 | 197 => 60 | 218 => 61 | 219 => 62 | 260 => 77 | 217 => 78 | 225 => 79 | 224 => 80 | 267 => 81 | 266 => 93 | 314 => 94 | n => n, fun | 9 => 9 | 31 => 45 | 3 => 3 | 4 => 4 | 0 => 0 | 105 => 106 | 21 => 21 | 5 => 5 | 46 => 79 | 119 => 129 | 139 => 132 | 138 => 131 | 146 => 99 | 51 => 98 | n => n, fun | 1 => 0 | 3 => 2 | 4 => 3 | n => n⟩
theorem Tryz.lays146 : Go.Proofs.Lays.n146 Tryz.prog Tryz.lays146_ren := {
  mixed := by kernel_rfl
  f138 := Tryz.func46.trans (congrArg some (by kernel_rfl))
  f143 := Tryz.func47.trans (congrArg some (by kernel_rfl))
  f146 := Tryz.func18.trans (congrArg some (by kernel_rfl))
  f195 := Tryz.func59.trans (congrArg some (by kernel_rfl))
  f197 := Tryz.func60.trans (congrArg some (by kernel_rfl))
  f217 := Tryz.func78.trans (congrArg some (by kernel_rfl))
  f218 := Tryz.func61.trans (congrArg some (by kernel_rfl))
  f219 := Tryz.func62.trans (congrArg some (by kernel_rfl))
  f221 := Tryz.func33.trans (congrArg some (by kernel_rfl))
  f224 := Tryz.func80.trans (congrArg some (by kernel_rfl))
  f225 := Tryz.func79.trans (congrArg some (by kernel_rfl))
  f260 := Tryz.func77.trans (congrArg some (by kernel_rfl))
  f266 := Tryz.func93.trans (congrArg some (by kernel_rfl))
  f267 := Tryz.func81.trans (congrArg some (by kernel_rfl))
  f268 := Tryz.func45.trans (congrArg some (by kernel_rfl))
  f314 := Tryz.func94.trans (congrArg some (by kernel_rfl))
  t0 := Tryz.underlying0
  a0 := Tryz.isAgg0
  z0 := Tryz.sizeOf0
  v0 := Tryz.zeroValue0
  t3 := Tryz.underlying3
  a3 := Tryz.isAgg3
  z3 := Tryz.sizeOf3
  v3 := Tryz.zeroValue3
  t4 := Tryz.underlying4
  a4 := Tryz.isAgg4
  z4 := Tryz.sizeOf4
  v4 := Tryz.zeroValue4
  t5 := Tryz.underlying5
  a5 := Tryz.isAgg5
  z5 := Tryz.sizeOf5
  v5 := Tryz.zeroValue5
  t9 := Tryz.underlying9
  a9 := Tryz.isAgg9
  z9 := Tryz.sizeOf9
  v9 := Tryz.zeroValue9
  t21 := Tryz.underlying21
  a21 := Tryz.isAgg21
  z21 := Tryz.sizeOf21
  v21 := Tryz.zeroValue21
  t31 := Tryz.underlying45
  a31 := Tryz.isAgg45
  z31 := Tryz.sizeOf45
  v31 := Tryz.zeroValue45
  t46 := Tryz.underlying79
  a46 := Tryz.isAgg79
  z46 := Tryz.sizeOf79
  v46 := Tryz.zeroValue79
  t51 := Tryz.underlying98
  a51 := Tryz.isAgg98
  z51 := Tryz.sizeOf98
  v51 := Tryz.zeroValue98
  t105 := Tryz.underlying106
  a105 := Tryz.isAgg106
  z105 := Tryz.sizeOf106
  v105 := Tryz.zeroValue106
  t119 := Tryz.underlying129
  a119 := Tryz.isAgg129
  z119 := Tryz.sizeOf129
  t138 := Tryz.underlying131
  a138 := Tryz.isAgg131
  z138 := Tryz.sizeOf131
  v138 := Tryz.zeroValue131
  t139 := Tryz.underlying132
  a139 := Tryz.isAgg132
  z139 := Tryz.sizeOf132
  v139 := Tryz.zeroValue132
  t146 := Tryz.underlying99
  a146 := Tryz.isAgg99
  z146 := Tryz.sizeOf99
  v146 := Tryz.zeroValue99
  g1 := by kernel_rfl
  g3 := by kernel_rfl
  g4 := by kernel_rfl }
open Go.RowKit Go.Lib in
/-- strings.Split. (LAID: no walk: one application.) -/
theorem Tryz.strings_Split (s sep : ByteArray) (m : Int) (w : World) (hs : s.size < 4294967281) (hm : w.cell? ⟨0, 0, none⟩ = some (.int .i64 m)) (h1 : 1 ≤ sep.size) :
    Calls Tryz.prog 18 #[.string s, .string sep] w fun e w' =>
      e = .returned (.slice (some ⟨w.heap.size, 0, none⟩) (Lib.countB s sep + 1) (Lib.countB s sep + 1)) ∧ w' = w.alloc (.cells ((Lib.splitB sep 0 (Lib.countB s sep) s).map Value.string).toArray 9) := Any.strings_Split Tryz.lays146 (by kernel_rfl) s sep m w hs hm h1
def Tryz.lays212_ren : Go.Shelf.Ren := ⟨fun | 212 => 41 | 263 => 53 | 264 => 54 | n => n, fun | 46 => 79 | 51 => 98 | 146 => 99 | 53 => 33 | 148 => 101 | n => n, fun | n => n⟩
theorem Tryz.lays212 : Go.Proofs.Lays.n212 Tryz.prog Tryz.lays212_ren := {
  mixed := by kernel_rfl
  f212 := Tryz.func41.trans (congrArg some (by kernel_rfl))
  f263 := Tryz.func53.trans (congrArg some (by kernel_rfl))
  f264 := Tryz.func54.trans (congrArg some (by kernel_rfl))
  t46 := Tryz.underlying79
  a46 := Tryz.isAgg79
  z46 := Tryz.sizeOf79
  v46 := Tryz.zeroValue79
  t51 := Tryz.underlying98
  a51 := Tryz.isAgg98
  z51 := Tryz.sizeOf98
  v51 := Tryz.zeroValue98
  t53 := Tryz.underlying33
  a53 := Tryz.isAgg33
  z53 := Tryz.sizeOf33
  v53 := Tryz.zeroValue33
  t146 := Tryz.underlying99
  a146 := Tryz.isAgg99
  z146 := Tryz.sizeOf99
  v146 := Tryz.zeroValue99
  t148 := Tryz.underlying101
  a148 := Tryz.isAgg101
  z148 := Tryz.sizeOf101
  v148 := Tryz.zeroValue101 }
open Go.RowKit Go.Lib in
/-- math/bits.Mul: "Mul returns the full-width product of x and y": on a machine of 64 bits: Mul64's. (LAID: no walk: one application.) -/
theorem Tryz.bits_Mul (x y : Nat) (hx : x < 18446744073709551616) (hy : y < 18446744073709551616) (w : World) :
    Calls Tryz.prog 41 #[.int .u64 x, .int .u64 y] w fun e w' => e = .returned (.tuple #[.int .u64 ((x * y / 18446744073709551616 : Nat) : Int), .int .u64 ((x * y % 18446744073709551616 : Nat) : Int)]) ∧ w' = w := Any.bits_Mul Tryz.lays212 x y hx hy w
end Go.Proofs
end
