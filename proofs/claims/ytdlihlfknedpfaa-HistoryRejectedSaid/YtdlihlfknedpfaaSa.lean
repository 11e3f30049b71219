/- The steps of a walk, each with its search as a default of its hypotheses. -/
import Derived.Test.YtdlihlfknedpfaaSw
namespace Go.Proofs.Ytdlihlfknedpfaa
open Go.RowKit
set_option linter.unusedVariables false
set_option maxRecDepth 100000
set_option linter.unusedSimpArgs false
/-- Equal elements. -/
class EQF {α : Type} [DecidableEq α] (f : α → List Value) (ks : outParam (List Sc)) : Prop where
  k : ∀ x y, cellsEq ks (f x) (f y) = some (decide (x = y))
section
variable {ops : Array Oper} {Q : Exit → Act → World → Prop} {rest : List Oper} {o : Oper} {a : Act} {w : World} {n : Nat} {l : List (Nat × Value)} {L : List Asn} {C : Value → List Asn → Prop}
theorem rtA {v : Value} (h : RT o l L n v := by (first | (apply rt_eqT; (exact rfl); (exact rfl); (exact rfl)) | (apply rt_neT; (exact rfl); (exact rfl); (exact rfl)) | (exact rt_pure rfl) | (apply rt_extract; (exact rfl); (exact rfl); (exact rfl)) | (apply rt_field; (exact rfl); (exact rfl); (exact inferInstance); (exact rfl)) | (apply rt_load; (exact rfl); (exact rfl); (exact inferInstance); (focus ((repeat (first | exact Pull.here | apply Pull.there)); done)); (exact rfl)) | (apply rt_loadA; (exact rfl); (exact rfl); (exact inferInstance); (focus ((repeat (first | exact Pull.here | apply Pull.there)); done)); (exact rfl)) | (apply rt_add; (exact rfl); (exact rfl); (exact rfl); (focus (first | omega | ((simp only [maxLen, List.length_append, List.length_cons, List.length_nil] at *); omega))); (focus (first | omega | ((simp only [maxLen, List.length_append, List.length_cons, List.length_nil] at *); omega)))) | (apply rt_sub; (exact rfl); (exact rfl); (exact rfl); (focus (first | omega | ((simp only [maxLen, List.length_append, List.length_cons, List.length_nil] at *); omega))); (focus (first | omega | ((simp only [maxLen, List.length_append, List.length_cons, List.length_nil] at *); omega)))) | (apply rt_addu; (exact rfl); (exact rfl); (exact rfl); (focus (first | omega | ((simp only [maxLen, List.length_append, List.length_cons, List.length_nil] at *); omega))); (focus (first | omega | ((simp only [maxLen, List.length_append, List.length_cons, List.length_nil] at *); omega)))) | (apply rt_subu; (exact rfl); (exact rfl); (exact rfl); (focus (first | omega | ((simp only [maxLen, List.length_append, List.length_cons, List.length_nil] at *); omega))); (focus (first | omega | ((simp only [maxLen, List.length_append, List.length_cons, List.length_nil] at *); omega)))) | (apply rt_conv; (exact rfl); (exact rfl); (exact inferInstance); (exact inferInstance); (focus (first | assumption | exact IntWalk.i64_in _ (by omega) | exact u64_in (by omega) (by omega) | exact IntWalk.u8_in _ (by omega) | exact rfl))) | (apply rt_indexA; (exact rfl); (exact rfl); (exact rfl); (exact inferInstance); (focus (first | omega | ((simp only [maxLen, List.length_append, List.length_cons, List.length_nil] at *); omega))); (focus (first | omega | ((simp only [maxLen, List.length_append, List.length_cons, List.length_nil] at *); omega))); (exact rfl)) | (apply rt_indexS; (exact rfl); (exact rfl); (exact rfl); (exact inferInstance); (focus (first | omega | ((simp only [maxLen, List.length_append, List.length_cons, List.length_nil] at *); omega))); (focus (first | omega | ((simp only [maxLen, List.length_append, List.length_cons, List.length_nil] at *); omega))); (exact rfl)) | (apply rt_eql1; (exact rfl); (exact rfl); (exact rfl); (exact inferInstance); (exact rfl)) | (apply rt_neq1; (exact rfl); (exact rfl); (exact rfl); (exact inferInstance); (exact rfl)) | (apply rt_eql; (exact rfl); (exact rfl); (exact rfl); (exact inferInstance); (exact rfl)) | (apply rt_neq; (exact rfl); (exact rfl); (exact rfl); (exact inferInstance); (exact rfl)) | (apply rt_loadS; (exact rfl); (exact rfl); (exact inferInstance); (focus ((repeat (first | exact Pull.here | apply Pull.there)); done)); (exact rfl)) | (apply rt_eqb; (exact rfl); (exact rfl); (exact rfl); (exact inferInstance)) | (apply rt_neb; (exact rfl); (exact rfl); (exact rfl); (exact inferInstance)) | (apply rt_min; (exact rfl); (exact rfl); (exact rfl)) | (apply rt_max; (exact rfl); (exact rfl); (exact rfl)) | (apply rt_build; (exact rfl); (exact inferInstance); (exact inferInstance); (exact rfl); (exact rfl)) | (apply rt_buildA; (exact rfl); (exact inferInstance); (exact inferInstance); (exact rfl); (exact rfl); (exact rfl); (exact rfl); (exact rfl); (exact rfl)) | (apply rt_rem; (exact rfl); (exact rfl); (exact rfl); (focus (first | omega | ((simp only [maxLen, List.length_append, List.length_cons, List.length_nil] at *); omega))); (focus (first | omega | ((simp only [maxLen, List.length_append, List.length_cons, List.length_nil] at *); omega)))) | (apply rt_quo; (exact rfl); (exact rfl); (exact rfl); (focus (first | omega | ((simp only [maxLen, List.length_append, List.length_cons, List.length_nil] at *); omega))); (focus (first | omega | ((simp only [maxLen, List.length_append, List.length_cons, List.length_nil] at *); omega))); (focus (first | assumption | exact IntWalk.i64_in _ (by omega) | exact u64_in (by omega) (by omega) | exact IntWalk.u8_in _ (by omega) | exact rfl))) | (apply rt_mul; (exact rfl); (exact rfl); (exact rfl); (focus (first | omega | ((simp only [maxLen, List.length_append, List.length_cons, List.length_nil] at *); omega))); (focus (first | omega | ((simp only [maxLen, List.length_append, List.length_cons, List.length_nil] at *); omega)))) | (apply rt_lenG; (exact rfl); (exact rfl); (exact rfl); (exact inferInstance); (first | (focus ((repeat (first | assumption | apply GS.tail)); done)) | (apply gs_old; assumption; (focus ((repeat (first | exact Pull.here | apply Pull.there)); done))) | (apply gs_oldT; assumption; (focus ((repeat (first | exact Pull.here | apply Pull.there)); done))) | (apply gs_own; (focus ((repeat (first | exact Pull.here | apply Pull.there)); done))) | exact GS.nil _ _)) | (apply rt_lenS; (exact rfl); (exact rfl); (exact rfl); (exact inferInstance)) | (apply rt_indexG; (exact rfl); (exact rfl); (exact rfl); (exact inferInstance); (first | (focus ((repeat (first | assumption | apply GS.tail)); done)) | (apply gs_old; assumption; (focus ((repeat (first | exact Pull.here | apply Pull.there)); done))) | (apply gs_oldT; assumption; (focus ((repeat (first | exact Pull.here | apply Pull.there)); done))) | (apply gs_own; (focus ((repeat (first | exact Pull.here | apply Pull.there)); done))) | exact GS.nil _ _); (focus (first | omega | ((simp only [maxLen, List.length_append, List.length_cons, List.length_nil] at *); omega))); (focus (first | omega | ((simp only [maxLen, List.length_append, List.length_cons, List.length_nil] at *); omega)))) | (apply rt_elemF; (exact rfl); (exact rfl); (exact inferInstance); (first | (focus ((repeat (first | assumption | apply GS.tail)); done)) | (apply gs_old; assumption; (focus ((repeat (first | exact Pull.here | apply Pull.there)); done))) | (apply gs_oldT; assumption; (focus ((repeat (first | exact Pull.here | apply Pull.there)); done))) | (apply gs_own; (focus ((repeat (first | exact Pull.here | apply Pull.there)); done))) | exact GS.nil _ _); (exact inferInstance); assumption; (exact rfl)) | (apply rt_elem1; (exact rfl); (exact rfl); (exact inferInstance); (first | (focus ((repeat (first | assumption | apply GS.tail)); done)) | (apply gs_old; assumption; (focus ((repeat (first | exact Pull.here | apply Pull.there)); done))) | (apply gs_oldT; assumption; (focus ((repeat (first | exact Pull.here | apply Pull.there)); done))) | (apply gs_own; (focus ((repeat (first | exact Pull.here | apply Pull.there)); done))) | exact GS.nil _ _); (exact inferInstance); assumption; (exact rfl)) | (apply rt_elemA; (exact rfl); (exact rfl); (exact inferInstance); (first | (focus ((repeat (first | assumption | apply GS.tail)); done)) | (apply gs_old; assumption; (focus ((repeat (first | exact Pull.here | apply Pull.there)); done))) | (apply gs_oldT; assumption; (focus ((repeat (first | exact Pull.here | apply Pull.there)); done))) | (apply gs_own; (focus ((repeat (first | exact Pull.here | apply Pull.there)); done))) | exact GS.nil _ _); (exact inferInstance); (exact rfl); assumption) | (apply rt_lenStr; (exact rfl); (exact rfl); (exact rfl); (exact inferInstance)) | (apply rt_byte; (exact rfl); (exact rfl); (exact rfl); (exact inferInstance); (focus (first | omega | ((simp only [maxLen, List.length_append, List.length_cons, List.length_nil] at *); omega))); assumption) | (apply rt_mid; (exact rfl); (exact rfl); (exact rfl); (exact rfl); (exact inferInstance); (focus (first | omega | ((simp only [maxLen, List.length_append, List.length_cons, List.length_nil] at *); omega))); (focus (first | omega | ((simp only [maxLen, List.length_append, List.length_cons, List.length_nil] at *); omega))); (focus (first | omega | ((simp only [maxLen, List.length_append, List.length_cons, List.length_nil] at *); omega)))) | (apply rt_midFrom; (exact rfl); (exact rfl); (exact rfl); (exact inferInstance); (focus (first | omega | ((simp only [maxLen, List.length_append, List.length_cons, List.length_nil] at *); omega))); (focus (first | omega | ((simp only [maxLen, List.length_append, List.length_cons, List.length_nil] at *); omega)))) | (apply rt_midTo; (exact rfl); (exact rfl); (exact rfl); (exact inferInstance); (focus (first | omega | ((simp only [maxLen, List.length_append, List.length_cons, List.length_nil] at *); omega))); (focus (first | omega | ((simp only [maxLen, List.length_append, List.length_cons, List.length_nil] at *); omega)))) | (apply rt_cat; (exact rfl); (exact rfl); (exact rfl); (focus (first | omega | ((simp only [maxLen, List.length_append, List.length_cons, List.length_nil] at *); omega)))) | (apply rt_sliceA; (exact rfl); (exact rfl); (exact rfl); (exact inferInstance); (focus (first | omega | ((simp only [maxLen, List.length_append, List.length_cons, List.length_nil] at *); omega))); (focus (first | omega | ((simp only [maxLen, List.length_append, List.length_cons, List.length_nil] at *); omega)))) | (apply rt_nils; (exact rfl); (exact rfl); (exact rfl); (exact inferInstance)) | (apply rt_nenils; (exact rfl); (exact rfl); (exact rfl); (exact inferInstance)) | (apply rt_nilp; (exact rfl); (exact rfl); (exact rfl); (exact inferInstance)) | (apply rt_nenilp; (exact rfl); (exact rfl); (exact rfl); (exact inferInstance)) | (apply rt_neg; (exact rfl); (exact rfl); (exact rfl)) | fail | (apply rt_arith; (exact rfl); (exact rfl); (exact rfl); (exact rfl)))) : RT o l L n v := h
theorem acB {v : Value} {L' : List Asn} (h : C v L') (s : C v L' → AC o l L n C := by (intro h; first | (apply ac_store; (exact rfl); (exact rfl); (exact inferInstance); (exact rfl); (exact rfl); (focus ((repeat (first | exact Rep.here | apply Rep.there)); done)); (exact rfl); (exact h)) | (apply ac_storeW; (exact rfl); (exact rfl); (exact inferInstance); (exact rfl); (exact rfl); (exact rfl); (focus ((repeat (first | exact Rep.here | apply Rep.there)); done)); (exact rfl); (exact h)) | (apply ac_storeA; (exact rfl); (exact rfl); (exact inferInstance); (exact rfl); (exact rfl); (exact rfl); (focus ((repeat (first | exact Rep.here | apply Rep.there)); done)); (exact rfl); (exact h)))) : AC o l L n C := s h
theorem acA {fv : Nat → Value} {fL : Nat → List Asn} (h : ∀ b, C (fv b) (fL b)) (s : (∀ b, C (fv b) (fL b)) → AC o l L n C := by (intro h; first | (apply ac_boxA; (exact rfl); (exact rfl); (exact h)) | (apply ac_box; (exact rfl); (exact rfl); (exact rfl); (exact h)) | (apply ac_alloc; (exact rfl); (exact inferInstance); (exact h)) | (apply ac_buildSlice; (exact rfl); (exact inferInstance); (exact rfl); (exact rfl); (exact rfl); (exact rfl); (exact rfl); (exact rfl); (exact h)))) : AC o l L n C := s h
theorem sv1 (F : Fr a n l) (M : Mem w L) {d : Nat} {v : Value} (h : ∀ a', Fr a' n ((d, v) :: l) → wpList Try.prog ops Q rest a' w)
    (hw : Wanted o ops l = some true := by exact rfl) (hd : o.dst = some d := by exact rfl) (hn : Nat.ble (d + 1) n = true := by exact rfl) (hr : RT o l L n v := by exact rtA) : wpList Try.prog ops Q (o :: rest) a w := sv_run F M hw hd hn hr h
theorem sv2 (F : Fr a n l) (M : Mem w L) {d : Nat} {fv : Nat → Value} {fL : Nat → List Asn} (h : ∀ b a' w', Fr a' n ((d, fv b) :: l) → Mem w' (fL b) → wpList Try.prog ops Q rest a' w')
    (hw : Wanted o ops l = some true := by exact rfl) (hd : o.dst = some d := by exact rfl) (hn : Nat.ble (d + 1) n = true := by exact rfl)
    (s : ∀ C : Value → List Asn → Prop, (∀ b, C (fv b) (fL b)) → AC o l L n C := by (intro C h; exact acA h)) : wpList Try.prog ops Q (o :: rest) a w := sv_act F M hw hd hn (s _ h)
theorem sv3 (F : Fr a n l) (M : Mem w L) {v : Value} {L' : List Asn} (h : ∀ w', Mem w' L' → wpList Try.prog ops Q rest a w')
    (hw : Wanted o ops l = some true := by exact rfl) (hd : o.dst = none := by exact rfl)
    (s : ∀ C : Value → List Asn → Prop, C v L' → AC o l L n C := by (intro C h; exact acB h)) : wpList Try.prog ops Q (o :: rest) a w := sv_act0 F M hw hd (s _ h)
theorem svK (F : Fr a n l) {d : Nat} (h : ∀ a', Fr a' n ((d, undef) :: l) → wpList Try.prog ops Q rest a' w) (hw : Wanted o ops l = some false := by exact rfl) (hd : o.dst = some d := by exact rfl) (hn : Nat.ble (d + 1) n = true := by exact rfl) : wpList Try.prog ops Q (o :: rest) a w := sx_skip F hw hd hn h
theorem svK0 (F : Fr a n l) (h : wpList Try.prog ops Q rest a w) (hw : Wanted o ops l = some false := by exact rfl) (hd : o.dst = none := by exact rfl) : wpList Try.prog ops Q (o :: rest) a w := sx_skip0 F hw hd h
/-- An operation that acts by a contract: what is asked of it. -/
theorem svC (F : Fr a n l) (M : Mem w L) {d : Nat} (h : AC o l L n (fun v L' => ∀ a' w', Fr a' n ((d, v) :: l) → Mem w' L' → wpList Try.prog ops Q rest a' w')) (hw : Wanted o ops l = some true := by exact rfl) (hd : o.dst = some d := by exact rfl) (hn : Nat.ble (d + 1) n = true := by exact rfl) : wpList Try.prog ops Q (o :: rest) a w := sv_act F M hw hd hn h
theorem svC0 (F : Fr a n l) (M : Mem w L) (h : AC o l L n (fun v L' => ∀ w', Mem w' L' → wpList Try.prog ops Q rest a w')) (hw : Wanted o ops l = some true := by exact rfl) (hd : o.dst = none := by exact rfl) : wpList Try.prog ops Q (o :: rest) a w := sv_act0 F M hw hd h
/-- A call. -/
theorem acCall {f : Operand} {xs : Array Operand} {ats : Array TypeId} {k : FuncId} {caps : Array Value} {vs us : List Value} (hs : Spec k us L C) (ho : o.op = .call { callee := .value f, args := xs, argTypes := ats } := by exact rfl) (hf : evl l f = some (.func (.func k) #[] caps) := by exact rfl) (hfk : FK k := by exact inferInstance) (hx : evls l xs.toList = some vs := by exact rfl) (hu : vs ++ caps.toList = us := by exact rfl) : AC o l L n C := ac_call ho hf hfk hx hu hs
/-- What a slot that must be read again holds. -/
theorem rvsA {js : List Nat} (h : Rvs Try.prog ops n js l L := by (first | (focus ((repeat (first | exact rvs_nil | ((apply rvs_run); (exact rfl); (exact rfl); (exact rfl); (exact rfl); (exact rtA)) | ((apply rvs_skip); (exact rfl); (exact rfl); (exact rfl); (exact rfl)))); done)) | fail)) : Rvs Try.prog ops n js l L := h
section
variable {E Fl : List Nat} {S : List (Nat × List Nat)} {σ done : List Nat} {i : Nat}
theorem pv1 {d : Nat} {v : Value} (h : PW Try.prog ops n Q E Fl S σ (i :: done) ((d, v) :: l) L) (hi : ops[i]? = some o := by exact rfl) (hf : Fl.contains i = false := by exact rfl) (he : E.contains i = false := by exact rfl) (hw : Wanted o ops l = some true := by exact rfl) (hd : o.dst = some d := by exact rfl) (hr : RT o l L n v := by exact rtA) :
    PW Try.prog ops n Q E Fl S (i :: σ) done l L := pv_run hi hf he hw hd hr h
theorem pv2 {d : Nat} {fv : Nat → Value} {fL : Nat → List Asn} {js : List Nat} (h : ∀ b, PW Try.prog ops n Q E Fl S σ (i :: done) ((d, fv b) :: l) (fL b)) (hi : ops[i]? = some o := by exact rfl) (hf : Fl.contains i = false := by exact rfl) (he : E.contains i = true := by exact rfl) (hw : Wanted o ops l = some true := by exact rfl) (hd : o.dst = some d := by exact rfl) (hj : lookS S i = js := by exact rfl)
    (s : ∀ C : Value → List Asn → Prop, (∀ b, C (fv b) (fL b)) → AC o l L n C := by (intro C h; exact acA h)) (hr : ∀ b, Rvs Try.prog ops n js ((d, fv b) :: l) (fL b) := by (intro b; exact rvsA)) : PW Try.prog ops n Q E Fl S (i :: σ) done l L := pv_act hi hf he hw hd hj (s _ fun b => ⟨hr b, h b⟩)
theorem pv3 {v : Value} {L' : List Asn} {js : List Nat} (h : PW Try.prog ops n Q E Fl S σ (i :: done) l L') (hi : ops[i]? = some o := by exact rfl) (hf : Fl.contains i = false := by exact rfl) (he : E.contains i = true := by exact rfl) (hw : Wanted o ops l = some true := by exact rfl) (hd : o.dst = none := by exact rfl) (hj : lookS S i = js := by exact rfl)
    (s : ∀ C : Value → List Asn → Prop, C v L' → AC o l L n C := by (intro C h; exact acB h)) (hr : Rvs Try.prog ops n js l L' := by exact rvsA) : PW Try.prog ops n Q E Fl S (i :: σ) done l L := pv_act0 hi hf he hw hd hj (s _ ⟨hr, h⟩)
theorem pvC {d : Nat} {js : List Nat} (h : AC o l L n (fun v L' => Rvs Try.prog ops n js ((d, v) :: l) L' ∧ PW Try.prog ops n Q E Fl S σ (i :: done) ((d, v) :: l) L')) (hi : ops[i]? = some o := by exact rfl) (hf : Fl.contains i = false := by exact rfl) (he : E.contains i = true := by exact rfl) (hw : Wanted o ops l = some true := by exact rfl) (hd : o.dst = some d := by exact rfl) (hj : lookS S i = js := by exact rfl) :
    PW Try.prog ops n Q E Fl S (i :: σ) done l L := pv_act hi hf he hw hd hj h
theorem pvC0 {js : List Nat} (h : AC o l L n (fun v L' => Rvs Try.prog ops n js l L' ∧ PW Try.prog ops n Q E Fl S σ (i :: done) l L')) (hi : ops[i]? = some o := by exact rfl) (hf : Fl.contains i = false := by exact rfl) (he : E.contains i = true := by exact rfl) (hw : Wanted o ops l = some true := by exact rfl) (hd : o.dst = none := by exact rfl) (hj : lookS S i = js := by exact rfl) :
    PW Try.prog ops n Q E Fl S (i :: σ) done l L := pv_act0 hi hf he hw hd hj h
theorem pvF {t : TypeId} {cs : List Value} {d : Nat} (h : ∀ b, PW Try.prog ops n Q E Fl S σ (i :: done) ((d, .pointer (some ⟨b, 0, none⟩)) :: l) (pt b cs t :: L)) (hi : ops[i]? = some o := by exact rfl) (hf : Fl.contains i = true := by exact rfl) (ho : o.op = .alloc t := by exact rfl) (hz : ZT t cs := by exact inferInstance) (hd : o.dst = some d := by exact rfl) : PW Try.prog ops n Q E Fl S (i :: σ) done l L := pv_float hi hf ho hz hd h
theorem pvK {d : Nat} (h : PW Try.prog ops n Q E Fl S σ (i :: done) ((d, undef) :: l) L) (hi : ops[i]? = some o := by exact rfl) (hf : Fl.contains i = false := by exact rfl) (hw : Wanted o ops l = some false := by exact rfl) (hd : o.dst = some d := by exact rfl) : PW Try.prog ops n Q E Fl S (i :: σ) done l L := by
  cases he : E.contains i
  · exact pv_skip hi hf he hw hd h
  · exact pv_skipE hi hf he hw hd h
theorem pvK0 (h : PW Try.prog ops n Q E Fl S σ (i :: done) l L) (hi : ops[i]? = some o := by exact rfl) (hf : Fl.contains i = false := by exact rfl) (he : E.contains i = true := by exact rfl) (hw : Wanted o ops l = some false := by exact rfl) (hd : o.dst = none := by exact rfl) : PW Try.prog ops n Q E Fl S (i :: σ) done l L := pv_skipE0 hi hf he hw hd h
end
/-- The tests. -/
theorem svT {c : Operand} {x y : Code} (F : Fr a n l) (h : x.wp Try.prog Q a w) (hc : evl l c = some (.bool true) := by exact rfl) : (Code.cond c x y).wp Try.prog Q a w := sx_cond_t F hc h
theorem svF {c : Operand} {x y : Code} (F : Fr a n l) (h : y.wp Try.prog Q a w) (hc : evl l c = some (.bool false) := by exact rfl) : (Code.cond c x y).wp Try.prog Q a w := sx_cond_f F hc h
theorem tidyA {b : Bool} {p q : Prop} (hp : b = true → p := by (intro hc; first | ((try simp only [decide_eq_true_eq, decide_eq_false_iff_not, Bool.not_eq_true, Bool.not_eq_false, Bool.not_eq_true', Bool.not_eq_false', ne_eq, not_true_eq_false, not_false_eq_true, Decidable.not_not, Bool.and_eq_true, Bool.or_eq_true, Bool.and_eq_false_iff, Bool.or_eq_false_iff, beq_iff_eq, beq_eq_false_iff_ne, bne_iff_ne] at hc); exact hc) | exact hc)) (hq : b = false → q := by (intro hc; first | ((try simp only [decide_eq_true_eq, decide_eq_false_iff_not, Bool.not_eq_true, Bool.not_eq_false, Bool.not_eq_true', Bool.not_eq_false', ne_eq, not_true_eq_false, not_false_eq_true, Decidable.not_not, Bool.and_eq_true, Bool.or_eq_true, Bool.and_eq_false_iff, Bool.or_eq_false_iff, beq_iff_eq, beq_eq_false_iff_ne, bne_iff_ne] at hc); exact hc) | exact hc)) : (b = true → p) ∧ (b = false → q) := ⟨hp, hq⟩
theorem svB {c : Operand} {x y : Code} {b : Bool} {p q : Prop} (F : Fr a n l) (h1 : p → x.wp Try.prog Q a w) (h2 : q → y.wp Try.prog Q a w) (hc : evl l c = some (.bool b) := by exact rfl) (ht : (b = true → p) ∧ (b = false → q) := by exact tidyA) : (Code.cond c x y).wp Try.prog Q a w := sx_cond_b F hc (fun h => h1 (ht.1 h)) fun h => h2 (ht.2 h)
/-- Not this way. -/
theorem no {G p : Prop} (hc : p) (h : p → False := by (intro hc; first | exact hc | exact hc rfl | contradiction | omega | ((simp only [decide_eq_true_eq, decide_eq_false_iff_not, ne_eq, Decidable.not_not, Bool.not_eq_true', Bool.not_eq_false'] at hc); first | contradiction | exact hc rfl | omega) | (simp at hc; done) | fail)) : G := (h hc).elim
/-- The order of the parts; a loop's frame. -/
theorem pullA {L L' : List Asn} {A : Asn} (h : Pull L A L' := by (first | (focus ((repeat (first | exact Pull.here | apply Pull.there)); done)) | fail)) : Pull L A L' := h
theorem gsA {L : List Asn} {size m : Nat} {v : Value} {xs : List Value} (h : GS L size v m xs := by (first | (first | (focus ((repeat (first | assumption | apply GS.tail)); done)) | (apply gs_old; assumption; (focus ((repeat (first | exact Pull.here | apply Pull.there)); done))) | (apply gs_oldT; assumption; (focus ((repeat (first | exact Pull.here | apply Pull.there)); done))) | (apply gs_own; (focus ((repeat (first | exact Pull.here | apply Pull.there)); done))) | exact GS.nil _ _) | fail)) : GS L size v m xs := h
theorem gvA {L : List Asn} {φ : World → Prop} (h : Gives L φ := by (first | (focus ((repeat (first | assumption | (exact Gives.app (by assumption)) | apply Gives.tail)); done)) | fail)) : Gives L φ := h
theorem permsA {L L' : List Asn} (h : Perms L L' := by (first | (focus ((repeat (first | exact Perms.rest | exact Perms.nil | (apply Perms.cons; (focus ((repeat (first | exact Pull.here | apply Pull.there)); done))) | apply Perms.skip)); done)) | fail)) : Perms L L' := h
theorem kpA {l l' : List (Nat × Value)} (h : ∀ p ∈ l', look l p.1 = some p.2 := by (first | (focus ((repeat (first | exact keep_nil | (apply keep_cons; (exact rfl)))); done)) | fail)) : ∀ p ∈ l', look l p.1 = some p.2 := h
theorem svEnd {fn : Func} {R : Ending → World → Prop} {rs : List ResultVar} {vs : List Value} {v : Value} (F : Fr a n l) (M : Mem w L) (hR : R (.returned v) w) (hf : fn.results = rs.toArray := by exact rfl) (hr : Ress L l rs vs := by (first | (focus ((repeat (first | exact Ress.nil | (apply Ress.cons) | (apply Res.tmp; exact rfl) | (apply Res.agg; (exact rfl); (exact inferInstance); ((focus ((repeat (first | exact Pull.here | apply Pull.there)); done))); (exact rfl)) | (apply Res.one; (exact rfl); (exact inferInstance); ((focus ((repeat (first | exact Pull.here | apply Pull.there)); done))); (exact rfl)))); done)) | fail)) (hv : tupOf vs = v := by exact rfl) : bodyPost Try.prog fn R .normal a w := sx_end F M hf hr hv hR
theorem svRet {fn : Func} {R : Ending → World → Prop} {rs : List ResultVar} {vs : List Value} {v : Value} (F : Fr a n l) (M : Mem w L) (hR : R (.returned v) w) (hf : fn.results = rs.toArray := by exact rfl) (hr : Ress L l rs vs := by (first | (focus ((repeat (first | exact Ress.nil | (apply Ress.cons) | (apply Res.tmp; exact rfl) | (apply Res.agg; (exact rfl); (exact inferInstance); ((focus ((repeat (first | exact Pull.here | apply Pull.there)); done))); (exact rfl)) | (apply Res.one; (exact rfl); (exact inferInstance); ((focus ((repeat (first | exact Pull.here | apply Pull.there)); done))); (exact rfl)))); done)) | fail)) (hv : tupOf vs = v := by exact rfl) : bodyPost Try.prog fn R .ret a w := sx_ret F M hf hr hv hR
theorem svDraw {id : Nat} (E Fl : List Nat) (S : List (Nat × List Nat)) (σ : List Nat) (F : Fr a n l) (M : Mem w L) (h : PW Try.prog ops n Q E Fl S σ [] l L) (hok : drawOK ops E Fl S σ n = true := by kernel_rfl) (hFl : FlOK Try.prog ops Fl := by (first | (focus ((repeat (first | exact flok_nil | (apply flok_cons; (exact rfl); (exact rfl); (exact inferInstance); (exact rfl); (exact rfl)))); done)) | fail)) : (Code.region id ops true).wp Try.prog Q a w := sv_draw E Fl S σ F M hok hFl h
theorem rt_neqT {α : Type} [DecidableEq α] {f : α → List Value} {t ty : TypeId} {x y : Operand} (ho : o.op = .binOp .neq t x y ty) {p q : α} (hx : evl l x = some (.agg (f p).toArray)) (hy : evl l y = some (.agg (f q).toArray)) {ks : List Sc} (he : EQ t ks) (hf : EQF f ks) : RT o l L n (.bool (decide (p ≠ q))) := by
  have := rt_neq (L := L) (n := n) ho hx hy he (hf.k p q)
  simpa using this
theorem rt_eqlT {α : Type} [DecidableEq α] {f : α → List Value} {t ty : TypeId} {x y : Operand} (ho : o.op = .binOp .eql t x y ty) {p q : α} (hx : evl l x = some (.agg (f p).toArray)) (hy : evl l y = some (.agg (f q).toArray)) {ks : List Sc} (he : EQ t ks) (hf : EQF f ks) : RT o l L n (.bool (decide (p = q))) := by
  have := rt_eql (L := L) (n := n) ho hx hy he (hf.k p q)
  simpa using this
/-- Of what is known of a frame, all but these slots. -/
def restO : List Nat → List (Nat × Value) → Option (List (Nat × Value))
  | _, [] => some []
  | ds, (s, v) :: r => match hasN ds s, restO ds r with
    | true, some r' => some r'
    | false, some r' => some ((s, v) :: r')
    | _, none => none
theorem restO_look : ∀ (l : List (Nat × Value)) (ds : List Nat) {l' : List (Nat × Value)}, restO ds l = some l' → ∀ t v, look l' t = some v → hasN ds t = false ∧ look l t = some v
  | [], ds, l', h, t, v, ht => by simp [restO] at h; subst h; simp [look] at ht
  | (s, u) :: r, ds, l', h, t, v, ht => by
    simp only [restO] at h
    cases hk : hasN ds s with
    | true =>
      rw [hk] at h
      cases hr : restO ds r with
      | none => rw [hr] at h; cases h
      | some r' =>
        rw [hr] at h
        obtain rfl := Option.some.inj h
        obtain ⟨h1, h2⟩ := restO_look r ds hr t v ht
        refine ⟨h1, ?_⟩
        have hst : s ≠ t := fun e => by rw [e, h1] at hk; cases hk
        simp only [look, nbeq hst]; exact h2
    | false =>
      rw [hk] at h
      cases hr : restO ds r with
      | none => rw [hr] at h; cases h
      | some r' =>
        rw [hr] at h
        obtain rfl := Option.some.inj h
        simp only [look] at ht ⊢
        by_cases hst : s = t
        · subst hst
          rw [show Nat.beq s s = true from Nat.beq_refl s] at ht ⊢
          exact ⟨hk, ht⟩
        · rw [nbeq hst] at ht ⊢
          exact restO_look r ds hr t v ht
def slotsL : List (Nat × Value) → List Nat
  | [] => []
  | (s, _) :: r => s :: slotsL r
theorem slotsL_look : ∀ (l : List (Nat × Value)) (t : Nat), hasN (slotsL l) t = false → look l t = none
  | [], t, _ => rfl
  | (s, v) :: r, t, h => by
    simp only [slotsL, hasN] at h
    by_cases hst : s = t
    · subst hst
      rw [show Nat.beq s s = true from Nat.beq_refl s] at h; cases h
    · rw [nbeq hst] at h
      simp only [look, nbeq hst]
      exact slotsL_look r t h
theorem look_append : ∀ (l r : List (Nat × Value)) (t : Nat), look (l ++ r) t = (match look l t with | some v => some v | none => look r t)
  | [], r, t => rfl
  | (s, v) :: l, r, t => by
    simp only [List.cons_append, look]
    by_cases hst : s = t
    · subst hst
      rw [show Nat.beq s s = true from Nat.beq_refl s]; rfl
    · rw [nbeq hst]
      exact look_append l r t
theorem hasN_append : ∀ (a b : List Nat) (t : Nat), hasN (a ++ b) t = (hasN a t || hasN b t)
  | [], b, t => by simp [hasN]
  | x :: a, b, t => by
    simp only [List.cons_append, hasN]
    by_cases h : x = t
    · subst h
      rw [show Nat.beq x x = true from Nat.beq_refl x]; rfl
    · rw [nbeq h]
      exact hasN_append a b t
/-- These parts taken out of memory; the others. -/
inductive Pulls : List Asn → List Asn → List Asn → Prop where
  | nil {L : List Asn} : Pulls L [] L
  | cons {L L1 R As : List Asn} {A : Asn} : Pull L A L1 → Pulls L1 As R → Pulls L (A :: As) R
theorem Mem.pulls {L As R : List Asn} {w : World} (h : Pulls L As R) (M : Mem w L) : Mem w (As ++ R) := by
  have key : ∀ {L As R : List Asn}, Pulls L As R → ∀ {s : List Nat} {w : World}, Sat L s w → ∃ s', Sat (As ++ R) s' w ∧ ∀ b ∈ s', b ∈ s := by
    intro L As R h
    induction h with
    | nil => exact fun hs => ⟨_, hs, fun _ h => h⟩
    | cons hp _ ih =>
      intro s w hs
      obtain ⟨s1, k1, k2⟩ := hs.pull hp
      cases k1 with
      | @cons _ _ sa ra _ m1 m2 m3 =>
        obtain ⟨s2, q1, q2⟩ := ih m2
        refine ⟨_, .cons m1 q1 fun b hb hm => m3 b hb (q2 b hm), fun b hb => ?_⟩
        rcases List.mem_append.1 hb with hb | hb
        · exact (k2 b).1 (by simp [hb])
        · exact (k2 b).1 (by simp [q2 b hb])
  obtain ⟨s, hs⟩ := M
  obtain ⟨s', h1, _⟩ := key h hs
  exact ⟨s', h1⟩
/-- A loop. dl, dL: what turns of the frame and of memory, by the ghost state; fg: slots that are forgotten; all else stays. -/
theorem svLoop {c : Code} {σ : Type} (F : Fr a n l) (M : Mem w L) (s0 : σ) (dl : σ → List (Nat × Value)) (dL : σ → List Asn) (Pf : σ → Prop) (μ : σ → Nat) (fg : List Nat) {st : List (Nat × Value)} {R : List Asn} (hP : Pf s0)
    (round : ∀ s, Pf s → ∀ a w, Fr a n (dl s ++ st) → Mem w (dL s ++ R) → c.wp Try.prog (Exit.then (fun a' w' => ∃ s', (Fr a' n (dl s' ++ st) ∧ Mem w' (dL s' ++ R) ∧ Pf s') ∧ μ s' < μ s) Q) a w)
    (hs : restO (fg ++ slotsL (dl s0)) l = some st := by exact rfl) (h0 : ∀ p ∈ dl s0, look l p.1 = some p.2 := by (first | (focus ((repeat (first | exact keep_nil | (apply keep_cons; (exact rfl)))); done)) | fail)) (hR : Pulls L (dL s0) R := by (first | (focus ((repeat (first | exact Pulls.nil | (apply Pulls.cons; (focus ((repeat (first | exact Pull.here | apply Pull.there)); done))))); done)) | fail)) : (Code.loop c).wp Try.prog Q a w :=
  wp_loop_ghost (fun s a w => Fr a n (dl s ++ st) ∧ Mem w (dL s ++ R) ∧ Pf s) μ (fun s a w ⟨h1, h2, h3⟩ => round s h3 a w h1 h2) s0 ⟨⟨F.ds, F.size, fun t v ht => by
    rw [look_append] at ht
    have F1 := F.keep h0
    cases hl : look (dl s0) t with
    | some u =>
      rw [hl] at ht
      obtain rfl := Option.some.inj ht
      exact F1.val t u hl
    | none =>
      rw [hl] at ht
      exact F.val t v (restO_look l _ hs t v ht).2⟩, Mem.pulls hR M, hP⟩
theorem own_sl {e : TypeId} {size : Nat} {v : Value} {m : Nat} {xs : List Value} {L' : List Asn} {w : World} (M : Mem w (own e size v m xs :: L')) : ∃ h, v = sl h := by
  obtain ⟨r, hs, _⟩ := M.head
  rcases hs.2 with ⟨rfl, _, _⟩ | ⟨g, cap, cur, rfl, _⟩
  · exact ⟨⟨none, 0, 0⟩, rfl⟩
  · exact ⟨⟨some ⟨g, 0, none⟩, m, cap⟩, rfl⟩
/-- Append of elements. -/
theorem ac_appendH {α : Type} {f : α → List Value} {x y : Operand} {t : TypeId} {ats : Array TypeId} (ho : o.op = .call { callee := .builtin .append, args := #[x, y], argTypes := ats }) (hat : ats = #[t, t]) {e : TypeId} {z : Value} {k bytes : Nat} (ht : ST t e z k bytes) {v : Value} (hx : evl l x = some v) {u : Value} (hy : evl l y = some u)
    {xs ys : List α} {L' : List Asn} (hp : Pull L (ownT e f k v xs) L') (he : EL f k) {m : Nat} {cs : List Value} (hg : GS L k u m cs) (hm : m = ys.length) (hcs : cs = ys.flatMap f) (hb : (xs.length + ys.length) * (bytes + 1) ≤ 140737488355328)
    (h : ∀ v', C (sl v') (ownT e f k (sl v') (xs ++ ys) :: L')) : AC o l L n C := fun G a w F M => by
  subst hat; subst hm; subst hcs
  have hb1 : (xs.length + ys.length) * bytes ≤ 140737488355328 := Nat.le_trans (Nat.mul_le_mul_left _ (Nat.le_succ _)) hb
  have hb2 : xs.length + ys.length ≤ 140737488355328 := Nat.le_trans (Nat.le_mul_of_pos_right _ (Nat.succ_pos _)) hb
  obtain ⟨v', w', hr, hM⟩ := append_run (ty := o.type) ht (M.pull (hp.app G)) (hg w M.drop_app) (flat_one ys) (by simp only [maxLen]; omega) hb1
  have : (execOp a.eval o).run Try.prog w = .ok (.value v') w' := by
    unfold execOp
    rw [ho]
    simp [resolve, invoke, builtin, F.eval hx, F.eval hy, hr]
  rw [this]
  obtain ⟨h', rfl⟩ := own_sl hM
  have := h h'
  rw [ownT, List.length_append, List.flatMap_append] at this
  exact ⟨_, this, hM⟩
end
end Go.Proofs.Ytdlihlfknedpfaa
