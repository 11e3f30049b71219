import Derived.Test.YtaggjikjohamjaaGreatDoorZsa
set_option linter.unusedVariables false
set_option linter.unusedSimpArgs false
section
namespace Go.Proofs.YtaggjikjohamjaaGreatDoor
open Go.RowKit
set_option linter.unusedVariables false
set_option maxRecDepth 100000
set_option linter.unusedSimpArgs false
/-- An integer type. -/
class IK (t : TypeId) (k : outParam IntKind) : Prop where
  k : Tryz.prog.underlying t = some (.int k)
/-- A struct's fields: offset and cells. -/
class BP (t : TypeId) (ps : outParam (List (Nat × Nat))) : Prop where
  k : (match Tryz.prog.underlying t with | some (.struct fs) => fs.toList.mapM (fun f => (Tryz.prog.info? f.type).map fun i => (f.offset, i.size)) | _ => none) = some ps
/-- A boolean type. -/
class BT (t : TypeId) : Prop where
  k : Tryz.prog.underlying t = some .bool
/-- Of what is known of a frame, these slots alone (the newest of each), brought to a form. -/
def hasN : List Nat → Nat → Bool
  | [], _ => false
  | s :: r, t => cond (Nat.beq s t) true (hasN r t)
def filtO : List Nat → List (Nat × Value) → Option (List (Nat × Value))
  | _, [] => some []
  | keep, (s, v) :: r => match hasN keep s with
    | true => match filtO (keep.filter fun t => !Nat.beq s t) r with
      | some r' => some ((s, v) :: r')
      | none => none
    | false => filtO keep r
theorem filtO_look : ∀ (l : List (Nat × Value)) (keep : List Nat) {l' : List (Nat × Value)}, filtO keep l = some l' → ∀ t v, look l' t = some v → hasN keep t = true ∧ look l t = some v
  | [], keep, l', h, t, v, ht => by simp [filtO] at h; subst h; simp [look] at ht
  | (s, u) :: r, keep, l', h, t, v, ht => by
    simp only [filtO] at h
    cases hk : hasN keep s with
    | true =>
      rw [hk] at h
      simp only at h
      split at h
      · rename_i r' hr
        obtain rfl := Option.some.inj h
        simp only [look] at ht ⊢
        by_cases hst : s = t
        · subst hst
          rw [show Nat.beq s s = true from Nat.beq_refl s] at ht ⊢
          exact ⟨hk, ht⟩
        · rw [nbeq hst] at ht ⊢
          obtain ⟨h1, h2⟩ := filtO_look r _ hr t v ht
          refine ⟨?_, h2⟩
          have : ∀ (k : List Nat), hasN (k.filter fun t => !Nat.beq s t) t = true → hasN k t = true := by
            intro k
            induction k with
            | nil => simp [hasN]
            | cons x k ih =>
              intro hx
              simp only [hasN]
              by_cases hxt : x = t
              · subst hxt; rw [show Nat.beq x x = true from Nat.beq_refl x]; rfl
              · rw [nbeq hxt]
                refine ih ?_
                rw [List.filter_cons] at hx
                split at hx
                · simp only [hasN, nbeq hxt] at hx; exact hx
                · exact hx
          exact this keep h1
      · cases h
    | false =>
      rw [hk] at h
      simp only at h
      obtain ⟨h1, h2⟩ := filtO_look r keep h t v ht
      refine ⟨h1, ?_⟩
      simp only [look]
      have hst : s ≠ t := fun e => by rw [e, h1] at hk; cases hk
      rw [nbeq hst]; exact h2
theorem Fr.filt {a : Act} {n : Nat} {l l' : List (Nat × Value)} (F : Fr a n l) (keep : List Nat) (h : filtO keep l = some l') : Fr a n l' :=
  ⟨F.ds, F.size, fun t v ht => F.val t v (filtO_look l keep h t v ht).2⟩
section
variable {ops : Array Oper} {Q : Exit → Act → World → Prop} {rest : List Oper} {o : Oper} {a : Act} {w : World} {n : Nat} {l : List (Nat × Value)} {L : List Asn}
/-- The operation yields v and leaves memory alone. -/
def RT (o : Oper) (l : List (Nat × Value)) (L : List Asn) (n : Nat) (v : Value) : Prop := ∀ a w, Fr a n l → Mem w L → (execOp a.eval o).run Tryz.prog w = .ok (.value v) w
/-- The operation acts; C is asked of what it yields and of memory behind it. -/
def AC (o : Oper) (l : List (Nat × Value)) (L : List Asn) (n : Nat) (C : Value → List Asn → Prop) : Prop := Acts Tryz.prog o l L n C
/-- A called function's contract. -/
def Spec (k : FuncId) (us : List Value) (L : List Asn) (C : Value → List Asn → Prop) : Prop := ∀ G w, Mem w (L ++ G) → Calls Tryz.prog k us.toArray w fun e w' => ∃ v L', e = .returned v ∧ C v L' ∧ Mem w' (L' ++ G)
theorem Spec.mono {k : FuncId} {us : List Value} {C D : Value → List Asn → Prop} (h : Spec k us L C) (hi : ∀ v L', C v L' → D v L') : Spec k us L D :=
  fun G w M => (h G w M).mono fun e w' ⟨v, L', he, hc, hm⟩ => ⟨v, L', he, hi _ _ hc, hm⟩
theorem Pull.app {L L' : List Asn} {A : Asn} (h : Pull L A L') (G : List Asn) : Pull (L ++ G) A (L' ++ G) := by
  induction h with
  | here => exact .here
  | there _ ih => exact .there ih
theorem Rep.app {L L' : List Asn} {A B : Asn} (h : Rep L A B L') (G : List Asn) : Rep (L ++ G) A B (L' ++ G) := by
  induction h with
  | here => exact .here
  | there _ ih => exact .there ih
/-! ### Order of the parts -/
inductive Perms : List Asn → List Asn → Prop where
  | nil {L : List Asn} : Perms L []
  | rest {L : List Asn} : Perms L L
  | cons {L L1 R : List Asn} {A : Asn} : Pull L A L1 → Perms L1 R → Perms L (A :: R)
  | skip {L R : List Asn} {A : Asn} : Perms L R → Perms (A :: L) R
theorem Sat.drop_pre {G : List Asn} : ∀ (L : List Asn) {s : List Nat} {w : World}, Sat (L ++ G) s w → ∃ s', Sat G s' w ∧ ∀ b ∈ s', b ∈ s
  | [], s, w, h => ⟨s, h, fun _ h => h⟩
  | A :: L, s, w, h => by
    cases h with
    | cons _ h2 _ =>
      obtain ⟨s', k1, k2⟩ := Sat.drop_pre L h2
      exact ⟨s', k1, fun b hb => List.mem_append.2 (.inr (k2 b hb))⟩
theorem Sat.perms {L L' : List Asn} (h : Perms L L') (G : List Asn) : ∀ {s : List Nat} {w : World}, Sat (L ++ G) s w → ∃ s', Sat (L' ++ G) s' w ∧ ∀ b ∈ s', b ∈ s := by
  induction h with
  | nil => exact fun hs => Sat.drop_pre _ hs
  | rest => exact fun hs => ⟨_, hs, fun _ h => h⟩
  | skip _ ih =>
    intro s w hs
    cases hs with
    | cons _ h2 _ =>
      obtain ⟨s', k1, k2⟩ := ih h2
      exact ⟨s', k1, fun b hb => List.mem_append.2 (.inr (k2 b hb))⟩
  | cons hp _ ih =>
    intro s w hs
    obtain ⟨s1, k1, k2⟩ := hs.pull (hp.app G)
    cases k1 with
    | @cons _ _ sa ra _ m1 m2 m3 =>
      obtain ⟨s2, q1, q2⟩ := ih m2
      refine ⟨_, .cons m1 q1 fun b hb hm => m3 b hb (q2 b hm), fun b hb => ?_⟩
      rcases List.mem_append.1 hb with hb | hb
      · exact (k2 b).1 (by simp [hb])
      · exact (k2 b).1 (by simp [q2 b hb])
theorem Mem.permsG {L L' : List Asn} {w : World} {G : List Asn} (M : Mem w (L ++ G)) (h : Perms L L') : Mem w (L' ++ G) := by
  obtain ⟨s, hs⟩ := M
  obtain ⟨s', h1, _⟩ := hs.perms h G
  exact ⟨s', h1⟩
theorem Mem.perms {L L' : List Asn} {w : World} (M : Mem w L) (h : Perms L L') : Mem w L' := by
  have := Mem.permsG (G := []) (by simpa using M) h
  simpa using this
theorem Spec.pre {k : FuncId} {us : List Value} {C : Value → List Asn → Prop} {L' : List Asn} (h : Spec k us L' C) (hp : Perms L L') : Spec k us L C := fun G w M => h G w (M.permsG hp)
/-- A contract over a part of memory; the rest stays. -/
theorem Spec.frame {k : FuncId} {us : List Value} {C D : Value → List Asn → Prop} {L1 R : List Asn} (h : Spec k us L1 D) (hp : Perms L (L1 ++ R)) (hc : ∀ v L', D v L' → C v (L' ++ R)) : Spec k us L C := fun G w M => by
  have M1 := M.permsG hp
  rw [List.append_assoc] at M1
  exact (h (R ++ G) w M1).mono fun e w' ⟨v, L', he, hd, hm⟩ => ⟨v, L' ++ R, he, hc _ _ hd, by rw [List.append_assoc]; exact hm⟩
theorem Spec.of_below {k : FuncId} {us : List Value} {v : Value} {C : Value → List Asn → Prop} (h : ∀ w, Calls Tryz.prog k us.toArray w fun e w' => e = .returned v ∧ Below w.heap.size w w') (hC : C v L) : Spec k us L C :=
  fun G w M => (h w).mono fun e w' ⟨he, hb⟩ => ⟨v, L, he, hC, M.of_below hb⟩
theorem Spec.of_eq {k : FuncId} {us us' : List Value} {C : Value → List Asn → Prop} (h : Spec k us' L C) (hu : us = us') : Spec k us L C := by
  subst hu; exact h
theorem Spec.of_quiet {k : FuncId} {us : List Value} {v : Value} {C : Value → List Asn → Prop} (h : ∀ w, Calls Tryz.prog k us.toArray w fun e w' => e = .returned v ∧ w = w') (hC : C v L) : Spec k us L C :=
  fun G w M => (h w).mono fun e w' ⟨he, hb⟩ => ⟨v, L, he, hC, hb ▸ M⟩
/-! ### In a list of operations -/
theorem sv_run (F : Fr a n l) (M : Mem w L) (hw : Wanted o ops l = some true) {d : Nat} (hd : o.dst = some d) (hn : Nat.ble (d + 1) n = true) {v : Value} (hr : RT o l L n v)
    (h : ∀ a', Fr a' n ((d, v) :: l) → wpList Tryz.prog ops Q rest a' w) : wpList Tryz.prog ops Q (o :: rest) a w := sx_val F hw hd hn (hr a w F M) h
theorem upon_wpList (F : Fr a n l) (hw : Wanted o ops l = some true) {Φ : Value → World → Prop} (hu : UponD Tryz.prog Φ ((execOp a.eval o).run Tryz.prog w)) (h : ∀ v w', Φ v w' → wpList Tryz.prog ops Q rest (a.put o.dst v) w') : wpList Tryz.prog ops Q (o :: rest) a w := by
  unfold wpList
  rw [if_pos (F.wanted hw)]
  exact .inl (hu.wp h)
theorem sv_act (F : Fr a n l) (M : Mem w L) (hw : Wanted o ops l = some true) {d : Nat} (hd : o.dst = some d) (hn : Nat.ble (d + 1) n = true)
    (h : AC o l L n (fun v L' => ∀ a' w', Fr a' n ((d, v) :: l) → Mem w' L' → wpList Tryz.prog ops Q rest a' w')) : wpList Tryz.prog ops Q (o :: rest) a w :=
  upon_wpList F hw (h [] a w F (by simpa using M)) fun v w' ⟨L', hC, hM⟩ => by rw [hd]; exact hC _ _ (F.put d v hn) (by simpa using hM)
theorem sv_act0 (F : Fr a n l) (M : Mem w L) (hw : Wanted o ops l = some true) (hd : o.dst = none)
    (h : AC o l L n (fun v L' => ∀ w', Mem w' L' → wpList Tryz.prog ops Q rest a w')) : wpList Tryz.prog ops Q (o :: rest) a w :=
  upon_wpList F hw (h [] a w F (by simpa using M)) fun v w' ⟨L', hC, hM⟩ => by rw [hd]; exact hC _ (by simpa using hM)
section
variable {E Fl : List Nat} {S : List (Nat × List Nat)} {σ done : List Nat} {i : Nat}
theorem pv_nil (h : ∀ a' w', Fr a' n l → Mem w' L → Q .normal a' w') : PW Tryz.prog ops n Q E Fl S [] done l L := h
theorem pv_run (hi : ops[i]? = some o) (hf : Fl.contains i = false) (he : E.contains i = false) (hw : Wanted o ops l = some true) {d : Nat} (hd : o.dst = some d) {v : Value} (hr : RT o l L n v)
    (h : PW Tryz.prog ops n Q E Fl S σ (i :: done) ((d, v) :: l) L) : PW Tryz.prog ops n Q E Fl S (i :: σ) done l L := by
  rw [PW, hi]
  simp only [hf, he, Bool.false_eq_true, if_false]
  refine ⟨v, .inl ⟨hw, hr⟩, ?_⟩
  rw [hd]; exact h
theorem pv_skip (hi : ops[i]? = some o) (hf : Fl.contains i = false) (he : E.contains i = false) (hw : Wanted o ops l = some false) {d : Nat} (hd : o.dst = some d)
    (h : PW Tryz.prog ops n Q E Fl S σ (i :: done) ((d, undef) :: l) L) : PW Tryz.prog ops n Q E Fl S (i :: σ) done l L := by
  rw [PW, hi]
  simp only [hf, he, Bool.false_eq_true, if_false]
  refine ⟨undef, .inr ⟨hw, rfl⟩, ?_⟩
  rw [hd]; exact h
theorem pv_skipE (hi : ops[i]? = some o) (hf : Fl.contains i = false) (he : E.contains i = true) (hw : Wanted o ops l = some false) {d : Nat} (hd : o.dst = some d)
    (h : PW Tryz.prog ops n Q E Fl S σ (i :: done) ((d, undef) :: l) L) : PW Tryz.prog ops n Q E Fl S (i :: σ) done l L := by
  rw [PW, hi]
  simp only [hf, he, Bool.false_eq_true, if_false, if_true]
  refine .inr ⟨hw, ?_⟩
  rw [hd]; exact h
theorem pv_skipE0 (hi : ops[i]? = some o) (hf : Fl.contains i = false) (he : E.contains i = true) (hw : Wanted o ops l = some false) (hd : o.dst = none)
    (h : PW Tryz.prog ops n Q E Fl S σ (i :: done) l L) : PW Tryz.prog ops n Q E Fl S (i :: σ) done l L := by
  rw [PW, hi]
  simp only [hf, he, Bool.false_eq_true, if_false, if_true]
  refine .inr ⟨hw, ?_⟩
  rw [hd]; exact h
theorem pv_act (hi : ops[i]? = some o) (hf : Fl.contains i = false) (he : E.contains i = true) (hw : Wanted o ops l = some true) {d : Nat} (hd : o.dst = some d) {js : List Nat} (hj : lookS S i = js)
    (h : AC o l L n (fun v L' => Rvs Tryz.prog ops n js ((d, v) :: l) L' ∧ PW Tryz.prog ops n Q E Fl S σ (i :: done) ((d, v) :: l) L')) : PW Tryz.prog ops n Q E Fl S (i :: σ) done l L := by
  subst hj
  rw [PW, hi]
  simp only [hf, he, Bool.false_eq_true, if_false, if_true]
  refine .inl ⟨hw, ?_⟩
  rw [hd]; exact h
theorem pv_act0 (hi : ops[i]? = some o) (hf : Fl.contains i = false) (he : E.contains i = true) (hw : Wanted o ops l = some true) (hd : o.dst = none) {js : List Nat} (hj : lookS S i = js)
    (h : AC o l L n (fun v L' => Rvs Tryz.prog ops n js l L' ∧ PW Tryz.prog ops n Q E Fl S σ (i :: done) l L')) : PW Tryz.prog ops n Q E Fl S (i :: σ) done l L := by
  subst hj
  rw [PW, hi]
  simp only [hf, he, Bool.false_eq_true, if_false, if_true]
  refine .inl ⟨hw, ?_⟩
  rw [hd]; exact h
theorem zero_run {t : TypeId} {cs : List Value} (hz : ZT t cs) : ∃ i z, Tryz.prog.info? t = some i ∧ i.zero = some z ∧ z.cells = cs.toArray := by
  have h1 := hz.k
  cases hi : Tryz.prog.info? t with
  | none => rw [hi] at h1; cases h1
  | some i =>
    rw [hi] at h1
    have h2 : i.zero.map Value.cells = some cs.toArray := Option.some.inj h1
    cases hzz : i.zero with
    | none => rw [hzz] at h2; cases h2
    | some z =>
      rw [hzz] at h2
      exact ⟨i, z, rfl, hzz, Option.some.inj h2⟩
theorem news_alloc {t : TypeId} (ho : o.op = .alloc t) {cs : List Value} (hz : ZT t cs) : News Tryz.prog o cs t := fun ρ w => by
  obtain ⟨i, z, hi, hzz, h3⟩ := zero_run hz
  unfold execOp
  rw [ho]
  simp [Instr.alloc, zeroValue, typeInfo, hi, hzz, newVar, newRow, newObj, Sem.run, h3]
theorem pv_float (hi : ops[i]? = some o) (hf : Fl.contains i = true) {t : TypeId} (ho : o.op = .alloc t) {cs : List Value} (hz : ZT t cs) {d : Nat} (hd : o.dst = some d)
    (h : ∀ b, PW Tryz.prog ops n Q E Fl S σ (i :: done) ((d, .pointer (some ⟨b, 0, none⟩)) :: l) (pt b cs t :: L)) : PW Tryz.prog ops n Q E Fl S (i :: σ) done l L := by
  rw [PW, hi]
  simp only [hf, if_true]
  refine ⟨cs, t, news_alloc ho hz, fun b => ?_⟩
  rw [hd]; exact h b
theorem flok_nil : FlOK Tryz.prog ops [] := fun i h => by simp at h
theorem flok_cons {j : Nat} {js : List Nat} (hi : ops[j]? = some o) {t : TypeId} (ho : o.op = .alloc t) {cs : List Value} (hz : ZT t cs) (hg : o.guard = none) {d : Nat} (hd : o.dst = some d) (h : FlOK Tryz.prog ops js) : FlOK Tryz.prog ops (j :: js) := fun i h' p hp => by
  rw [List.contains_cons, Bool.or_eq_true] at h'
  rcases h' with h' | h'
  · obtain rfl : i = j := by simpa using h'
    rw [hi] at hp; cases hp
    exact ⟨hg, ⟨d, hd⟩, cs, t, news_alloc ho hz⟩
  · exact h i h' p hp
theorem rvs_nil : Rvs Tryz.prog ops n [] l L := trivial
theorem rvs_run {j : Nat} {js : List Nat} (hi : ops[j]? = some o) (hw : Wanted o ops l = some true) {d : Nat} (hd : o.dst = some d) {v : Value} (hv : look l d = some v) (hr : RT o l L n v) (h : Rvs Tryz.prog ops n js l L) : Rvs Tryz.prog ops n (j :: js) l L :=
  ⟨⟨o, v, hi, .inl ⟨hw, hr⟩, fun t ht => by rw [hd] at ht; cases ht; exact hv⟩, h⟩
theorem rvs_skip {j : Nat} {js : List Nat} (hi : ops[j]? = some o) (hw : Wanted o ops l = some false) {d : Nat} (hd : o.dst = some d) (hv : look l d = some undef) (h : Rvs Tryz.prog ops n js l L) : Rvs Tryz.prog ops n (j :: js) l L :=
  ⟨⟨o, undef, hi, .inr ⟨hw, rfl⟩, fun t ht => by rw [hd] at ht; cases ht; exact hv⟩, h⟩
theorem mixed : Tryz.prog.follows .mixedOrders = true := by kernel_rfl
theorem sv_draw {id : Nat} (E Fl : List Nat) (S : List (Nat × List Nat)) (σ : List Nat) (F : Fr a n l) (M : Mem w L) (hok : drawOK ops E Fl S σ n = true) (hFl : FlOK Tryz.prog ops Fl) (h : PW Tryz.prog ops n Q E Fl S σ [] l L) : (Code.region id ops true).wp Tryz.prog Q a w := region_pw mixed hok hFl F M h
end
/-! ### What only reads -/
theorem rt_pure {v : Value} (h : pureOp o.op l = some v) : RT o l L n v := fun a w F M => pure_run F h
theorem rt_extract {x : Operand} {i : Nat} (ho : o.op = .extract x i) {vs : List Value} (hx : evl l x = some (.tuple vs.toArray)) {v : Value} (hv : vs[i]? = some v) : RT o l L n v := fun a w F M => by
  unfold execOp
  rw [ho]
  simp [F.eval hx, Instr.extract, hv]
theorem rt_field {t : TypeId} {x : Operand} {f off : Nat} (ho : o.op = .fieldAddr t x f) {b i : Nat} (hx : evl l x = some (.pointer (some ⟨b, i, none⟩))) (hf : FO t f off) {j : Nat} (hj : i + off = j) : RT o l L n (.pointer (some ⟨b, j, none⟩)) := fun a w F M => by
  subst hj
  unfold execOp
  rw [ho]
  have h1 := hf.k
  split at h1
  · rename_i fs hu
    cases hfs : fs[f]? with
    | none => rw [hfs] at h1; cases h1
    | some fd =>
      rw [hfs] at h1
      have h2 := Option.some.inj h1
      simp only at h2
      cases hi : Tryz.prog.info? fd.type with
      | none => rw [hi] at h2; simp at h2
      | some i =>
        rw [hi] at h2
        simp only [Prod.mk.injEq] at h2
        obtain ⟨h2, h3⟩ := h2
        have h4 : ¬ i.size = 0 := by have := Nat.le_of_ble_eq_true h3; omega
        simp [F.eval hx, Instr.fieldAt, run_underlying hu w, hfs, Instr.sureAddr, fieldPlace, sizeOf, typeInfo, hi, h4, h2, add0]
  · cases h1
theorem rt_load {t : TypeId} {x : Operand} (ho : o.op = .load t x) {b i : Nat} (hx : evl l x = some (.pointer (some ⟨b, i, none⟩))) (hkt : KT t none) {L' : List Asn} {cs : List Value} {t' : TypeId} (hp : Pull L (pt b cs t') L') {v : Value} (hv : cs[i]? = some v) : RT o l L n v :=
  fun a w F M => load_run1 F M ho hx hkt hp hv
theorem rt_loadA {t : TypeId} {x : Operand} (ho : o.op = .load t x) {b : Nat} (hx : evl l x = some (.pointer (some ⟨b, 0, none⟩))) {k : Nat} (hkt : KT t (some k)) {L' : List Asn} {cs : List Value} {t' : TypeId} (hp : Pull L (pt b cs t') L') (hk : cs.length = k) : RT o l L n (.agg cs.toArray) :=
  fun a w F M => load_runA F M ho hx hkt hp hk
/-- k elements from i on, brought to a form. -/
def takeN : List Value → Nat → Nat → Option (List Value)
  | cs, 0, 0 => some []
  | c :: cs, 0, k + 1 => match takeN cs 0 k with | some r => some (c :: r) | none => none
  | _ :: cs, i + 1, k => takeN cs i k
  | [], _, _ => none
theorem takeN_spec : ∀ (cs : List Value) (i k : Nat) {r : List Value}, takeN cs i k = some r → (cs.drop i).take k = r ∧ r.length = k
  | cs, 0, 0, r, h => by simp [takeN] at h; subst h; simp
  | c :: cs, 0, k + 1, r, h => by
    simp only [takeN] at h
    split at h
    · rename_i r' hr
      obtain rfl := Option.some.inj h
      have := takeN_spec cs 0 k hr
      simp at this ⊢
      exact ⟨this.1, this.2⟩
    · cases h
  | [], 0, k + 1, r, h => by simp [takeN] at h
  | c :: cs, i + 1, k, r, h => by
    simp only [takeN] at h
    simpa using takeN_spec cs i k h
  | [], i + 1, k, r, h => by simp [takeN] at h
theorem rt_loadS {t : TypeId} {x : Operand} (ho : o.op = .load t x) {b i : Nat} (hx : evl l x = some (.pointer (some ⟨b, i, none⟩))) {k : Nat} (hkt : KT t (some k)) {L' : List Asn} {cs : List Value} {t' : TypeId} (hp : Pull L (pt b cs t') L') {ds : List Value} (hd : takeN cs i k = some ds) : RT o l L n (.agg ds.toArray) :=
  fun a w F M => load_runS F M ho hx hkt hp (takeN_spec cs i k hd).1 (takeN_spec cs i k hd).2
theorem rt_bin {b : BinOp} {t ty : TypeId} {x y : Operand} (ho : o.op = .binOp b t x y ty) {k : IntKind} {m p : Int} (hx : evl l x = some (.int k m)) (hy : evl l y = some (.int k p)) {r : Value} (h : ∀ w, (binOp b t (.int k m) (.int k p)).run Tryz.prog w = .ok r w) : RT o l L n r := fun a w F M => bin_run F ho hx hy (h w)
theorem rt_add {t ty : TypeId} {x y : Operand} (ho : o.op = .binOp .add t x y ty) {m p : Int} (hx : evl l x = some (.int .i64 m)) (hy : evl l y = some (.int .i64 p)) (h1 : -9223372036854775808 ≤ m + p) (h2 : m + p ≤ 9223372036854775807) : RT o l L n (.int .i64 (m + p)) :=
  rt_bin ho hx hy fun w => by simp [binOp, Op.intArith, IntWalk.i64_in _ ⟨h1, h2⟩]
theorem rt_sub {t ty : TypeId} {x y : Operand} (ho : o.op = .binOp .sub t x y ty) {m p : Int} (hx : evl l x = some (.int .i64 m)) (hy : evl l y = some (.int .i64 p)) (h1 : -9223372036854775808 ≤ m - p) (h2 : m - p ≤ 9223372036854775807) : RT o l L n (.int .i64 (m - p)) :=
  rt_bin ho hx hy fun w => by simp [binOp, Op.intArith, IntWalk.i64_in _ ⟨h1, h2⟩]
theorem rt_mul {t ty : TypeId} {x y : Operand} (ho : o.op = .binOp .mul t x y ty) {m p : Int} (hx : evl l x = some (.int .i64 m)) (hy : evl l y = some (.int .i64 p)) (h1 : -9223372036854775808 ≤ m * p) (h2 : m * p ≤ 9223372036854775807) : RT o l L n (.int .i64 (m * p)) :=
  rt_bin ho hx hy fun w => by simp [binOp, Op.intArith, IntWalk.i64_in _ ⟨h1, h2⟩]
theorem rt_addu {t ty : TypeId} {x y : Operand} (ho : o.op = .binOp .add t x y ty) {m p : Int} (hx : evl l x = some (.int .u64 m)) (hy : evl l y = some (.int .u64 p)) (h1 : 0 ≤ m + p) (h2 : m + p ≤ 18446744073709551615) : RT o l L n (.int .u64 (m + p)) :=
  rt_bin ho hx hy fun w => by simp [binOp, Op.intArith, u64_in h1 h2]
theorem rt_subu {t ty : TypeId} {x y : Operand} (ho : o.op = .binOp .sub t x y ty) {m p : Int} (hx : evl l x = some (.int .u64 m)) (hy : evl l y = some (.int .u64 p)) (h1 : 0 ≤ m - p) (h2 : m - p ≤ 18446744073709551615) : RT o l L n (.int .u64 (m - p)) :=
  rt_bin ho hx hy fun w => by simp [binOp, Op.intArith, u64_in h1 h2]
/-- Sums that may wrap. -/
def arithR : BinOp → Int → Int → Option Int
  | .add, m, p => some (m + p)
  | .sub, m, p => some (m - p)
  | .mul, m, p => some (m * p)
  | _, _, _ => none
theorem rt_arith {b : BinOp} {t ty : TypeId} {x y : Operand} (ho : o.op = .binOp b t x y ty) {k : IntKind} {m p : Int} (hx : evl l x = some (.int k m)) (hy : evl l y = some (.int k p)) {r : Int} (hr : arithR b m p = some r) : RT o l L n (.int k (k.wrap r)) :=
  rt_bin ho hx hy fun w => by cases b <;> simp [arithR] at hr <;> subst hr <;> simp [binOp, Op.intArith]
theorem rt_quo {t ty : TypeId} {x y : Operand} (ho : o.op = .binOp .quo t x y ty) {k : IntKind} {m p : Int} (hx : evl l x = some (.int k m)) (hy : evl l y = some (.int k p)) (h0 : 0 ≤ m) (h1 : 0 < p) (hk : k.wrap (m / p) = m / p) : RT o l L n (.int k (m / p)) :=
  rt_bin ho hx hy fun w => by
    have : ¬ p = 0 := by omega
    simp [binOp, Op.intDiv, this, Int.tdiv_eq_ediv_of_nonneg h0, hk]
theorem rt_rem {t ty : TypeId} {x y : Operand} (ho : o.op = .binOp .rem t x y ty) {k : IntKind} {m p : Int} (hx : evl l x = some (.int k m)) (hy : evl l y = some (.int k p)) (h0 : 0 ≤ m) (h1 : 0 < p) : RT o l L n (.int k (m % p)) :=
  rt_bin ho hx hy fun w => by
    have : ¬ p = 0 := by omega
    simp [binOp, Op.intDiv, this, Int.tmod_eq_emod_of_nonneg h0]
theorem rt_eql {t ty : TypeId} {x y : Operand} (ho : o.op = .binOp .eql t x y ty) {xs ys : List Value} (hx : evl l x = some (.agg xs.toArray)) (hy : evl l y = some (.agg ys.toArray)) {ks : List Sc} (he : EQ t ks) {r : Bool} (hr : cellsEq ks xs ys = some r) : RT o l L n (.bool r) := fun a w F M => by
  have := @eq_run o a w n l F t ty x y false ho xs ys hx hy ks he r hr
  rw [Bool.false_xor] at this; exact this
theorem rt_neq {t ty : TypeId} {x y : Operand} (ho : o.op = .binOp .neq t x y ty) {xs ys : List Value} (hx : evl l x = some (.agg xs.toArray)) (hy : evl l y = some (.agg ys.toArray)) {ks : List Sc} (he : EQ t ks) {r : Bool} (hr : cellsEq ks xs ys = some r) : RT o l L n (.bool (!r)) := fun a w F M => by
  have := @eq_run o a w n l F t ty x y true ho xs ys hx hy ks he r hr
  rw [Bool.true_xor] at this; exact this
theorem rt_eql1 {t ty : TypeId} {x y : Operand} (ho : o.op = .binOp .eql t x y ty) {xs : List Value} (hx : evl l x = some (.agg xs.toArray)) (hy : evl l y = some (.agg xs.toArray)) {ks : List Sc} (he : EQ t ks) {r : Bool} (hr : cellsEq ks xs xs = some r) : RT o l L n (.bool true) := by
  have := rt_eql (L := L) (n := n) ho hx hy he hr
  rw [cellsEq_refl hr] at this; exact this
theorem rt_neq1 {t ty : TypeId} {x y : Operand} (ho : o.op = .binOp .neq t x y ty) {xs : List Value} (hx : evl l x = some (.agg xs.toArray)) (hy : evl l y = some (.agg xs.toArray)) {ks : List Sc} (he : EQ t ks) {r : Bool} (hr : cellsEq ks xs xs = some r) : RT o l L n (.bool false) := by
  have := rt_neq (L := L) (n := n) ho hx hy he hr
  rw [cellsEq_refl hr] at this; exact this
theorem rt_eqb {t ty : TypeId} {x y : Operand} (ho : o.op = .binOp .eql t x y ty) {b c : Bool} (hx : evl l x = some (.bool b)) (hy : evl l y = some (.bool c)) (ht : BT t) : RT o l L n (.bool (b == c)) := fun a w F M => by
  unfold execOp
  rw [ho]
  simp [F.eval hx, F.eval hy, eqGuard, binOp, Op.equal, Op.maxDepth, run_equalIn_bool' w 9999 t b c ht.k]
theorem rt_neb {t ty : TypeId} {x y : Operand} (ho : o.op = .binOp .neq t x y ty) {b c : Bool} (hx : evl l x = some (.bool b)) (hy : evl l y = some (.bool c)) (ht : BT t) : RT o l L n (.bool (!(b == c))) := fun a w F M => by
  unfold execOp
  rw [ho]
  simp [F.eval hx, F.eval hy, eqGuard, binOp, Op.equal, Op.maxDepth, run_equalIn_bool' w 9999 t b c ht.k]
/-- The address of an element of an array; of a slice. -/
theorem rt_indexA {t : TypeId} {x y : Operand} (ho : o.op = .indexAddr t x y) {b i : Nat} (hx : evl l x = some (.pointer (some ⟨b, i, none⟩))) {k : IntKind} {j : Int} (hy : evl l y = some (.int k j)) {len e size : Nat} (ht : AT t len e size) (h0 : 0 ≤ j) (h1 : j < len) {p : Nat} (hp : i + j.toNat * size = p) : RT o l L n (.pointer (some ⟨b, p, none⟩)) := fun a w F M => by
  subst hp
  obtain ⟨hu, hs⟩ := ht.k
  unfold execOp
  rw [ho]
  cases hi : Tryz.prog.info? e with
  | none => rw [hi] at hs; cases hs
  | some ie =>
    rw [hi] at hs
    have hs := Option.some.inj hs
    simp [F.eval hx, F.eval hy, Instr.indexAt, asIntOf, run_underlying hu w, Instr.sureAddr, h0, h1, sizeOf, typeInfo, hi, hs, add0]
theorem rt_indexS {t : TypeId} {x y : Operand} (ho : o.op = .indexAddr t x y) {b i len cap : Nat} (hx : evl l x = some (.slice (some ⟨b, i, none⟩) len cap)) {k : IntKind} {j : Int} (hy : evl l y = some (.int k j)) {e : TypeId} {z : Value} {size bytes : Nat} (ht : ST t e z size bytes) (h0 : 0 ≤ j) (h1 : j < len) {p : Nat} (hp : i + j.toNat * size = p) : RT o l L n (.pointer (some ⟨b, p, none⟩)) := fun a w F M => by
  subst hp
  obtain ⟨hu, hs, _⟩ := ht.k
  unfold execOp
  rw [ho]
  cases hi : Tryz.prog.info? e with
  | none => rw [hi] at hs; cases hs
  | some ie =>
    rw [hi] at hs
    have hs := Option.some.inj hs
    simp only [Prod.mk.injEq] at hs
    simp [F.eval hx, F.eval hy, Instr.indexAt, asIntOf, run_underlying hu w, h0, h1, sizeOf, typeInfo, hi, hs.2.1, add0]
/-- len of a slice, a string. -/
theorem rt_lenS {x : Operand} {ats : Array TypeId} {t : TypeId} (ho : o.op = .call { callee := .builtin .len, args := #[x], argTypes := ats }) (hat : ats = #[t]) {p : Option Addr} {m c : Nat} (hx : evl l x = some (.slice p m c)) {e : TypeId} {z : Value} {size bytes : Nat} (ht : ST t e z size bytes) : RT o l L n (.int .i64 m) := fun a w F M => by
  unfold execOp
  rw [ho]
  subst hat
  simp [resolve, invoke, builtin, Builtin.len_, F.eval hx, run_underlying ht.k.1 w, goInt]
theorem rt_lenT {x : Operand} {ats : Array TypeId} {t : TypeId} (ho : o.op = .call { callee := .builtin .len, args := #[x], argTypes := ats }) (hat : ats = #[t]) {s : ByteArray} (hx : evl l x = some (.string s)) (ht : Tryz.prog.underlying t = some .string) : RT o l L n (.int .i64 s.size) := fun a w F M => by
  unfold execOp
  rw [ho]
  subst hat
  simp [resolve, invoke, builtin, Builtin.len_, F.eval hx, run_underlying ht w, goInt]
/-- min, max of integers. -/
def minL (k : IntKind) : Int → List Value → Option Int
  | x, [] => some x
  | x, .int k' y :: r => if k = k' then minL k (if y < x then y else x) r else none
  | _, _ => none
def maxL (k : IntKind) : Int → List Value → Option Int
  | x, [] => some x
  | x, .int k' y :: r => if k = k' then maxL k (if y > x then y else x) r else none
  | _, _ => none
theorem minL_run (k : IntKind) (w : World) : ∀ (vs : List Value) (x r : Int), minL k x vs = some r → (vs.foldlM Builtin.min2 (.int k x)).run Tryz.prog w = .ok (.int k r) w
  | [], x, r, h => by simp [minL] at h; subst h; simp
  | v :: vs, x, r, h => by
    cases v <;> simp [minL] at h
    rename_i k' y
    obtain ⟨rfl, h⟩ := h
    have := minL_run k w vs _ r h
    simp only [List.foldlM_cons, Sem.run_bind, Builtin.min2, Sem.run_pure, Result.andThen_ok]
    exact this
theorem maxL_run (k : IntKind) (w : World) : ∀ (vs : List Value) (x r : Int), maxL k x vs = some r → (vs.foldlM Builtin.max2 (.int k x)).run Tryz.prog w = .ok (.int k r) w
  | [], x, r, h => by simp [maxL] at h; subst h; simp
  | v :: vs, x, r, h => by
    cases v <;> simp [maxL] at h
    rename_i k' y
    obtain ⟨rfl, h⟩ := h
    have := maxL_run k w vs _ r h
    simp only [List.foldlM_cons, Sem.run_bind, Builtin.max2, Sem.run_pure, Result.andThen_ok]
    exact this
theorem rt_min {xs : Array Operand} {ats : Array TypeId} (ho : o.op = .call { callee := .builtin .min, args := xs, argTypes := ats }) {k : IntKind} {x : Int} {vs : List Value} (hx : evls l xs.toList = some (.int k x :: vs)) {r : Int} (hr : minL k x vs = some r) : RT o l L n (.int k r) := fun a w F M => by
  unfold execOp
  rw [ho]
  have e1 : xs.map a.eval = (Value.int k x :: vs).toArray := by have := F.evals hx; apply Array.toList_inj.1; simpa using this
  simp [resolve, invoke, builtin, Builtin.min_, e1, minL_run k w vs x r hr]
theorem rt_max {xs : Array Operand} {ats : Array TypeId} (ho : o.op = .call { callee := .builtin .max, args := xs, argTypes := ats }) {k : IntKind} {x : Int} {vs : List Value} (hx : evls l xs.toList = some (.int k x :: vs)) {r : Int} (hr : maxL k x vs = some r) : RT o l L n (.int k r) := fun a w F M => by
  unfold execOp
  rw [ho]
  have e1 : xs.map a.eval = (Value.int k x :: vs).toArray := by have := F.evals hx; apply Array.toList_inj.1; simpa using this
  simp [resolve, invoke, builtin, Builtin.max_, e1, maxL_run k w vs x r hr]
/-- A number of another integer type. -/
theorem rt_conv {s t : TypeId} {x : Operand} (ho : o.op = .convert s t x) {k k' : IntKind} {m : Int} (hx : evl l x = some (.int k' m)) (hs : IK s k') (ht : IK t k) {r : Int} (hr : k.wrap m = r) : RT o l L n (.int k r) := fun a w F M => by
  subst hr
  unfold execOp
  rw [ho]
  simp [F.eval hx, convert, run_underlying hs.k w, run_underlying ht.k w, Conv.intToInt]
/-- A cell set, brought to a form. -/
def setN : List Value → Nat → Value → Option (List Value)
  | [], _, _ => none
  | _ :: cs, 0, v => some (v :: cs)
  | c :: cs, i + 1, v => match setN cs i v with | some r => some (c :: r) | none => none
theorem setN_spec : ∀ (cs : List Value) (i : Nat) (v : Value) {r : List Value}, setN cs i v = some r → cs.set i v = r ∧ (cs[i]?).isSome = true
  | [], _, _, r, h => by simp [setN] at h
  | c :: cs, 0, v, r, h => by simp [setN] at h; subst h; simp
  | c :: cs, i + 1, v, r, h => by
    simp only [setN] at h
    split at h
    · rename_i r' hr
      obtain rfl := Option.some.inj h
      have := setN_spec cs i v hr
      simpa using this
    · cases h
/-- Cells laid over from i on, brought to a form. -/
def putN : List Value → Nat → List Value → Option (List Value)
  | cs, 0, [] => some cs
  | _ :: cs, 0, v :: vs => match putN cs 0 vs with | some r => some (v :: r) | none => none
  | c :: cs, i + 1, vs => match putN cs i vs with | some r => some (c :: r) | none => none
  | [], _, _ => none
theorem putN_spec : ∀ (cs : List Value) (i : Nat) (vs : List Value) {r : List Value}, putN cs i vs = some r → cs.take i ++ vs ++ cs.drop (i + vs.length) = r ∧ i + vs.length ≤ cs.length
  | cs, 0, [], r, h => by simp [putN] at h; subst h; simp
  | c :: cs, 0, v :: vs, r, h => by
    simp only [putN] at h
    split at h
    · rename_i r' hr
      obtain rfl := Option.some.inj h
      have := putN_spec cs 0 vs hr
      simp only [List.take_zero, List.nil_append, Nat.zero_add] at this ⊢
      refine ⟨?_, by simp; omega⟩
      simp [this.1]
    · cases h
  | c :: cs, i + 1, vs, r, h => by
    simp only [putN] at h
    split at h
    · rename_i r' hr
      obtain rfl := Option.some.inj h
      have := putN_spec cs i vs hr
      refine ⟨?_, by simp; omega⟩
      rw [show i + 1 + vs.length = (i + vs.length) + 1 by omega]
      simp [← this.1]
    · cases h
  | [], 0, v :: vs, r, h => by simp [putN] at h
  | [], i + 1, vs, r, h => by simp [putN] at h
/-! ### Literals of structs -/
def setMany : List Value → Nat → List Value → List Value
  | cs, _, [] => cs
  | cs, off, v :: vs => setMany (cs.set off v) (off + 1) vs
theorem setMany_eq : ∀ (vs cs : List Value) (off : Nat), off + vs.length ≤ cs.length → setMany cs off vs = cs.take off ++ vs ++ cs.drop (off + vs.length)
  | [], cs, off, _ => by simp [setMany]
  | v :: vs, cs, off, h => by
    simp only [List.length_cons] at h
    rw [setMany, setMany_eq vs (cs.set off v) (off + 1) (by simp; omega)]
    have h1 : (cs.set off v).take (off + 1) = cs.take off ++ [v] := by
      have hlt : off < cs.length := by omega
      rw [List.take_succ_eq_append_getElem (by simpa using hlt), List.take_set_of_le (Nat.le_refl off)]
      simp
    have h2 : (cs.set off v).drop (off + 1 + vs.length) = cs.drop (off + (v :: vs).length) := by
      rw [List.drop_set_of_lt (by omega)]
      simp only [List.length_cons]
      congr 1
      omega
    rw [h1, h2]
    simp
theorem fold_set (off : Nat) : ∀ (vs : List Value) (k : Nat) (cells : Array Value), ((vs.zipIdx k).foldl (fun cs x => cs.setIfInBounds (off + x.2) x.1) cells).toList = setMany cells.toList (off + k) vs
  | [], k, cells => by simp [setMany]
  | v :: vs, k, cells => by
    rw [List.zipIdx_cons, List.foldl_cons, fold_set off vs (k + 1), setMany]
    simp [Nat.add_assoc]
def fillN (ps : List (Nat × Nat)) : List Value → List (Nat × List Value) → Option (List Value)
  | zs, [] => some zs
  | zs, (i, vs) :: r => match ps[i]? with
    | some (off, size) => match Nat.beq vs.length size with
      | true => match putN zs off vs with
        | some zs' => fillN ps zs' r
        | none => none
      | false => none
    | none => none
theorem fillN_run (ps : List (Nat × Nat)) : ∀ (parts : List (Nat × Value)) (zs cs : List Value), fillN ps zs (parts.map fun p => (p.1, p.2.cells.toList)) = some cs → Instr.fill (fun i => ps[i]?) zs.toArray parts = some cs.toArray
  | [], zs, cs, h => by simp [fillN] at h; simp [Instr.fill, h]
  | (i, v) :: r, zs, cs, h => by
    simp only [List.map_cons, fillN] at h
    unfold Instr.fill
    cases hp : ps[i]? with
    | none => rw [hp] at h; cases h
    | some q =>
      obtain ⟨off, size⟩ := q
      rw [hp] at h
      simp only at h ⊢
      cases hb : Nat.beq v.cells.toList.length size with
      | false => rw [hb] at h; cases h
      | true =>
        rw [hb] at h
        simp only at h
        have hsz : v.cells.size = size := by simpa using Nat.eq_of_beq_eq_true hb
        cases hq : putN zs off v.cells.toList with
        | none => rw [hq] at h; cases h
        | some zs' =>
          rw [hq] at h
          simp only at h
          obtain ⟨h1, h2⟩ := putN_spec zs off _ hq
          have hle : off + v.cells.size ≤ zs.length := by simpa using h2
          have hcond : ¬ ((decide (v.cells.size ≠ size) || decide (off + v.cells.size > zs.toArray.size)) = true) := by
            simp [hsz]
            rw [hsz] at hle; omega
          rw [if_neg hcond]
          have hfold : (v.cells.zipIdx.foldl (fun cs x => cs.setIfInBounds (off + x.2) x.1) zs.toArray) = zs'.toArray := by
            apply Array.toList_inj.1
            rw [← Array.foldl_toList, Array.toList_zipIdx]
            have := fold_set off v.cells.toList 0 zs.toArray
            simp only [Nat.add_zero] at this
            rw [this, setMany_eq _ _ _ (by simpa using hle)]
            simpa using h1
          have := fillN_run ps r zs' cs h
          rw [← this]
          congr 1
/-- A part's cells, brought to a form. -/
def partL : Value → List Value
  | .agg cs => cs.toList
  | v => [v]
theorem partL_eq (v : Value) : v.cells.toList = partL v := by cases v <;> rfl
def evps (l : List (Nat × Value)) : List (Nat × Operand) → Option (List (Nat × Value))
  | [] => some []
  | (i, x) :: r => match evl l x, evps l r with
    | some v, some vs => some ((i, v) :: vs)
    | _, _ => none
theorem Fr.evps (F : Fr a n l) : ∀ {xs : List (Nat × Operand)} {vs : List (Nat × Value)}, Go.Proofs.YtaggjikjohamjaaGreatDoor.evps l xs = some vs → xs.map (fun p => (p.1, a.eval p.2)) = vs
  | [], vs, h => by simp [Go.Proofs.YtaggjikjohamjaaGreatDoor.evps] at h; simp [h]
  | (i, x) :: r, vs, h => by
    simp only [Go.Proofs.YtaggjikjohamjaaGreatDoor.evps] at h
    split at h
    · rename_i v us h1 h2
      obtain rfl := Option.some.inj h
      simp [F.eval h1, F.evps h2]
    · cases h
def partsL : List (Nat × Value) → List (Nat × List Value)
  | [] => []
  | (i, v) :: r => (i, partL v) :: partsL r
theorem partsL_eq : ∀ (ps : List (Nat × Value)), ps.map (fun p => (p.1, p.2.cells.toList)) = partsL ps
  | [] => rfl
  | (i, v) :: r => by rw [List.map_cons, partsL, partsL_eq r, partL_eq]
theorem rt_build {t : TypeId} {parts : Array (Nat × Operand)} (ho : o.op = .build t parts) {zs : List Value} (hz : ZT t zs) {ps : List (Nat × Nat)} (hb : BP t ps) {vs : List (Nat × Value)} (hv : evps l parts.toList = some vs) {cs : List Value} (hf : fillN ps zs (partsL vs) = some cs) : RT o l L n (.agg cs.toArray) := fun a w F M => by
  have hbk := hb.k
  have h1 := hz.k
  cases hu : Tryz.prog.underlying t with
  | none => rw [hu] at hbk; cases hbk
  | some d =>
    rw [hu] at hbk
    cases d with
    | struct fs =>
      simp only at hbk
      cases hi : Tryz.prog.info? t with
      | none => rw [hi] at h1; cases h1
      | some i =>
        rw [hi] at h1
        have h2 : i.zero.map Value.cells = some zs.toArray := Option.some.inj h1
        cases hzz : i.zero with
        | none => rw [hzz] at h2; cases h2
        | some z =>
          rw [hzz] at h2
          have h3 : z.cells = zs.toArray := Option.some.inj h2
          have hplaces : (fs.mapM fun f => do pure (f.offset, ← sizeOf f.type) : Sem (Array (Nat × Nat))).run Tryz.prog w = .ok ps.toArray w := by
            have : ∀ (fl : List Field) (ps : List (Nat × Nat)), fl.mapM (fun f => (Tryz.prog.info? f.type).map fun i => (f.offset, i.size)) = some ps → (fl.mapM fun f => do pure (f.offset, ← sizeOf f.type) : Sem (List (Nat × Nat))).run Tryz.prog w = .ok ps w := by
              intro fl
              induction fl with
              | nil => intro ps h; simp at h; subst h; simp
              | cons f fl ih =>
                intro ps h
                rw [List.mapM_cons] at h
                simp only [bind, Option.bind_eq_some_iff, pure, Option.some.injEq] at h
                obtain ⟨p, h1, ps', h2, rfl⟩ := h
                cases hfi : Tryz.prog.info? f.type with
                | none => rw [hfi] at h1; cases h1
                | some fi =>
                  rw [hfi] at h1
                  obtain rfl := Option.some.inj h1
                  rw [List.mapM_cons]
                  have hs : (sizeOf f.type).run Tryz.prog w = .ok fi.size w := by simp [sizeOf, typeInfo, hfi]
                  simp only [Sem.run_bind, hs, Result.andThen_ok, Sem.run_pure, ih ps' h2]
            have h := this fs.toList ps hbk
            have e : fs = fs.toList.toArray := by simp
            rw [e, List.mapM_toArray, Sem.run_map]
            rw [h]; rfl
          have hparts : (parts.map fun x => (x.1, a.eval x.2)).toList = vs := by have := F.evps hv; simpa using this
          unfold execOp
          rw [ho]
          have hfill := fillN_run ps vs zs cs (by rw [partsL_eq]; exact hf)
          have hps : (fun (i : Nat) => ps.toArray[i]?) = fun (i : Nat) => ps[i]? := by funext i; simp
          have hzero : (zeroValue t).run Tryz.prog w = .ok z w := by simp [zeroValue, typeInfo, hi, hzz]
          simp only [Instr.build, Sem.run_bind, hzero, run_underlying hu w, Result.andThen_ok, hplaces, h3, hparts, hps, hfill, Sem.run_pure]
    | _ => simp at hbk
variable {C : Value → List Asn → Prop}
theorem ac_boxA {t : TypeId} {x : Operand} (ho : o.op = .box t x) {cs : List Value} (hx : evl l x = some (.agg cs.toArray)) (h : ∀ b, C (.pointer (some ⟨b, 0, none⟩)) (pt b cs t :: L)) : AC o l L n C := fun G a w F M => by
  have : (execOp a.eval o).run Tryz.prog w = .ok (.value (.pointer (some ⟨w.heap.size, 0, none⟩))) (w.alloc (.cells cs.toArray t)) := by
    unfold execOp
    rw [ho]
    simp [F.eval hx, Instr.box, newVar, newRow, newObj, Sem.run, Value.cells]
  rw [this]
  exact ⟨_, h _, M.alloc cs t⟩
theorem ac_box {t : TypeId} {x : Operand} (ho : o.op = .box t x) {v : Value} (hx : evl l x = some v) (hv : v.oneCell' = true) (h : ∀ b, C (.pointer (some ⟨b, 0, none⟩)) (pt b [v] t :: L)) : AC o l L n C := fun G a w F M => by
  have h1 : v.cells = #[v] := by cases v <;> simp_all [Value.oneCell', Value.cells]
  have : (execOp a.eval o).run Tryz.prog w = .ok (.value (.pointer (some ⟨w.heap.size, 0, none⟩))) (w.alloc (.cells [v].toArray t)) := by
    unfold execOp
    rw [ho]
    simp [F.eval hx, Instr.box, newVar, newRow, newObj, Sem.run, h1]
  rw [this]
  exact ⟨_, h _, M.alloc [v] t⟩
theorem ac_alloc {t : TypeId} (ho : o.op = .alloc t) {cs : List Value} (hz : ZT t cs) (h : ∀ b, C (.pointer (some ⟨b, 0, none⟩)) (pt b cs t :: L)) : AC o l L n C := fun G a w F M => by
  obtain ⟨i, z, hi, hzz, h3⟩ := zero_run hz
  have : (execOp a.eval o).run Tryz.prog w = .ok (.value (.pointer (some ⟨w.heap.size, 0, none⟩))) (w.alloc (.cells cs.toArray t)) := by
    unfold execOp
    rw [ho]
    simp [Instr.alloc, zeroValue, typeInfo, hi, hzz, newVar, newRow, newObj, Sem.run, h3]
  rw [this]
  exact ⟨_, h _, M.alloc cs t⟩
theorem ac_store {t : TypeId} {x y : Operand} (ho : o.op = .store t x y) {b i : Nat} (hx : evl l x = some (.pointer (some ⟨b, i, none⟩))) (hkt : KT t none) {v : Value} (hy : evl l y = some v) (hv : v.oneCell' = true)
    {L2 : List Asn} {cs cs' : List Value} {t' : TypeId} (hp : Rep L (pt b cs t') (pt b cs' t') L2) (hs : setN cs i v = some cs') (h : C undef L2) : AC o l L n C := fun G a w F M => by
  obtain ⟨L', h1, _⟩ := hp.both
  obtain ⟨hs1, hs2⟩ := setN_spec cs i v hs
  subst hs1
  obtain ⟨u, hu⟩ := Option.isSome_iff_exists.1 hs2
  have h2 := cell_pt M (h1.app G) hu
  have h3 := free_pt (i := i) M (h1.app G)
  have : (execOp a.eval o).run Tryz.prog w = .ok .skip (w.setCell ⟨b, i, none⟩ v) := by
    unfold execOp
    rw [ho]
    simp [F.eval hx, F.eval hy, Instr.storeAt, Instr.sureAddr, run_storeVar_one h2 h3 hv]
  rw [this]
  refine ⟨L2, h, ?_⟩
  rw [setCell_row (M.pt (h1.app G))]
  exact M.setRow (hp.app G)
theorem ac_storeA {t : TypeId} {x y : Operand} (ho : o.op = .store t x y) {b i : Nat} (hx : evl l x = some (.pointer (some ⟨b, i, none⟩))) {k : Nat} (hkt : KT t (some k)) {vs : List Value} (hy : evl l y = some (.agg vs.toArray)) (hk : vs.length = k) (hv : vs.all (·.oneCell') = true)
    {L2 : List Asn} {cs cs' : List Value} {t' : TypeId} (hp : Rep L (pt b cs t') (pt b cs' t') L2) (hs : putN cs i vs = some cs') (h : C undef L2) : AC o l L n C := fun G a w F M => by
  obtain ⟨L', h1, _⟩ := hp.both
  obtain ⟨hs1, hle⟩ := putN_spec cs i vs hs
  subst hs1
  have h2 := M.pt (h1.app G)
  have h3 := run_storeCells_at (P := Tryz.prog) b i t' vs 0 cs.toArray w h2 (by simp; omega) (all_one hv)
  simp only [Nat.add_zero] at h3
  have hsz : (Value.agg vs.toArray).cells.size = k := by simp [Value.cells, hk]
  have : (execOp a.eval o).run Tryz.prog w = .ok .skip (w.setRow b (cs.take i ++ vs ++ cs.drop (i + vs.length)).toArray) := by
    unfold execOp
    rw [ho]
    simp only [F.eval hx, F.eval hy, Instr.storeAt, Instr.sureAddr, storeVar, Sem.run_bind, Sem.run_pure, Result.andThen_ok, (run_isAgg (t := t) w).2, hsz]
    simp [Value.cells, h3]
  rw [this]
  exact ⟨L2, h, M.setRow (hp.app G)⟩
theorem ac_storeW {t : TypeId} {x y : Operand} (ho : o.op = .store t x y) {b : Nat} (hx : evl l x = some (.pointer (some ⟨b, 0, none⟩))) {k : Nat} (hkt : KT t (some k)) {vs : List Value} (hy : evl l y = some (.agg vs.toArray)) (hk : vs.length = k) (hv : vs.all (·.oneCell') = true)
    {L2 : List Asn} {cs : List Value} {t' : TypeId} (hp : Rep L (pt b cs t') (pt b vs t') L2) (hc : Nat.beq cs.length k = true) (h : C undef L2) : AC o l L n C := fun G a w F M => by
  obtain ⟨L', h1, _⟩ := hp.both
  have hc' : cs.length = k := Nat.eq_of_beq_eq_true hc
  have h2 := M.pt (h1.app G)
  have h3 := run_storeCells_at (P := Tryz.prog) b 0 t' vs 0 cs.toArray w h2 (by simp; omega) (all_one hv)
  have e1 : cs.toArray.toList.take (0 + 0) ++ vs ++ cs.toArray.toList.drop (0 + 0 + vs.length) = vs := by simp [hk, hc']
  rw [e1] at h3
  have hsz : (Value.agg vs.toArray).cells.size = k := by simp [Value.cells, hk]
  have : (execOp a.eval o).run Tryz.prog w = .ok .skip (w.setRow b vs.toArray) := by
    unfold execOp
    rw [ho]
    simp only [F.eval hx, F.eval hy, Instr.storeAt, Instr.sureAddr, storeVar, Sem.run_bind, Sem.run_pure, Result.andThen_ok, (run_isAgg (t := t) w).2, hsz]
    simp [Value.cells, h3]
  rw [this]
  exact ⟨L2, h, M.setRow (hp.app G)⟩
theorem ac_call {f : Operand} {xs : Array Operand} {ats : Array TypeId} (ho : o.op = .call { callee := .value f, args := xs, argTypes := ats }) {k : FuncId} {caps : Array Value} (hf : evl l f = some (.func (.func k) #[] caps)) (hfk : FK k)
    {vs us : List Value} (hx : evls l xs.toList = some vs) (hu : vs ++ caps.toList = us) (hs : Spec k us L C) : AC o l L n C := fun G a w F M => by
  have e1 : xs.map a.eval = vs.toArray := by have := F.evals hx; apply Array.toList_inj.1; simpa using this
  have hrun : (execOp a.eval o).run Tryz.prog w = .ok (.enter k us.toArray) w := by
    unfold execOp
    rw [ho]
    rw [Sem.run_bind]
    simp only [resolve, F.eval hf, Deferred.ofValue, Sem.run_pure, Result.andThen_ok, invoke, e1]
    have : #[] ++ vs.toArray ++ caps = us.toArray := by rw [← hu]; simp
    first | rw [this] | (simp only [Array.empty_append] at this ⊢; rw [this])
    exact @run_callFunc k hfk _ w
  rw [hrun]
  exact (hs G w M).mono fun e w' ⟨v, L', he, hc, hm⟩ => ⟨v, he, L', hc, hm⟩
/-! ### What memory gives -/
def Gives (L : List Asn) (φ : World → Prop) : Prop := ∀ w, Mem w L → φ w
theorem Gives.tail {A : Asn} {L : List Asn} {φ : World → Prop} (h : Gives L φ) : Gives (A :: L) φ := fun w M => h w M.drop
theorem Gives.imp {L : List Asn} {φ ψ : World → Prop} (h : Gives L φ) (hi : ∀ w, φ w → ψ w) : Gives L ψ := fun w M => hi w (h w M)
theorem rt_loadg {t : TypeId} {x : Operand} (ho : o.op = .load t x) {b i : Nat} (hx : evl l x = some (.pointer (some ⟨b, i, none⟩))) (hkt : KT t none) {v : Value} (hg : Gives L fun w => w.cell? ⟨b, i, none⟩ = some v) : RT o l L n v := fun a w F M => by
  unfold execOp
  rw [ho]
  simp [F.eval hx, Instr.loadAt, Instr.sureAddr, run_loadVar_one (hg w M)]
theorem rt_loadgA {t : TypeId} {x : Operand} (ho : o.op = .load t x) {b i : Nat} (hx : evl l x = some (.pointer (some ⟨b, i, none⟩))) {k : Nat} (hkt : KT t (some k)) {cs : List Value} (hk : cs.length = k) (hg : Gives L fun w => ∀ j u, cs[j]? = some u → w.cell? ⟨b, i + j, none⟩ = some u) : RT o l L n (.agg cs.toArray) := fun a w F M => by
  unfold execOp
  rw [ho]
  simp [F.eval hx, Instr.loadAt, Instr.sureAddr, run_loadVar_agg hk (hg w M)]
theorem Old.slr {w0 : World} {size m : Nat} {v : Value} {xs : List Value} (h : SlR w0 size v m xs) {L' : List Asn} (hp : Pull L (Old w0) L') : Gives L fun w => SlR w size v m xs := fun w M => h.below_all (M.below hp)
/-- The slice v owns its array: m elements of so many cells each, the cells xs. -/
def own (e : TypeId) (size : Nat) (v : Value) (m : Nat) (xs : List Value) : Asn := fun s w => xs.length = m * size ∧
  ((v = .slice none 0 0 ∧ m = 0 ∧ s = []) ∨ ∃ g cap cur, v = .slice (some ⟨g, 0, none⟩) m cap ∧ s = [g] ∧ w.heap[g]? = some (.cells cur e (0, 0)) ∧ m ≤ cap ∧ cap ≤ maxLen ∧ cur.size = cap * size ∧ cur.toList.take (m * size) = xs)
theorem own_slr {e : TypeId} {size : Nat} {v : Value} {m : Nat} {xs : List Value} {s : List Nat} (h : own e size v m xs s w) : SlR w size v m xs := by
  refine ⟨h.1, ?_⟩
  rcases h.2 with ⟨h0, h1, _⟩ | ⟨g, cap, cur, rfl, _, hg, hn, hc, hs, ht⟩
  · exact .inl ⟨⟨_, _, h0⟩, h1⟩
  · refine .inr ⟨g, 0, cap, rfl, (Array.getElem?_eq_some_iff.1 hg).1, by omega, fun j u hu => ?_⟩
    have h1 : cur[j]? = some u := by
      rw [← ht, List.getElem?_take] at hu
      split at hu
      · simpa using hu
      · cases hu
    simp [World.cell?, hg, h1]
theorem gives_own {e : TypeId} {size : Nat} {v : Value} {m : Nat} {xs : List Value} {L' : List Asn} (hp : Pull L (own e size v m xs) L') : Gives L fun w => SlR w size v m xs := fun w M => by
  obtain ⟨s, hs, _⟩ := (M.pull hp).head
  exact own_slr hs
theorem ok_own {e : TypeId} {size : Nat} {g cap m : Nat} {cur : Array Value} {xs : List Value} (hx : xs.length = m * size) (hg : w.heap[g]? = some (.cells cur e (0, 0))) (hm : m ≤ cap) (hc : cap ≤ maxLen) (hs : cur.size = cap * size) (ht : cur.toList.take (m * size) = xs) : Ok (own e size (.slice (some ⟨g, 0, none⟩) m cap) m xs) [g] w :=
  ⟨fun b hb => by obtain rfl : b = g := by simpa using hb
                  exact (Array.getElem?_eq_some_iff.1 hg).1,
   fun w' hw => ⟨hx, .inr ⟨g, cap, cur, rfl, rfl, by rw [hw.2.2.2 g (by simp)]; exact hg, hm, hc, hs, ht⟩⟩⟩
theorem ok_own_nil {e : TypeId} {size : Nat} : Ok (own e size (.slice none 0 0) 0 []) [] w := ⟨by simp, fun w' hw => ⟨by simp, .inl ⟨rfl, rfl, rfl⟩⟩⟩
theorem Mem.own_nil {L : List Asn} (M : Mem w L) (e : TypeId) (size : Nat) : Mem w (own e size (.slice none 0 0) 0 [] :: L) := M.new ⟨rfl, rfl, rfl, Nat.le_refl _, fun _ _ _ => rfl⟩ ⟨[], ok_own_nil, by simp⟩
theorem Mem.own_pt {L : List Asn} {b : Nat} {cs : List Value} {e : TypeId} (M : Mem w (Go.Proofs.YtaggjikjohamjaaGreatDoor.pt b cs e :: L)) {size m : Nat} (hl : cs.length = m * size) (hm : m ≤ maxLen) : Mem w (own e size (.slice (some ⟨b, 0, none⟩) m m) m cs :: L) :=
  M.imp fun s w' ⟨h1, h2⟩ => ⟨hl, .inr ⟨b, m, _, rfl, h1, h2, Nat.le_refl _, hm, by simp [hl], by simp [← hl]⟩⟩
theorem st_info {t e : TypeId} {z : Value} {size bytes : Nat} (ht : ST t e z size bytes) : ∃ i, Tryz.prog.underlying t = some (.slice e) ∧ Tryz.prog.info? e = some i ∧ i.zero = some z ∧ i.size = size ∧ i.bytes = bytes ∧ z.cells.size = size ∧ 0 < size := by
  obtain ⟨h1, h2, h3⟩ := ht.k
  cases hi : Tryz.prog.info? e with
  | none => rw [hi] at h2; cases h2
  | some i =>
    rw [hi] at h2
    have h2 := Option.some.inj h2
    simp only [Prod.mk.injEq] at h2
    simp only [Bool.and_eq_true, beq_iff_eq] at h3
    exact ⟨i, h1, rfl, h2.1, h2.2.1, h2.2.2, h3.1, Nat.le_of_ble_eq_true h3.2⟩
theorem append_run {t ty e : TypeId} {z : Value} {size bytes : Nat} (ht : ST t e z size bytes) {v : Value} {m : Nat} {xs : List Value} {L' : List Asn} (M : Mem w (own e size v m xs :: L')) {y : Value} {k : Nat} {news : List Value} (hy : SlR w size y k news) (h1 : ∀ u ∈ news, u.oneCell' = true)
    (h63 : m + k ≤ maxLen) (hbytes : (m + k) * bytes ≤ 140737488355328) : ∃ v' w', (Builtin.append_ #[t, t] ty #[v, y]).run Tryz.prog w = .ok v' w' ∧ Mem w' (own e size v' (m + k) (xs ++ news) :: L') := by
  obtain ⟨i, hu, hi, hz, hsize, hby, hzs, hsz⟩ := st_info ht
  have h := ht
  clear ht
  subst hsize
  subst hby
  have hsmall : m + k ≤ 9223372036854775807 := by simp only [maxLen] at h63; omega
  obtain ⟨s, hs, hslt⟩ := M.head
  have hxl := hs.1
  have hlen : (xs ++ news).length = (m + k) * i.size := by rw [List.length_append, hxl, hy.1, Nat.add_mul]

  have grown : ∀ (old : Nat), old < m + k → ∀ (w1 : World), w1 = w.drew.alloc (.cells (xs.toArray ++ news.toArray ++ Builtin.zeroCells z.cells (grownCap w (m + k) old e - (m + k))) e) → Mem w1 (own e i.size (.slice (some ⟨w.heap.size, 0, none⟩) (m + k) (grownCap w (m + k) old e)) (m + k) (xs ++ news) :: L') := by
    intro old ho w1 hw1
    subst hw1
    have hge := grownCap_ge w (m + k) old e
    have hcm : grownCap w (m + k) old e ≤ maxLen := grownCap_le_maxLen w (m + k) old e h63
    refine M.drop.new ⟨rfl, rfl, rfl, by simp, fun k hk _ => ((Below.refl w.drew.heap.size w.drew).alloc (Nat.le_refl _) _).block k hk⟩ ⟨[w.heap.size], ok_own hlen (heap_alloc_new w.drew _) hge hcm ?_ ?_, by simp⟩
    · simp only [Array.size_append, List.size_toArray, size_zeroCells, hzs, hxl, hy.1, ← Nat.add_mul]
      congr 1
      omega
    · simp only [Array.toList_append, List.append_assoc]
      rw [← List.append_assoc, ← hlen]
      exact List.take_left
  have src : k = 0 ∧ news = [] ∧ (∃ a c, y = .slice a 0 c) ∨ ∃ (a : Addr) (c : Nat), y = .slice (some a) k c ∧ ∀ j u, news[j]? = some u → w.cell? (a.add j) = some u := by
    rcases hy.parts with ⟨⟨ao, c, rfl⟩, rfl, rfl⟩ | ⟨b, off, c, rfl, _, _, hc⟩
    · exact .inl ⟨rfl, rfl, ao, c, rfl⟩
    · exact .inr ⟨⟨b, off, none⟩, c, rfl, fun j u hu => by rw [add0]; exact hc j u hu⟩
  rcases hs.2 with ⟨rfl, rfl, rfl⟩ | ⟨g, cap, cur, rfl, rfl, hg, hnc, hcm, hcs, htake⟩
  · have hx : xs = [] := List.eq_nil_of_length_eq_zero (by simpa using hxl)
    subst hx
    by_cases hk : k = 0
    · subst hk
      have hn : news = [] := List.eq_nil_of_length_eq_zero (by simpa using hy.1)
      subst hn
      refine ⟨.slice none 0 0, w, ?_, M⟩
      obtain ⟨ao, c, rfl⟩ := hy.form
      cases ao <;> simp [Builtin.append_, run_underlying hu, sizeOf, typeInfo, hi, Builtin.lenOf, Builtin.firstCells, loadCells, loadCellsFrom]
    · rcases src with ⟨h0, _⟩ | ⟨a, c, rfl, hnews⟩
      · exact absurd h0 hk
      · have hr := run_append_nil (P := Tryz.prog) w t ty e i z hu hi hz a k c news hy.1 hnews (by omega) (by omega) (by have hb := hbytes; simp only [Nat.zero_add] at hb; omega)
        have hgr := grown 0 (by omega) _ rfl
        simp only [Nat.zero_add, List.nil_append, Array.empty_append] at hgr ⊢
        exact ⟨_, _, hr, hgr⟩
  · rcases src with ⟨rfl, rfl, ao, c, rfl⟩ | ⟨a, c, rfl, hnews⟩
    · refine ⟨.slice (some ⟨g, 0, none⟩) m cap, w, ?_, by simpa using M⟩
      cases ao with
      | none => simp [Builtin.append_, run_underlying hu, sizeOf, typeInfo, hi, Builtin.lenOf, Builtin.firstCells, hnc, storeCells]
      | some a => simp [Builtin.append_, run_underlying hu, sizeOf, typeInfo, hi, Builtin.lenOf, Builtin.firstCells, hnc, storeCells, loadCells, loadCellsFrom]
    · by_cases hroom : m + k ≤ cap
      · have hfit : m * i.size + news.length ≤ cur.size := by rw [hy.1, hcs, ← Nat.add_mul]; exact Nat.mul_le_mul_right _ hroom
        have hr := run_append_room (P := Tryz.prog) w t ty e i hu hi g m cap cur hg a k c news hy.1 hnews h1 hroom hfit
        refine ⟨_, _, hr, M.change fun s' hs' => ?_⟩
        obtain ⟨_, h2⟩ := hs'.now
        rcases h2 with ⟨h2, _⟩ | ⟨g', cap', cur', h3, rfl, h5, _⟩
        · cases h2
        · have hgg : g' = g := by cases h3; rfl
          subst hgg
          refine ⟨chg_setRow, [g'], ok_own hlen (setRow_heap w g' cur _ e _ hg) hroom hcm ?_ ?_, fun b hb => .inl hb⟩
          · simp only [List.size_toArray, List.length_append, List.length_take, List.length_drop, Array.length_toList]
            omega
          · rw [htake, ← hlen]
            exact List.take_left
      · have holds : ∀ j u, xs[j]? = some u → w.cell? ((⟨g, 0, none⟩ : Addr).add j) = some u := fun j u hu' => by
          have h1 : cur[j]? = some u := by
            rw [← htake, List.getElem?_take] at hu'
            split at hu'
            · simpa using hu'
            · cases hu'
          rw [add0]
          simp [World.cell?, hg, h1]
        have hr := run_append_grow (P := Tryz.prog) w t ty e i z hu hi hz ⟨g, 0, none⟩ m cap xs hxl holds a k c news hy.1 hnews (by omega) (by omega) (growslice_fits (by omega) hbytes)
        exact ⟨_, _, hr, grown cap (by omega) _ rfl⟩
end
end Go.Proofs.YtaggjikjohamjaaGreatDoor
end
section
namespace Go.Proofs.YtaggjikjohamjaaGreatDoor
instance : IK 2 .i64 := ⟨by kernel_rfl⟩
instance : IK 3 .i64 := ⟨by kernel_rfl⟩
instance : BT 4 := ⟨by kernel_rfl⟩
instance : IK 5 .u8 := ⟨by kernel_rfl⟩
instance : IK 6 .u8 := ⟨by kernel_rfl⟩
instance : BP 7 [(0, 1), (1, 1), (2, 1), (3, 1)] := ⟨by kernel_rfl⟩
instance : BP 8 [(0, 1), (1, 1), (2, 1), (3, 1)] := ⟨by kernel_rfl⟩
instance : IK 12 .u64 := ⟨by kernel_rfl⟩
instance : BP 13 [(0, 1), (1, 1)] := ⟨by kernel_rfl⟩
instance : BP 14 [(0, 1), (1, 1)] := ⟨by kernel_rfl⟩
instance : BP 18 [(0, 1)] := ⟨by kernel_rfl⟩
instance : BP 19 [(0, 1)] := ⟨by kernel_rfl⟩
instance : IK 21 .i32 := ⟨by kernel_rfl⟩
instance : IK 33 .u64 := ⟨by kernel_rfl⟩
instance : BP 34 [(0, 1), (1, 1), (2, 1), (3, 1)] := ⟨by kernel_rfl⟩
instance : BP 35 [(0, 1), (1, 1), (2, 1), (3, 1)] := ⟨by kernel_rfl⟩
instance : BP 71 [(0, 1), (1, 1)] := ⟨by kernel_rfl⟩
instance : BP 72 [(0, 1), (1, 1)] := ⟨by kernel_rfl⟩
instance : IK 79 .u64 := ⟨by kernel_rfl⟩
instance : BP 87 [(0, 1), (1, 1), (2, 1)] := ⟨by kernel_rfl⟩
instance : BP 88 [(0, 1), (1, 1), (2, 1)] := ⟨by kernel_rfl⟩
instance : IK 98 .u32 := ⟨by kernel_rfl⟩
instance : IK 118 .i64 := ⟨by kernel_rfl⟩
instance : BP 130 [(0, 1), (1, 1)] := ⟨by kernel_rfl⟩
instance : BP 131 [(0, 1), (1, 1)] := ⟨by kernel_rfl⟩
instance : BP 135 [(0, 1), (1, 1), (2, 1)] := ⟨by kernel_rfl⟩
instance : BP 136 [(0, 1), (1, 1), (2, 1)] := ⟨by kernel_rfl⟩
instance : BP 140 [(0, 1)] := ⟨by kernel_rfl⟩
instance : BP 141 [(0, 1)] := ⟨by kernel_rfl⟩
instance : BP 145 [(0, 1), (1, 1), (2, 1), (3, 1)] := ⟨by kernel_rfl⟩
instance : BP 146 [(0, 1), (1, 1), (2, 1), (3, 1)] := ⟨by kernel_rfl⟩
instance : BP 148 [(0, 0)] := ⟨by kernel_rfl⟩
instance : BP 149 [(0, 0)] := ⟨by kernel_rfl⟩
instance : IK 151 .u8 := ⟨by kernel_rfl⟩
instance : IK 152 .u8 := ⟨by kernel_rfl⟩
instance : IK 154 .i32 := ⟨by kernel_rfl⟩
instance : IK 155 .i32 := ⟨by kernel_rfl⟩
instance : BP 156 [(0, 1), (1, 1), (2, 1), (3, 1), (4, 1), (5, 1), (6, 1), (7, 1), (8, 1), (9, 1), (10, 1)] := ⟨by kernel_rfl⟩
instance : BP 157 [(0, 1), (1, 1), (2, 1), (3, 1), (4, 1), (5, 1), (6, 1), (7, 1), (8, 1), (9, 1), (10, 1)] := ⟨by kernel_rfl⟩
end Go.Proofs.YtaggjikjohamjaaGreatDoor
end
section
namespace Go.Proofs.YtaggjikjohamjaaGreatDoor
open Go.RowKit
set_option linter.unusedVariables false
set_option maxRecDepth 100000
set_option linter.unusedSimpArgs false
theorem wp_loop_ghost {P : Program} {Q : Exit → Act → World → Prop} {c : Code} {σ : Type} (I : σ → Act → World → Prop) (μ : σ → Nat)
    (round : ∀ s a w, I s a w → c.wp P (Exit.then (fun a' w' => ∃ s', I s' a' w' ∧ μ s' < μ s) Q) a w) {a : Act} {w : World} (s0 : σ) (h0 : I s0 a w) : (Code.loop c).wp P Q a w := by
  intro b k cs
  have key : ∀ (n : Nat) (s : σ) (a : Act) (w : World), μ s = n → I s a w → ∃ e a' w', Q e a' w' ∧ Arrives P (lone (b.at a (.code c :: .inLoop c :: k)) cs w) b k cs e a' w' := by
    intro n
    induction n using Nat.strongRecOn with
    | _ n ih =>
      intro s a w hn hI
      obtain ⟨e, a1, w1, hq, harr⟩ := round s a w hI b (.inLoop c :: k) cs
      cases e with
      | normal =>
        obtain ⟨s', hI1, hlt⟩ := hq
        obtain ⟨e2, a2, w2, hq2, harr2⟩ := ih (μ s') (hn ▸ hlt) s' a1 w1 rfl hI1
        exact ⟨e2, a2, w2, hq2, .of_steps (Steps.trans harr (.one step_inLoop)) harr2⟩
      | exit id => exact ⟨_, a1, w1, hq, .pass (x := .inLoop c) rfl (fun _ _ => .inl (by simp)) harr⟩
      | goto l => exact ⟨_, a1, w1, hq, .pass (x := .inLoop c) rfl (fun _ _ => .inl (by simp)) harr⟩
      | ret => exact ⟨_, a1, w1, hq, .pass (x := .inLoop c) rfl (fun _ _ => .inl (by simp)) harr⟩
      | panic ch => exact ⟨_, a1, w1, hq, .pass (x := .inLoop c) rfl (fun _ _ => .inl (by simp)) harr⟩
      | outgrown => exact ⟨_, a1, w1, hq, .pass (x := .inLoop c) rfl (fun _ _ => .inl (by simp)) harr⟩
  obtain ⟨e, a', w', hq, harr⟩ := key _ s0 a w rfl h0
  exact ⟨e, a', w', hq, .of_steps (.one step_loop) harr⟩
section
variable {Q : Exit → Act → World → Prop} {a : Act} {w : World} {n : Nat} {l : List (Nat × Value)} {L : List Asn}
theorem sv_start {c : Code} {w0 : World} (h : ∀ w, Mem w [Old w0] → c.wp Tryz.prog Q a w) : c.wp Tryz.prog Q a w0 := h w0 (Mem.old w0)
/-- The end of a round. -/
theorem sv_again {σ : Type} {lf : σ → List (Nat × Value)} {Lf : σ → List Asn} {Pf : σ → Prop} {μ : σ → Nat} {m : Nat} (F : Fr a n l) (M : Mem w L) (s' : σ) (h0 : ∀ p ∈ lf s', look l p.1 = some p.2) (hL : Perms L (Lf s')) (hP : Pf s') (hμ : μ s' < m) :
    ∃ s', (Fr a n (lf s') ∧ Mem w (Lf s') ∧ Pf s') ∧ μ s' < m := ⟨s', ⟨F.keep h0, M.perms hL, hP⟩, hμ⟩
end
/-! ### Slices of elements of a type -/
/-- Elements as cells: k cells each. -/
class EL {α : Type} (f : α → List Value) (k : outParam Nat) : Prop where
  len : ∀ x, (f x).length = k
  one : ∀ x, ∀ u ∈ f x, u.oneCell' = true
def vb : Value → Nat
  | .slice (some a) _ _ => a.block
  | _ => 0
def vo : Value → Nat
  | .slice (some a) _ _ => a.off
  | _ => 0
theorem flat_len {α : Type} {f : α → List Value} {k : Nat} (h : ∀ x, (f x).length = k) : ∀ (xs : List α), (xs.flatMap f).length = xs.length * k
  | [] => by simp
  | x :: r => by rw [List.flatMap_cons, List.length_append, h, flat_len h r, List.length_cons, Nat.succ_mul, Nat.add_comm]
theorem flat_get {α : Type} {f : α → List Value} {k : Nat} (h : ∀ x, (f x).length = k) : ∀ (xs : List α) (j i : Nat) (x : α), xs[j]? = some x → i < k → (xs.flatMap f)[j * k + i]? = (f x)[i]?
  | [], j, i, x, hj, _ => by simp at hj
  | y :: r, 0, i, x, hj, hi => by
    obtain rfl : y = x := by simpa using hj
    rw [List.flatMap_cons, Nat.zero_mul, Nat.zero_add, List.getElem?_append_left (by rw [h]; exact hi)]
  | y :: r, j + 1, i, x, hj, hi => by
    rw [List.flatMap_cons, List.getElem?_append_right (by rw [h, Nat.succ_mul]; omega), h, show (j + 1) * k + i - k = j * k + i by rw [Nat.succ_mul]; omega]
    exact flat_get h r j i x (by simpa using hj) hi
theorem flat_one {α : Type} {f : α → List Value} {k : Nat} [h : EL f k] (xs : List α) : ∀ u ∈ xs.flatMap f, u.oneCell' = true := fun u hu => by
  obtain ⟨x, _, hx⟩ := List.mem_flatMap.1 hu
  exact h.one x u hx
theorem flat_drop {α : Type} {f : α → List Value} {k : Nat} (h : ∀ x, (f x).length = k) : ∀ (xs : List α) (i : Nat), (xs.flatMap f).drop (i * k) = (xs.drop i).flatMap f
  | xs, 0 => by simp
  | [], i + 1 => by simp
  | x :: r, i + 1 => by
    rw [List.flatMap_cons, Nat.succ_mul, Nat.add_comm, ← List.drop_drop, show k = (f x).length from (h x).symm, List.drop_left, h, flat_drop h r i, List.drop_succ_cons]
theorem flat_take {α : Type} {f : α → List Value} {k : Nat} (h : ∀ x, (f x).length = k) : ∀ (xs : List α) (i : Nat), (xs.flatMap f).take (i * k) = (xs.take i).flatMap f
  | xs, 0 => by simp
  | [], i + 1 => by simp
  | x :: r, i + 1 => by
    rw [List.flatMap_cons, List.take_succ_cons, List.flatMap_cons, ← flat_take h r i, Nat.succ_mul, Nat.add_comm]
    have e : (f x).length = k := h x
    rw [List.take_append, e, List.take_of_length_le (by omega), show k + i * k - k = i * k by omega]
/-- The slice v reads as these elements. -/
def SlT {α : Type} (w : World) (f : α → List Value) (k : Nat) (v : Value) (xs : List α) : Prop := SlR w k v xs.length (xs.flatMap f)
/-- The slice v owns its array, and holds these elements. -/
abbrev ownT {α : Type} (e : TypeId) (f : α → List Value) (k : Nat) (v : Value) (xs : List α) : Asn := own e k v xs.length (xs.flatMap f)
section
variable {ops : Array Oper} {Q : Exit → Act → World → Prop} {rest : List Oper} {o : Oper} {a : Act} {w : World} {n : Nat} {l : List (Nat × Value)} {L : List Asn} {C : Value → List Asn → Prop}
theorem SlR.at {size : Nat} {v : Value} {m : Nat} {xs : List Value} (h : SlR w size v m xs) (hm : 0 < m) : ∃ cap, v = .slice (some ⟨vb v, vo v, none⟩) m cap ∧ ∀ j u, xs[j]? = some u → w.cell? ⟨vb v, vo v + j, none⟩ = some u := by
  obtain ⟨b, off, cap, rfl, _, hc⟩ := h.openSome hm
  exact ⟨cap, rfl, hc⟩
/-- A reading of a slice that memory gives. -/
def GS (L : List Asn) (size : Nat) (v : Value) (m : Nat) (xs : List Value) : Prop := Gives L fun w => SlR w size v m xs
theorem gs_old {w0 : World} {size m : Nat} {v : Value} {xs : List Value} (h : SlR w0 size v m xs) {L' : List Asn} (hp : Pull L (Old w0) L') : GS L size v m xs := Old.slr h hp
theorem gs_oldT {α : Type} {w0 : World} {f : α → List Value} {k : Nat} {v : Value} {xs : List α} (h : SlT w0 f k v xs) {L' : List Asn} (hp : Pull L (Old w0) L') : GS L k v xs.length (xs.flatMap f) := Old.slr h hp
theorem gs_own {e : TypeId} {size : Nat} {v : Value} {m : Nat} {xs : List Value} {L' : List Asn} (hp : Pull L (own e size v m xs) L') : GS L size v m xs := gives_own hp
/-- The slice v reads as m elements (it may be a part of a slice; it is never written). -/
def roA (size : Nat) (v : Value) (m : Nat) (xs : List Value) : Asn := fun _ w => SlR w size v m xs ∧ ∃ p c, v = .slice p m c ∧ m ≤ c
theorem gs_ro {size : Nat} {v : Value} {m : Nat} {xs : List Value} {L' : List Asn} (hp : Pull L (roA size v m xs) L') : GS L size v m xs := fun w M => by
  obtain ⟨s, hs, _⟩ := (M.pull hp).head
  exact hs.1
theorem Mem.ro {e : TypeId} {size : Nat} {v : Value} {m : Nat} {xs : List Value} {w : World} (M : Mem w (own e size v m xs :: L)) : Mem w (roA size v m xs :: L) :=
  M.imp fun s w' h => ⟨own_slr h, by
    rcases h.2 with ⟨rfl, rfl, _⟩ | ⟨g, cap, cur, rfl, _, _, hm, _⟩
    · exact ⟨_, _, rfl, Nat.le_refl _⟩
    · exact ⟨_, _, rfl, hm⟩⟩
theorem GS.tail {A : Asn} {size : Nat} {v : Value} {m : Nat} {xs : List Value} (h : GS L size v m xs) : GS (A :: L) size v m xs := fun w M => h w M.drop
theorem GS.nil (L : List Asn) (size : Nat) : GS L size (.slice none 0 0) 0 [] := fun w _ => SlR.nil w size
theorem rt_lenG {x : Operand} {ats : Array TypeId} {t : TypeId} (ho : o.op = .call { callee := .builtin .len, args := #[x], argTypes := ats }) (hat : ats = #[t]) {v : Value} (hx : evl l x = some v) {e : TypeId} {z : Value} {size bytes : Nat} (ht : ST t e z size bytes) {m : Nat} {xs : List Value} (hg : GS L size v m xs) : RT o l L n (.int .i64 m) := fun a w F M => by
  obtain ⟨p, c, rfl⟩ := (hg w M).form
  exact rt_lenS (L := L) ho hat hx ht a w F M
/-- The address of an element. -/
theorem rt_indexG {t : TypeId} {x y : Operand} (ho : o.op = .indexAddr t x y) {v : Value} (hx : evl l x = some v) {k : IntKind} {j : Int} (hy : evl l y = some (.int k j)) {e : TypeId} {z : Value} {size bytes : Nat} (ht : ST t e z size bytes) {m : Nat} {xs : List Value} (hg : GS L size v m xs) (h0 : 0 ≤ j) (h1 : j < m) : RT o l L n (.pointer (some ⟨vb v, vo v + j.toNat * size, none⟩)) := fun a w F M => by
  obtain ⟨cap, hv, _⟩ := (hg w M).at (by omega)
  have hx' := hx
  rw [hv] at hx'
  exact rt_indexS (L := L) ho hx' hy ht h0 h1 rfl a w F M
theorem rt_load_at {t : TypeId} {x : Operand} (ho : o.op = .load t x) {v : Value} {p : Nat} (hx : evl l x = some (.pointer (some ⟨vb v, vo v + p, none⟩))) (hkt : KT t none) {size m : Nat} {xs : List Value} (hg : GS L size v m xs) {u : Value} (hu : xs[p]? = some u) : RT o l L n u :=
  rt_loadg ho hx hkt fun w M => by
    have h := hg w M
    have hm : 0 < m := by
      rcases Nat.eq_zero_or_pos m with h0 | h0
      · subst h0
        have : xs = [] := List.eq_nil_of_length_eq_zero (by simpa using h.1)
        subst this; simp at hu
      · exact h0
    obtain ⟨cap, _, hc⟩ := h.at hm
    exact hc p u hu
theorem rt_load_atA {t : TypeId} {x : Operand} (ho : o.op = .load t x) {v : Value} {p : Nat} (hx : evl l x = some (.pointer (some ⟨vb v, vo v + p, none⟩))) {k : Nat} (hkt : KT t (some k)) {size m : Nat} {xs : List Value} (hg : GS L size v m xs) {cs : List Value} (hk : cs.length = k) (hk0 : 0 < k) (hu : ∀ i, i < k → xs[p + i]? = cs[i]?) : RT o l L n (.agg cs.toArray) :=
  rt_loadgA ho hx hkt hk fun w M => by
    have h := hg w M
    have hm : 0 < m := by
      rcases Nat.eq_zero_or_pos m with h0 | h0
      · subst h0
        have : xs = [] := List.eq_nil_of_length_eq_zero (by simpa using h.1)
        subst this
        have h2 := (hu 0 hk0).symm
        rw [List.getElem?_eq_getElem (by omega)] at h2
        simp at h2
      · exact h0
    obtain ⟨cap, _, hc⟩ := h.at hm
    intro j u hj
    have hjk : j < k := by
      have := (List.getElem?_eq_some_iff.1 hj).1; omega
    rw [Nat.add_assoc]
    exact hc (p + j) u (by rw [hu j hjk]; exact hj)
/-- A whole element; a cell of an element. -/
theorem rt_elem1 {α : Type} {f : α → List Value} {t : TypeId} {x : Operand} (ho : o.op = .load t x) {v : Value} {j : Nat} (hx : evl l x = some (.pointer (some ⟨vb v, vo v + j * 1, none⟩))) (hkt : KT t none) {m : Nat} {xs : List α} (hg : GS L 1 v m (xs.flatMap f)) (he : EL f 1) {y : α} (hy : xs[j]? = some y) {u : Value} (hu : (f y)[0]? = some u) : RT o l L n u :=
  rt_load_at ho hx hkt hg (by have := flat_get he.len xs j 0 y hy (by omega); simp only [Nat.add_zero] at this; rw [this, hu])
theorem rt_elemA {α : Type} {f : α → List Value} {t : TypeId} {x : Operand} (ho : o.op = .load t x) {v : Value} {j k : Nat} (hx : evl l x = some (.pointer (some ⟨vb v, vo v + j * k, none⟩))) (hkt : KT t (some k)) {m : Nat} {xs : List α} (hg : GS L k v m (xs.flatMap f)) (he : EL f k) (hk0 : Nat.ble 1 k = true) {y : α} (hy : xs[j]? = some y) : RT o l L n (.agg (f y).toArray) :=
  rt_load_atA ho hx hkt hg (he.len y) (Nat.le_of_ble_eq_true hk0) fun i hi => flat_get he.len xs j i y hy hi
theorem rt_elemF {α : Type} {f : α → List Value} {t : TypeId} {x : Operand} (ho : o.op = .load t x) {v : Value} {j k i : Nat} (hx : evl l x = some (.pointer (some ⟨vb v, vo v + j * k + i, none⟩))) (hkt : KT t none) {m : Nat} {xs : List α} (hg : GS L k v m (xs.flatMap f)) (he : EL f k) {y : α} (hy : xs[j]? = some y) {u : Value} (hu : (f y)[i]? = some u) : RT o l L n u :=
  rt_load_at ho (p := j * k + i) (by rw [← Nat.add_assoc]; exact hx) hkt hg (by
    have hi : i < k := by have := (List.getElem?_eq_some_iff.1 hu).1; rw [he.len] at this; exact this
    rw [flat_get he.len xs j i y hy hi, hu])
theorem Spec.of_quiet_g {k : FuncId} {us us' : List Value} {v : Value} {φ : World → Prop} (h : ∀ w, φ w → Calls Tryz.prog k us'.toArray w fun e w' => e = .returned v ∧ w = w') (hg : Gives L φ) (hu : us = us') (hC : C v L) : Spec k us L C := by
  subst hu
  exact fun G w M => (h w (hg w M.drop_app)).mono fun e w' ⟨he, hb⟩ => ⟨v, L, he, hC, hb ▸ M⟩
theorem Spec.of_below_g {k : FuncId} {us us' : List Value} {v : Value} {φ : World → Prop} (h : ∀ w, φ w → Calls Tryz.prog k us'.toArray w fun e w' => e = .returned v ∧ Below w.heap.size w w') (hg : Gives L φ) (hu : us = us') (hC : C v L) : Spec k us L C := by
  subst hu
  exact fun G w M => (h w (hg w M.drop_app)).mono fun e w' ⟨he, hb⟩ => ⟨v, L, he, hC, M.of_below hb⟩
/-! ### Literals of slices -/
def unidx : Nat → List (Nat × Value) → Option (List Value)
  | _, [] => some []
  | k, (i, v) :: r => match Nat.beq i k, unidx (k + 1) r with
    | true, some vs => some (v :: vs)
    | _, _ => none
def idxL : Nat → List Value → List (Nat × Value)
  | _, [] => []
  | k, v :: r => (k, v) :: idxL (k + 1) r
theorem unidx_spec : ∀ (ps : List (Nat × Value)) (k : Nat) {vs : List Value}, unidx k ps = some vs → ps = idxL k vs
  | [], k, vs, h => by simp [unidx] at h; subst h; rfl
  | (i, v) :: r, k, vs, h => by
    simp only [unidx] at h
    split at h
    · rename_i vs' h1 h2
      obtain rfl := Option.some.inj h
      rw [Nat.eq_of_beq_eq_true h1, unidx_spec r (k + 1) h2]; rfl
    · cases h
def cellsL : List Value → List Value
  | [] => []
  | v :: r => partL v ++ cellsL r
def sizesOK (size : Nat) : List Value → Bool
  | [] => true
  | v :: r => Nat.beq (partL v).length size && sizesOK size r
theorem fill_all (size : Nat) : ∀ (vs : List Value) (i : Nat) (cells : Array Value), sizesOK size vs = true → i * size + vs.length * size ≤ cells.size →
    Instr.fill (fun i => some (i * size, size)) cells (idxL i vs) = some (cells.toList.take (i * size) ++ cellsL vs ++ cells.toList.drop (i * size + vs.length * size)).toArray ∧ (cellsL vs).length = vs.length * size
  | [], i, cells, _, _ => by simp [idxL, Instr.fill, cellsL]
  | v :: r, i, cells, h, hle => by
    simp only [sizesOK, Bool.and_eq_true] at h
    obtain ⟨h1, h2⟩ := h
    have h1 : (partL v).length = size := Nat.eq_of_beq_eq_true h1
    have hsz : v.cells.size = size := by rw [← h1, ← partL_eq]; simp
    simp only [List.length_cons, Nat.succ_mul] at hle
    have hfold : (v.cells.zipIdx.foldl (fun cs x => cs.setIfInBounds (i * size + x.2) x.1) cells).toList = cells.toList.take (i * size) ++ partL v ++ cells.toList.drop (i * size + size) := by
      rw [← Array.foldl_toList, Array.toList_zipIdx]
      have := fold_set (i * size) v.cells.toList 0 cells
      simp only [Nat.add_zero] at this
      rw [this, setMany_eq _ _ _ (by simp [hsz]; omega), partL_eq, h1]
    obtain ⟨k1, k2⟩ := fill_all size r (i + 1) (v.cells.zipIdx.foldl (fun cs x => cs.setIfInBounds (i * size + x.2) x.1) cells) h2 (by
      have : (v.cells.zipIdx.foldl (fun cs x => cs.setIfInBounds (i * size + x.2) x.1) cells).size = cells.size := by
        rw [← Array.length_toList, hfold]; simp [h1]; omega
      rw [this, Nat.succ_mul]; omega)
    refine ⟨?_, by simp only [cellsL, List.length_append, List.length_cons, k2, h1, Nat.succ_mul]; omega⟩
    rw [idxL, Instr.fill]
    have hcond : ¬ ((decide (v.cells.size ≠ size) || decide (i * size + v.cells.size > cells.size)) = true) := by
      simp [hsz]; omega
    simp only [if_neg hcond]
    have e := k1
    rw [hfold] at e
    refine Eq.trans e ?_
    congr 2
    have l1 : (cells.toList.take (i * size)).length = i * size := by simp; omega
    have e1 : (cells.toList.take (i * size) ++ partL v ++ cells.toList.drop (i * size + size)).take ((i + 1) * size) = cells.toList.take (i * size) ++ partL v := by
      rw [Nat.succ_mul]
      have : (cells.toList.take (i * size) ++ partL v).length = i * size + size := by rw [List.length_append, l1, h1]
      rw [← this]; exact List.take_left
    have e2 : (cells.toList.take (i * size) ++ partL v ++ cells.toList.drop (i * size + size)).drop ((i + 1) * size + r.length * size) = cells.toList.drop (i * size + (v :: r).length * size) := by
      have : (cells.toList.take (i * size) ++ partL v).length = i * size + size := by rw [List.length_append, l1, h1]
      rw [Nat.succ_mul, List.drop_append, List.drop_of_length_le (by rw [this]; omega), List.nil_append, this, List.drop_drop]
      congr 1
      simp only [List.length_cons, Nat.succ_mul]; omega
    rw [e1, e2]
    simp [cellsL]
/-- A whole array out of its parts. -/
theorem rt_buildA {t : TypeId} {parts : Array (Nat × Operand)} (ho : o.op = .build t parts) {zs : List Value} (hz : ZT t zs) {len e size : Nat} (ht : AT t len e size) {ps : List (Nat × Value)} (hv : evps l parts.toList = some ps) {vs : List Value} (hu : unidx 0 ps = some vs)
    (hl : Nat.beq zs.length (len * size) = true) (hs : sizesOK size vs = true) (hlen : Nat.beq vs.length len = true) {cs : List Value} (hcs : cellsL vs = cs) : RT o l L n (.agg cs.toArray) := fun a w F M => by
  subst hcs
  obtain ⟨i, z, hi, hzz, h3⟩ := zero_run hz
  have hl : zs.length = len * size := Nat.eq_of_beq_eq_true hl
  have hlen : vs.length = len := Nat.eq_of_beq_eq_true hlen
  have hps := unidx_spec ps 0 hu
  have hparts : (parts.map fun x => (x.1, a.eval x.2)).toList = idxL 0 vs := by rw [← hps]; have := F.evps hv; simpa using this
  obtain ⟨k1, k2⟩ := fill_all size vs 0 zs.toArray hs (by simp [hl, hlen])
  have hzv : (zeroValue t).run Tryz.prog w = .ok z w := by simp [zeroValue, typeInfo, hi, hzz]
  have hss : (sizeOf e).run Tryz.prog w = .ok size w := by
    obtain ⟨j, hj, hj2⟩ := Option.map_eq_some_iff.1 ht.k.2
    simp [sizeOf, typeInfo, hj, hj2]
  have hd : (zs.toArray).toList.take (0 * size) ++ cellsL vs ++ zs.toArray.toList.drop (0 * size + vs.length * size) = cellsL vs := by
    simp only [Nat.zero_mul, Nat.zero_add, List.take_zero, List.nil_append]
    rw [List.drop_of_length_le (by simp [hl, hlen]), List.append_nil]
  rw [hd] at k1
  unfold execOp
  rw [ho]
  simp only [Instr.build, Sem.run_bind, hzv, run_underlying ht.k.1 w, Result.andThen_ok, hss, h3, hparts, k1, Sem.run_pure]
theorem ac_buildSlice {t : TypeId} {len : Nat} {parts : Array (Nat × Operand)} (ho : o.op = .buildSlice t len parts) {e : TypeId} {z : Value} {size bytes : Nat} (ht : ST t e z size bytes) {ps : List (Nat × Value)} (hv : evps l parts.toList = some ps) {vs : List Value} (hu : unidx 0 ps = some vs) (hl : Nat.beq vs.length len = true) (hs : sizesOK size vs = true) (hsm : Nat.ble (len * size) 65536 = true) {cs : List Value} (hcs : cellsL vs = cs)
    (h : ∀ b, C (.slice (some ⟨b, 0, none⟩) len len) (own e size (.slice (some ⟨b, 0, none⟩) len len) len cs :: L)) : AC o l L n C := fun G a w F M => by
  subst hcs
  obtain ⟨i, hu1, hi, hz, hsize, hby, hzs, hsz⟩ := st_info ht
  have hl : vs.length = len := Nat.eq_of_beq_eq_true hl
  have hsm : len * size ≤ 65536 := Nat.le_of_ble_eq_true hsm
  have hps := unidx_spec ps 0 hu
  have hparts : (parts.map fun x => (x.1, a.eval x.2)).toList = idxL 0 vs := by rw [← hps]; have := F.evps hv; simpa using this
  have key : ∀ cells : Array Value, cells.size = len * size → Instr.fill (fun i => some (i * size, size)) cells (idxL 0 vs) = some (cellsL vs).toArray := fun cells hc => by
    obtain ⟨k1, k2⟩ := fill_all size vs 0 cells hs (by rw [hc, hl]; omega)
    rw [k1]
    congr 2
    simp only [Nat.zero_mul, Nat.zero_add, List.take_zero, List.nil_append]
    rw [List.drop_of_length_le (by rw [hl, Array.length_toList, hc]; omega), List.append_nil]
  have hlen : (cellsL vs).length = len * size := by
    obtain ⟨_, k2⟩ := fill_all size vs 0 (Array.replicate (len * size) undef) hs (by simp [hl])
    rw [k2, hl]
  have hrun : (execOp a.eval o).run Tryz.prog w = .ok (.value (.slice (some ⟨w.heap.size, 0, none⟩) len len)) (w.alloc (.cells (cellsL vs).toArray e)) := by
    unfold execOp
    rw [ho]
    have hzv : (zeroValue e).run Tryz.prog w = .ok z w := by simp [zeroValue, typeInfo, hi, hz]
    have h24 : ¬ (len * size > 2 ^ 24) := by omega
    have hk := key ((Array.range (len * size)).map ((if len * size = 0 then #[] else z.cells)[· % (if len * size = 0 then #[] else z.cells).size]!)) (by simp)
    have hss : (sizeOf e).run Tryz.prog w = .ok size w := by simp [sizeOf, typeInfo, hi, hsize]
    by_cases h0 : len * size = 0
    · simp only [if_pos h0] at hk
      simp only [Instr.buildSlice, Sem.run_bind, run_underlying hu1 w, hss, Result.andThen_ok, if_neg h24, hparts, if_pos h0, Sem.run_pure, hk]
      simp [newRow, newObj, Sem.run]
    · simp only [if_neg h0] at hk
      simp only [Instr.buildSlice, Sem.run_bind, run_underlying hu1 w, hss, Result.andThen_ok, if_neg h24, hparts, if_neg h0, Sem.run_pure, hzv, hk]
      simp [newRow, newObj, Sem.run]
  rw [hrun]
  refine ⟨_, h _, ?_⟩
  exact Mem.own_pt (M.alloc (cellsL vs) e) hlen (by simp only [maxLen]; have := Nat.le_mul_of_pos_right len hsz; omega)
theorem GS.len_le {size m : Nat} {v : Value} {xs : List Value} (h : GS L size v m xs) (M : Mem w L) : m ≤ 9223372036854775807 := (h w M).len_le
theorem GS.imp {K : List Asn} {size m : Nat} {v : Value} {xs : List Value} (h : GS L size v m xs) (hk : ∀ w, Mem w K → Mem w L) : GS K size v m xs := fun w M => h w (hk w M)
/-- A function that reads: it yields v in every memory that holds L, and leaves what there is as it was. -/
def Reads (k : FuncId) (us : List Value) (v : Value) (L : List Asn) : Prop := ∀ K, (∀ w, Mem w K → Mem w L) → ∀ w, Mem w K → Calls Tryz.prog k us.toArray w fun e w' => e = .returned v ∧ Mem w' K
theorem Spec.of_reads {k : FuncId} {us us' : List Value} {v : Value} (h : Reads k us' v L) (hu : us = us') (hC : C v L) : Spec k us L C := by
  subst hu
  exact fun G w M => (h (L ++ G) (fun w M => M.drop_app) w M).mono fun e w' ⟨he, hm⟩ => ⟨v, L, he, hC, hm⟩
/-! ### Strings -/
abbrev str (s : List UInt8) : Value := .string ⟨s.toArray⟩
theorem rt_cat {t ty : TypeId} {x y : Operand} (ho : o.op = .binOp .add t x y ty) {s r : List UInt8} (hx : evl l x = some (str s)) (hy : evl l y = some (str r)) (hb : s.length + r.length ≤ 9223372036854775807) : RT o l L n (str (s ++ r)) := fun a w F M => by
  unfold execOp
  rw [ho]
  have : (ByteArray.mk s.toArray) ++ (ByteArray.mk r.toArray) = ByteArray.mk (s ++ r).toArray := by
    apply ByteArray.ext; simp
  have h1 : (ByteArray.mk s.toArray).size = s.length := rfl
  have h2 : (ByteArray.mk r.toArray).size = r.length := rfl
  have h3 : ¬ ((s.length : Int) + (r.length : Int) > IntKind.i64.max) := by
    show ¬ ((s.length : Int) + (r.length : Int) > 9223372036854775807)
    omega
  simp [F.eval hx, F.eval hy, eqGuard, binOp, Op.stringOp, this, h1, h2]
  omega
theorem rt_eqT {t ty : TypeId} {x y : Operand} (ho : o.op = .binOp .eql t x y ty) {s r : List UInt8} (hx : evl l x = some (str s)) (hy : evl l y = some (str r)) : RT o l L n (.bool (decide (s = r))) := fun a w F M => by
  unfold execOp
  rw [ho]
  simp [F.eval hx, F.eval hy, eqGuard, binOp, Op.stringOp, ByteArray.toList_mk]
  rw [Bool.eq_iff_iff]; simp
theorem rt_neT {t ty : TypeId} {x y : Operand} (ho : o.op = .binOp .neq t x y ty) {s r : List UInt8} (hx : evl l x = some (str s)) (hy : evl l y = some (str r)) : RT o l L n (.bool (decide (s ≠ r))) := fun a w F M => by
  unfold execOp
  rw [ho]
  simp [F.eval hx, F.eval hy, eqGuard, binOp, Op.stringOp, ByteArray.toList_mk]
  rw [Bool.eq_iff_iff]; simp
/-- A pointer type. -/
class PT (t : TypeId) (e : outParam TypeId) : Prop where
  k : Tryz.prog.underlying t = some (.pointer e) ∧ (Tryz.prog.info? e).isSome = true
class TT (t : TypeId) : Prop where
  k : Tryz.prog.underlying t = some .string
theorem rt_lenStr {x : Operand} {ats : Array TypeId} {t : TypeId} (ho : o.op = .call { callee := .builtin .len, args := #[x], argTypes := ats }) (hat : ats = #[t]) {s : List UInt8} (hx : evl l x = some (str s)) (ht : TT t) : RT o l L n (.int .i64 s.length) := rt_lenT ho hat hx ht.k
/-- A byte of a string. -/
theorem rt_byte {t : TypeId} {x y : Operand} (ho : o.op = .index t x y) {s : List UInt8} (hx : evl l x = some (str s)) {k : IntKind} {j : Int} (hy : evl l y = some (.int k j)) (ht : TT t) (h0 : 0 ≤ j) {b : UInt8} (hb : s[j.toNat]? = some b) : RT o l L n (.int .u8 b.toNat) := fun a w F M => by
  unfold execOp
  rw [ho]
  obtain ⟨hlt, hb'⟩ := List.getElem?_eq_some_iff.1 hb
  have h1 : (ByteArray.mk s.toArray)[j.toNat]? = some b := by
    have hs : j.toNat < (ByteArray.mk s.toArray).size := hlt
    rw [getElem?_pos (ByteArray.mk s.toArray) j.toNat hs]
    congr 1
  simp [F.eval hx, F.eval hy, Instr.index, asIntOf, run_underlying ht.k w, h0, h1]
/-- A part of a string. -/
theorem rt_mid {t : TypeId} {x y z : Operand} (ho : o.op = .slice t x (some y) (some z) none) {s : List UInt8} (hx : evl l x = some (str s)) {k k' : IntKind} {i j : Int} (hy : evl l y = some (.int k i)) (hz : evl l z = some (.int k' j)) (ht : TT t) (h0 : 0 ≤ i) (h1 : i ≤ j) (h2 : j ≤ s.length) : RT o l L n (str ((s.drop i.toNat).take (j.toNat - i.toNat))) := fun a w F M => by
  unfold execOp
  rw [ho]
  have hr := run_sliceAt_string (P := Tryz.prog) w t (.string ⟨s.toArray⟩) (some (.int k i)) (some (.int k' j)) none ht.k
  have hs := run_slice_string (P := Tryz.prog) w t ⟨s.toArray⟩ k k' i j ht.k h0 h1 (by show j ≤ (s.length : Int); exact h2)
  simp [F.eval hx, F.eval hy, F.eval hz, hr, hs, ByteArray.extract_mk]
theorem rt_midFrom {t : TypeId} {x y : Operand} (ho : o.op = .slice t x (some y) none none) {s : List UInt8} (hx : evl l x = some (str s)) {k : IntKind} {i : Int} (hy : evl l y = some (.int k i)) (ht : TT t) (h0 : 0 ≤ i) (h1 : i ≤ s.length) : RT o l L n (str (s.drop i.toNat)) := fun a w F M => by
  unfold execOp
  rw [ho]
  have hr := run_sliceAt_string (P := Tryz.prog) w t (.string ⟨s.toArray⟩) (some (.int k i)) none none ht.k
  have hs := run_slice_string_l (P := Tryz.prog) w t ⟨s.toArray⟩ ht.k k i h0 (by show i ≤ (s.length : Int); exact h1)
  have hz : (ByteArray.mk s.toArray).size = s.length := rfl
  have : (s.drop i.toNat).take (s.length - i.toNat) = s.drop i.toNat := List.take_of_length_le (by simp)
  simp [F.eval hx, F.eval hy, hr, hs, ByteArray.extract_mk, hz, this]
theorem rt_midTo {t : TypeId} {x y : Operand} (ho : o.op = .slice t x none (some y) none) {s : List UInt8} (hx : evl l x = some (str s)) {k : IntKind} {i : Int} (hy : evl l y = some (.int k i)) (ht : TT t) (h0 : 0 ≤ i) (h1 : i ≤ s.length) : RT o l L n (str (s.take i.toNat)) := fun a w F M => by
  unfold execOp
  rw [ho]
  have hr := run_sliceAt_string (P := Tryz.prog) w t (.string ⟨s.toArray⟩) none (some (.int k i)) none ht.k
  have hs := run_slice_string_h (P := Tryz.prog) w t ⟨s.toArray⟩ ht.k k i h0 (by show i ≤ (s.length : Int); exact h1)
  simp [F.eval hx, F.eval hy, hr, hs, ByteArray.extract_mk]
/-- A part of an array, of a slice. -/
theorem rt_sliceA {t : TypeId} {x y : Operand} (ho : o.op = .slice t x none (some y) none) {b i : Nat} (hx : evl l x = some (.pointer (some ⟨b, i, none⟩))) {k : IntKind} {j : Int} (hy : evl l y = some (.int k j)) {len e size : Nat} (ht : AT t len e size) (h0 : 0 ≤ j) (h1 : j ≤ len) : RT o l L n (.slice (some ⟨b, i, none⟩) j.toNat len) := fun a w F M => by
  unfold execOp
  rw [ho]
  obtain ⟨hu, hs⟩ := ht.k
  have e1 : Tryz.prog.arrayLen t = len := by simp [Program.arrayLen, hu]
  have e2 : Tryz.prog.elem t = e := by simp [Program.elem, hu]
  have hr := run_sliceAt_array_h (P := Tryz.prog) w t ⟨b, i, none⟩ (by rw [e1, e2]; exact hu) k j h0 (by rw [e1]; exact h1)
  have hz : (sizeOf e).run Tryz.prog w = .ok size w := by
    cases hi : Tryz.prog.info? e with
    | none => rw [hi] at hs; cases hs
    | some ie =>
      rw [hi] at hs
      have hs := Option.some.inj hs
      simp [sizeOf, typeInfo, hi, hs]
  rw [e1, e2, hz] at hr
  simp only [Result.andThen_ok, slicedAt] at hr
  have : (if len = 0 then (⟨b, i, none⟩ : Addr) else (⟨b, i, none⟩ : Addr).add (0 * size)) = ⟨b, i, none⟩ := by
    split
    · rfl
    · rw [add0]; simp
  rw [this] at hr
  simp [F.eval hx, F.eval hy, hr]
theorem st_size {t e : TypeId} {z : Value} {size bytes : Nat} (ht : ST t e z size bytes) (w : World) : (sizeOf e).run Tryz.prog w = .ok size w := by
  obtain ⟨i, _, hi, _, hs, _⟩ := st_info ht
  simp [sizeOf, typeInfo, hi, hs]
/-- Bytes as a string. -/
theorem rt_string {s t : TypeId} {x : Operand} (ho : o.op = .convert s t x) {b i c m : Nat} (hx : evl l x = some (.slice (some ⟨b, i, none⟩) m c)) {e : TypeId} {z : Value} {bytes : Nat} (hs : ST s e z 1 bytes) (he : IK e .u8) (ht : TT t) {r : List UInt8} (hm : m = r.length) (hg : Gives L fun w => ∀ j (hj : j < r.length), w.cell? ⟨b, i + j, none⟩ = some (.int .u8 (r[j].toNat : Int))) : RT o l L n (str r) := fun a w F M => by
  subst hm
  unfold execOp
  rw [ho]
  have h := run_convert_bytes_back (P := Tryz.prog) w s t e ⟨b, i, none⟩ c r hs.k.1 he.k ht.k (fun j hj => by rw [add0]; exact hg w M j hj)
  simp [F.eval hx, h]
/-- A slice's words. -/
structure SlH where
  a : Option Addr
  n : Nat
  c : Nat
abbrev sl (h : SlH) : Value := .slice h.a h.n h.c
theorem rt_nilp {t ty : TypeId} {x y : Operand} (ho : o.op = .binOp .eql t x y ty) {p : Option Addr} (hx : evl l x = some (.pointer p)) (hy : evl l y = some (.pointer none)) {e : TypeId} (ht : PT t e) : RT o l L n (.bool p.isNone) := fun a w F M => by
  have h := ht.k.1
  have h' : Tryz.prog.underlying t = some (.pointer (Tryz.prog.pointee t)) := by simp [Program.pointee, h]
  unfold execOp
  rw [ho]
  simp [F.eval hx, F.eval hy, eqGuard, run_eql_pointer_nil w t p h']
theorem rt_nenilp {t ty : TypeId} {x y : Operand} (ho : o.op = .binOp .neq t x y ty) {p : Option Addr} (hx : evl l x = some (.pointer p)) (hy : evl l y = some (.pointer none)) {e : TypeId} (ht : PT t e) : RT o l L n (.bool (!p.isNone)) := fun a w F M => by
  have h := ht.k.1
  have h' : Tryz.prog.underlying t = some (.pointer (Tryz.prog.pointee t)) := by simp [Program.pointee, h]
  unfold execOp
  rw [ho]
  simp [F.eval hx, F.eval hy, eqGuard, run_neq_pointer_nil w t p h']
theorem rt_nils {t ty : TypeId} {x y : Operand} (ho : o.op = .binOp .eql t x y ty) {h : SlH} (hx : evl l x = some (sl h)) (hy : evl l y = some (.slice none 0 0)) {e : TypeId} {z : Value} {k bytes : Nat} (ht : ST t e z k bytes) : RT o l L n (.bool h.a.isNone) := fun a w F M => by
  obtain ⟨ha, hn, hc⟩ := h
  have hr := Go.run_eql_slice_nil (P := Tryz.prog) w t e ha hn hc ht.k.1
  unfold execOp
  rw [ho]
  simp [F.eval hx, F.eval hy, eqGuard, hr]
theorem rt_nenils {t ty : TypeId} {x y : Operand} (ho : o.op = .binOp .neq t x y ty) {h : SlH} (hx : evl l x = some (sl h)) (hy : evl l y = some (.slice none 0 0)) {e : TypeId} {z : Value} {k bytes : Nat} (ht : ST t e z k bytes) : RT o l L n (.bool (!h.a.isNone)) := fun a w F M => by
  obtain ⟨ha, hn, hc⟩ := h
  have hr := Go.run_neq_slice_nil (P := Tryz.prog) w t e ha hn hc ht.k.1
  unfold execOp
  rw [ho]
  simp [F.eval hx, F.eval hy, eqGuard, hr]
theorem rt_neg {t : TypeId} {x : Operand} (ho : o.op = .unOp .neg t x) {k : IntKind} {m : Int} (hx : evl l x = some (.int k m)) {r : Int} (hr : k.wrap (-m) = r) : RT o l L n (.int k r) := fun a w F M => by
  subst hr
  unfold execOp
  rw [ho]
  have hr : (Op.intArith .sub k 0 m).run Tryz.prog w = .ok (.int k (k.wrap (-m))) w := by
    simp [Op.intArith]
  simp [F.eval hx, Op.unary, hr]
theorem Gives.app {L G : List Asn} {φ : World → Prop} (h : Gives L φ) : Gives (L ++ G) φ := fun w M => h w M.drop_app
end
end Go.Proofs.YtaggjikjohamjaaGreatDoor
end
section
namespace Go.Proofs.YtaggjikjohamjaaGreatDoor
open Go.RowKit
set_option linter.unusedVariables false
set_option maxRecDepth 100000
set_option linter.unusedSimpArgs false
/-- Equal elements. -/
class EQF {α : Type} [DecidableEq α] (f : α → List Value) (ks : outParam (List Sc)) : Prop where
  k : ∀ x y, cellsEq ks (f x) (f y) = some (decide (x = y))
section
variable {ops : Array Oper} {Q : Exit → Act → World → Prop} {rest : List Oper} {o : Oper} {a : Act} {w : World} {n : Nat} {l : List (Nat × Value)} {L : List Asn} {C : Value → List Asn → Prop}
theorem rtA {v : Value} (h : RT o l L n v := by (first | (apply rt_eqT; (exact rfl); (exact rfl); (exact rfl)) | (apply rt_neT; (exact rfl); (exact rfl); (exact rfl)) | (exact rt_pure rfl) | (apply rt_extract; (exact rfl); (exact rfl); (exact rfl)) | (apply rt_field; (exact rfl); (exact rfl); (exact inferInstance); (exact rfl)) | (apply rt_load; (exact rfl); (exact rfl); (exact inferInstance); (focus ((repeat (first | exact Pull.here | apply Pull.there)); done)); (exact rfl)) | (apply rt_loadA; (exact rfl); (exact rfl); (exact inferInstance); (focus ((repeat (first | exact Pull.here | apply Pull.there)); done)); (exact rfl)) | (apply rt_add; (exact rfl); (exact rfl); (exact rfl); (focus (first | omega | ((simp only [maxLen, List.length_append, List.length_cons, List.length_nil] at *); omega))); (focus (first | omega | ((simp only [maxLen, List.length_append, List.length_cons, List.length_nil] at *); omega)))) | (apply rt_sub; (exact rfl); (exact rfl); (exact rfl); (focus (first | omega | ((simp only [maxLen, List.length_append, List.length_cons, List.length_nil] at *); omega))); (focus (first | omega | ((simp only [maxLen, List.length_append, List.length_cons, List.length_nil] at *); omega)))) | (apply rt_addu; (exact rfl); (exact rfl); (exact rfl); (focus (first | omega | ((simp only [maxLen, List.length_append, List.length_cons, List.length_nil] at *); omega))); (focus (first | omega | ((simp only [maxLen, List.length_append, List.length_cons, List.length_nil] at *); omega)))) | (apply rt_subu; (exact rfl); (exact rfl); (exact rfl); (focus (first | omega | ((simp only [maxLen, List.length_append, List.length_cons, List.length_nil] at *); omega))); (focus (first | omega | ((simp only [maxLen, List.length_append, List.length_cons, List.length_nil] at *); omega)))) | (apply rt_conv; (exact rfl); (exact rfl); (exact inferInstance); (exact inferInstance); (focus (first | assumption | exact IntWalk.i64_in _ (by omega) | exact u64_in (by omega) (by omega) | exact IntWalk.u8_in _ (by omega) | exact rfl))) | (apply rt_indexA; (exact rfl); (exact rfl); (exact rfl); (exact inferInstance); (focus (first | omega | ((simp only [maxLen, List.length_append, List.length_cons, List.length_nil] at *); omega))); (focus (first | omega | ((simp only [maxLen, List.length_append, List.length_cons, List.length_nil] at *); omega))); (exact rfl)) | (apply rt_indexS; (exact rfl); (exact rfl); (exact rfl); (exact inferInstance); (focus (first | omega | ((simp only [maxLen, List.length_append, List.length_cons, List.length_nil] at *); omega))); (focus (first | omega | ((simp only [maxLen, List.length_append, List.length_cons, List.length_nil] at *); omega))); (exact rfl)) | (apply rt_eql1; (exact rfl); (exact rfl); (exact rfl); (exact inferInstance); (exact rfl)) | (apply rt_neq1; (exact rfl); (exact rfl); (exact rfl); (exact inferInstance); (exact rfl)) | (apply rt_eql; (exact rfl); (exact rfl); (exact rfl); (exact inferInstance); (exact rfl)) | (apply rt_neq; (exact rfl); (exact rfl); (exact rfl); (exact inferInstance); (exact rfl)) | (apply rt_loadS; (exact rfl); (exact rfl); (exact inferInstance); (focus ((repeat (first | exact Pull.here | apply Pull.there)); done)); (exact rfl)) | (apply rt_eqb; (exact rfl); (exact rfl); (exact rfl); (exact inferInstance)) | (apply rt_neb; (exact rfl); (exact rfl); (exact rfl); (exact inferInstance)) | (apply rt_min; (exact rfl); (exact rfl); (exact rfl)) | (apply rt_max; (exact rfl); (exact rfl); (exact rfl)) | (apply rt_build; (exact rfl); (exact inferInstance); (exact inferInstance); (exact rfl); (exact rfl)) | (apply rt_buildA; (exact rfl); (exact inferInstance); (exact inferInstance); (exact rfl); (exact rfl); (exact rfl); (exact rfl); (exact rfl); (exact rfl)) | (apply rt_rem; (exact rfl); (exact rfl); (exact rfl); (focus (first | omega | ((simp only [maxLen, List.length_append, List.length_cons, List.length_nil] at *); omega))); (focus (first | omega | ((simp only [maxLen, List.length_append, List.length_cons, List.length_nil] at *); omega)))) | (apply rt_quo; (exact rfl); (exact rfl); (exact rfl); (focus (first | omega | ((simp only [maxLen, List.length_append, List.length_cons, List.length_nil] at *); omega))); (focus (first | omega | ((simp only [maxLen, List.length_append, List.length_cons, List.length_nil] at *); omega))); (focus (first | assumption | exact IntWalk.i64_in _ (by omega) | exact u64_in (by omega) (by omega) | exact IntWalk.u8_in _ (by omega) | exact rfl))) | (apply rt_mul; (exact rfl); (exact rfl); (exact rfl); (focus (first | omega | ((simp only [maxLen, List.length_append, List.length_cons, List.length_nil] at *); omega))); (focus (first | omega | ((simp only [maxLen, List.length_append, List.length_cons, List.length_nil] at *); omega)))) | (apply rt_lenG; (exact rfl); (exact rfl); (exact rfl); (exact inferInstance); (first | (focus ((repeat (first | assumption | apply GS.tail)); done)) | (apply gs_old; assumption; (focus ((repeat (first | exact Pull.here | apply Pull.there)); done))) | (apply gs_oldT; assumption; (focus ((repeat (first | exact Pull.here | apply Pull.there)); done))) | (apply gs_own; (focus ((repeat (first | exact Pull.here | apply Pull.there)); done))) | (apply gs_ro; (focus ((repeat (first | exact Pull.here | apply Pull.there)); done))) | exact GS.nil _ _)) | (apply rt_lenS; (exact rfl); (exact rfl); (exact rfl); (exact inferInstance)) | (apply rt_indexG; (exact rfl); (exact rfl); (exact rfl); (exact inferInstance); (first | (focus ((repeat (first | assumption | apply GS.tail)); done)) | (apply gs_old; assumption; (focus ((repeat (first | exact Pull.here | apply Pull.there)); done))) | (apply gs_oldT; assumption; (focus ((repeat (first | exact Pull.here | apply Pull.there)); done))) | (apply gs_own; (focus ((repeat (first | exact Pull.here | apply Pull.there)); done))) | (apply gs_ro; (focus ((repeat (first | exact Pull.here | apply Pull.there)); done))) | exact GS.nil _ _); (focus (first | omega | ((simp only [maxLen, List.length_append, List.length_cons, List.length_nil] at *); omega))); (focus (first | omega | ((simp only [maxLen, List.length_append, List.length_cons, List.length_nil] at *); omega)))) | (apply rt_elemF; (exact rfl); (exact rfl); (exact inferInstance); (first | (focus ((repeat (first | assumption | apply GS.tail)); done)) | (apply gs_old; assumption; (focus ((repeat (first | exact Pull.here | apply Pull.there)); done))) | (apply gs_oldT; assumption; (focus ((repeat (first | exact Pull.here | apply Pull.there)); done))) | (apply gs_own; (focus ((repeat (first | exact Pull.here | apply Pull.there)); done))) | (apply gs_ro; (focus ((repeat (first | exact Pull.here | apply Pull.there)); done))) | exact GS.nil _ _); (exact inferInstance); assumption; (exact rfl)) | (apply rt_elem1; (exact rfl); (exact rfl); (exact inferInstance); (first | (focus ((repeat (first | assumption | apply GS.tail)); done)) | (apply gs_old; assumption; (focus ((repeat (first | exact Pull.here | apply Pull.there)); done))) | (apply gs_oldT; assumption; (focus ((repeat (first | exact Pull.here | apply Pull.there)); done))) | (apply gs_own; (focus ((repeat (first | exact Pull.here | apply Pull.there)); done))) | (apply gs_ro; (focus ((repeat (first | exact Pull.here | apply Pull.there)); done))) | exact GS.nil _ _); (exact inferInstance); assumption; (exact rfl)) | (apply rt_elemA; (exact rfl); (exact rfl); (exact inferInstance); (first | (focus ((repeat (first | assumption | apply GS.tail)); done)) | (apply gs_old; assumption; (focus ((repeat (first | exact Pull.here | apply Pull.there)); done))) | (apply gs_oldT; assumption; (focus ((repeat (first | exact Pull.here | apply Pull.there)); done))) | (apply gs_own; (focus ((repeat (first | exact Pull.here | apply Pull.there)); done))) | (apply gs_ro; (focus ((repeat (first | exact Pull.here | apply Pull.there)); done))) | exact GS.nil _ _); (exact inferInstance); (exact rfl); assumption) | (apply rt_lenStr; (exact rfl); (exact rfl); (exact rfl); (exact inferInstance)) | (apply rt_byte; (exact rfl); (exact rfl); (exact rfl); (exact inferInstance); (focus (first | omega | ((simp only [maxLen, List.length_append, List.length_cons, List.length_nil] at *); omega))); assumption) | (apply rt_mid; (exact rfl); (exact rfl); (exact rfl); (exact rfl); (exact inferInstance); (focus (first | omega | ((simp only [maxLen, List.length_append, List.length_cons, List.length_nil] at *); omega))); (focus (first | omega | ((simp only [maxLen, List.length_append, List.length_cons, List.length_nil] at *); omega))); (focus (first | omega | ((simp only [maxLen, List.length_append, List.length_cons, List.length_nil] at *); omega)))) | (apply rt_midFrom; (exact rfl); (exact rfl); (exact rfl); (exact inferInstance); (focus (first | omega | ((simp only [maxLen, List.length_append, List.length_cons, List.length_nil] at *); omega))); (focus (first | omega | ((simp only [maxLen, List.length_append, List.length_cons, List.length_nil] at *); omega)))) | (apply rt_midTo; (exact rfl); (exact rfl); (exact rfl); (exact inferInstance); (focus (first | omega | ((simp only [maxLen, List.length_append, List.length_cons, List.length_nil] at *); omega))); (focus (first | omega | ((simp only [maxLen, List.length_append, List.length_cons, List.length_nil] at *); omega)))) | (apply rt_cat; (exact rfl); (exact rfl); (exact rfl); (focus (first | omega | ((simp only [maxLen, List.length_append, List.length_cons, List.length_nil] at *); omega)))) | (apply rt_sliceA; (exact rfl); (exact rfl); (exact rfl); (exact inferInstance); (focus (first | omega | ((simp only [maxLen, List.length_append, List.length_cons, List.length_nil] at *); omega))); (focus (first | omega | ((simp only [maxLen, List.length_append, List.length_cons, List.length_nil] at *); omega)))) | (apply rt_nils; (exact rfl); (exact rfl); (exact rfl); (exact inferInstance)) | (apply rt_nenils; (exact rfl); (exact rfl); (exact rfl); (exact inferInstance)) | (apply rt_nilp; (exact rfl); (exact rfl); (exact rfl); (exact inferInstance)) | (apply rt_nenilp; (exact rfl); (exact rfl); (exact rfl); (exact inferInstance)) | (apply rt_neg; (exact rfl); (exact rfl); (exact rfl)) | fail | (apply rt_arith; (exact rfl); (exact rfl); (exact rfl); (exact rfl)))) : RT o l L n v := h
theorem acB {v : Value} {L' : List Asn} (h : C v L') (s : C v L' → AC o l L n C := by (intro h; first | (apply ac_store; (exact rfl); (exact rfl); (exact inferInstance); (exact rfl); (exact rfl); (focus ((repeat (first | exact Rep.here | apply Rep.there)); done)); (exact rfl); (exact h)) | (apply ac_storeW; (exact rfl); (exact rfl); (exact inferInstance); (exact rfl); (exact rfl); (exact rfl); (focus ((repeat (first | exact Rep.here | apply Rep.there)); done)); (exact rfl); (exact h)) | (apply ac_storeA; (exact rfl); (exact rfl); (exact inferInstance); (exact rfl); (exact rfl); (exact rfl); (focus ((repeat (first | exact Rep.here | apply Rep.there)); done)); (exact rfl); (exact h)))) : AC o l L n C := s h
theorem acA {fv : Nat → Value} {fL : Nat → List Asn} (h : ∀ b, C (fv b) (fL b)) (s : (∀ b, C (fv b) (fL b)) → AC o l L n C := by (intro h; first | (apply ac_boxA; (exact rfl); (exact rfl); (exact h)) | (apply ac_box; (exact rfl); (exact rfl); (exact rfl); (exact h)) | (apply ac_alloc; (exact rfl); (exact inferInstance); (exact h)) | (apply ac_buildSlice; (exact rfl); (exact inferInstance); (exact rfl); (exact rfl); (exact rfl); (exact rfl); (exact rfl); (exact rfl); (exact h)))) : AC o l L n C := s h
theorem sv1 (F : Fr a n l) (M : Mem w L) {d : Nat} {v : Value} (h : ∀ a', Fr a' n ((d, v) :: l) → wpList Tryz.prog ops Q rest a' w)
    (hw : Wanted o ops l = some true := by exact rfl) (hd : o.dst = some d := by exact rfl) (hn : Nat.ble (d + 1) n = true := by exact rfl) (hr : RT o l L n v := by exact rtA) : wpList Tryz.prog ops Q (o :: rest) a w := sv_run F M hw hd hn hr h
theorem sv2 (F : Fr a n l) (M : Mem w L) {d : Nat} {fv : Nat → Value} {fL : Nat → List Asn} (h : ∀ b a' w', Fr a' n ((d, fv b) :: l) → Mem w' (fL b) → wpList Tryz.prog ops Q rest a' w')
    (hw : Wanted o ops l = some true := by exact rfl) (hd : o.dst = some d := by exact rfl) (hn : Nat.ble (d + 1) n = true := by exact rfl)
    (s : ∀ C : Value → List Asn → Prop, (∀ b, C (fv b) (fL b)) → AC o l L n C := by (intro C h; exact acA h)) : wpList Tryz.prog ops Q (o :: rest) a w := sv_act F M hw hd hn (s _ h)
theorem sv3 (F : Fr a n l) (M : Mem w L) {v : Value} {L' : List Asn} (h : ∀ w', Mem w' L' → wpList Tryz.prog ops Q rest a w')
    (hw : Wanted o ops l = some true := by exact rfl) (hd : o.dst = none := by exact rfl)
    (s : ∀ C : Value → List Asn → Prop, C v L' → AC o l L n C := by (intro C h; exact acB h)) : wpList Tryz.prog ops Q (o :: rest) a w := sv_act0 F M hw hd (s _ h)
theorem svK (F : Fr a n l) {d : Nat} (h : ∀ a', Fr a' n ((d, undef) :: l) → wpList Tryz.prog ops Q rest a' w) (hw : Wanted o ops l = some false := by exact rfl) (hd : o.dst = some d := by exact rfl) (hn : Nat.ble (d + 1) n = true := by exact rfl) : wpList Tryz.prog ops Q (o :: rest) a w := sx_skip F hw hd hn h
theorem svK0 (F : Fr a n l) (h : wpList Tryz.prog ops Q rest a w) (hw : Wanted o ops l = some false := by exact rfl) (hd : o.dst = none := by exact rfl) : wpList Tryz.prog ops Q (o :: rest) a w := sx_skip0 F hw hd h
/-- An operation that acts by a contract: what is asked of it. -/
theorem svC (F : Fr a n l) (M : Mem w L) {d : Nat} (h : AC o l L n (fun v L' => ∀ a' w', Fr a' n ((d, v) :: l) → Mem w' L' → wpList Tryz.prog ops Q rest a' w')) (hw : Wanted o ops l = some true := by exact rfl) (hd : o.dst = some d := by exact rfl) (hn : Nat.ble (d + 1) n = true := by exact rfl) : wpList Tryz.prog ops Q (o :: rest) a w := sv_act F M hw hd hn h
theorem svC0 (F : Fr a n l) (M : Mem w L) (h : AC o l L n (fun v L' => ∀ w', Mem w' L' → wpList Tryz.prog ops Q rest a w')) (hw : Wanted o ops l = some true := by exact rfl) (hd : o.dst = none := by exact rfl) : wpList Tryz.prog ops Q (o :: rest) a w := sv_act0 F M hw hd h
/-- A call. -/
theorem acCall {f : Operand} {xs : Array Operand} {ats : Array TypeId} {k : FuncId} {caps : Array Value} {vs us : List Value} (hs : Spec k us L C) (ho : o.op = .call { callee := .value f, args := xs, argTypes := ats } := by exact rfl) (hf : evl l f = some (.func (.func k) #[] caps) := by exact rfl) (hfk : FK k := by exact inferInstance) (hx : evls l xs.toList = some vs := by exact rfl) (hu : vs ++ caps.toList = us := by exact rfl) : AC o l L n C := ac_call ho hf hfk hx hu hs
/-- What a slot that must be read again holds. -/
theorem rvsA {js : List Nat} (h : Rvs Tryz.prog ops n js l L := by (first | (focus ((repeat (first | exact rvs_nil | ((apply rvs_run); (exact rfl); (exact rfl); (exact rfl); (exact rfl); (exact rtA)) | ((apply rvs_skip); (exact rfl); (exact rfl); (exact rfl); (exact rfl)))); done)) | fail)) : Rvs Tryz.prog ops n js l L := h
section
variable {E Fl : List Nat} {S : List (Nat × List Nat)} {σ done : List Nat} {i : Nat}
theorem pv1 {d : Nat} {v : Value} (h : PW Tryz.prog ops n Q E Fl S σ (i :: done) ((d, v) :: l) L) (hi : ops[i]? = some o := by exact rfl) (hf : Fl.contains i = false := by exact rfl) (he : E.contains i = false := by exact rfl) (hw : Wanted o ops l = some true := by exact rfl) (hd : o.dst = some d := by exact rfl) (hr : RT o l L n v := by exact rtA) :
    PW Tryz.prog ops n Q E Fl S (i :: σ) done l L := pv_run hi hf he hw hd hr h
theorem pv2 {d : Nat} {fv : Nat → Value} {fL : Nat → List Asn} {js : List Nat} (h : ∀ b, PW Tryz.prog ops n Q E Fl S σ (i :: done) ((d, fv b) :: l) (fL b)) (hi : ops[i]? = some o := by exact rfl) (hf : Fl.contains i = false := by exact rfl) (he : E.contains i = true := by exact rfl) (hw : Wanted o ops l = some true := by exact rfl) (hd : o.dst = some d := by exact rfl) (hj : lookS S i = js := by exact rfl)
    (s : ∀ C : Value → List Asn → Prop, (∀ b, C (fv b) (fL b)) → AC o l L n C := by (intro C h; exact acA h)) (hr : ∀ b, Rvs Tryz.prog ops n js ((d, fv b) :: l) (fL b) := by (intro b; exact rvsA)) : PW Tryz.prog ops n Q E Fl S (i :: σ) done l L := pv_act hi hf he hw hd hj (s _ fun b => ⟨hr b, h b⟩)
theorem pv3 {v : Value} {L' : List Asn} {js : List Nat} (h : PW Tryz.prog ops n Q E Fl S σ (i :: done) l L') (hi : ops[i]? = some o := by exact rfl) (hf : Fl.contains i = false := by exact rfl) (he : E.contains i = true := by exact rfl) (hw : Wanted o ops l = some true := by exact rfl) (hd : o.dst = none := by exact rfl) (hj : lookS S i = js := by exact rfl)
    (s : ∀ C : Value → List Asn → Prop, C v L' → AC o l L n C := by (intro C h; exact acB h)) (hr : Rvs Tryz.prog ops n js l L' := by exact rvsA) : PW Tryz.prog ops n Q E Fl S (i :: σ) done l L := pv_act0 hi hf he hw hd hj (s _ ⟨hr, h⟩)
theorem pvC {d : Nat} {js : List Nat} (h : AC o l L n (fun v L' => Rvs Tryz.prog ops n js ((d, v) :: l) L' ∧ PW Tryz.prog ops n Q E Fl S σ (i :: done) ((d, v) :: l) L')) (hi : ops[i]? = some o := by exact rfl) (hf : Fl.contains i = false := by exact rfl) (he : E.contains i = true := by exact rfl) (hw : Wanted o ops l = some true := by exact rfl) (hd : o.dst = some d := by exact rfl) (hj : lookS S i = js := by exact rfl) :
    PW Tryz.prog ops n Q E Fl S (i :: σ) done l L := pv_act hi hf he hw hd hj h
theorem pvC0 {js : List Nat} (h : AC o l L n (fun v L' => Rvs Tryz.prog ops n js l L' ∧ PW Tryz.prog ops n Q E Fl S σ (i :: done) l L')) (hi : ops[i]? = some o := by exact rfl) (hf : Fl.contains i = false := by exact rfl) (he : E.contains i = true := by exact rfl) (hw : Wanted o ops l = some true := by exact rfl) (hd : o.dst = none := by exact rfl) (hj : lookS S i = js := by exact rfl) :
    PW Tryz.prog ops n Q E Fl S (i :: σ) done l L := pv_act0 hi hf he hw hd hj h
theorem pvF {t : TypeId} {cs : List Value} {d : Nat} (h : ∀ b, PW Tryz.prog ops n Q E Fl S σ (i :: done) ((d, .pointer (some ⟨b, 0, none⟩)) :: l) (pt b cs t :: L)) (hi : ops[i]? = some o := by exact rfl) (hf : Fl.contains i = true := by exact rfl) (ho : o.op = .alloc t := by exact rfl) (hz : ZT t cs := by exact inferInstance) (hd : o.dst = some d := by exact rfl) : PW Tryz.prog ops n Q E Fl S (i :: σ) done l L := pv_float hi hf ho hz hd h
theorem pvK {d : Nat} (h : PW Tryz.prog ops n Q E Fl S σ (i :: done) ((d, undef) :: l) L) (hi : ops[i]? = some o := by exact rfl) (hf : Fl.contains i = false := by exact rfl) (hw : Wanted o ops l = some false := by exact rfl) (hd : o.dst = some d := by exact rfl) : PW Tryz.prog ops n Q E Fl S (i :: σ) done l L := by
  cases he : E.contains i
  · exact pv_skip hi hf he hw hd h
  · exact pv_skipE hi hf he hw hd h
theorem pvK0 (h : PW Tryz.prog ops n Q E Fl S σ (i :: done) l L) (hi : ops[i]? = some o := by exact rfl) (hf : Fl.contains i = false := by exact rfl) (he : E.contains i = true := by exact rfl) (hw : Wanted o ops l = some false := by exact rfl) (hd : o.dst = none := by exact rfl) : PW Tryz.prog ops n Q E Fl S (i :: σ) done l L := pv_skipE0 hi hf he hw hd h
end
/-- The tests. -/
theorem svT {c : Operand} {x y : Code} (F : Fr a n l) (h : x.wp Tryz.prog Q a w) (hc : evl l c = some (.bool true) := by exact rfl) : (Code.cond c x y).wp Tryz.prog Q a w := sx_cond_t F hc h
theorem svF {c : Operand} {x y : Code} (F : Fr a n l) (h : y.wp Tryz.prog Q a w) (hc : evl l c = some (.bool false) := by exact rfl) : (Code.cond c x y).wp Tryz.prog Q a w := sx_cond_f F hc h
theorem tidyA {b : Bool} {p q : Prop} (hp : b = true → p := by (intro hc; first | ((try simp only [decide_eq_true_eq, decide_eq_false_iff_not, Bool.not_eq_true, Bool.not_eq_false, Bool.not_eq_true', Bool.not_eq_false', ne_eq, not_true_eq_false, not_false_eq_true, Decidable.not_not, Bool.and_eq_true, Bool.or_eq_true, Bool.and_eq_false_iff, Bool.or_eq_false_iff, beq_iff_eq, beq_eq_false_iff_ne, bne_iff_ne] at hc); exact hc) | exact hc)) (hq : b = false → q := by (intro hc; first | ((try simp only [decide_eq_true_eq, decide_eq_false_iff_not, Bool.not_eq_true, Bool.not_eq_false, Bool.not_eq_true', Bool.not_eq_false', ne_eq, not_true_eq_false, not_false_eq_true, Decidable.not_not, Bool.and_eq_true, Bool.or_eq_true, Bool.and_eq_false_iff, Bool.or_eq_false_iff, beq_iff_eq, beq_eq_false_iff_ne, bne_iff_ne] at hc); exact hc) | exact hc)) : (b = true → p) ∧ (b = false → q) := ⟨hp, hq⟩
theorem svB {c : Operand} {x y : Code} {b : Bool} {p q : Prop} (F : Fr a n l) (h1 : p → x.wp Tryz.prog Q a w) (h2 : q → y.wp Tryz.prog Q a w) (hc : evl l c = some (.bool b) := by exact rfl) (ht : (b = true → p) ∧ (b = false → q) := by exact tidyA) : (Code.cond c x y).wp Tryz.prog Q a w := sx_cond_b F hc (fun h => h1 (ht.1 h)) fun h => h2 (ht.2 h)
/-- Not this way. -/
theorem no {G p : Prop} (hc : p) (h : p → False := by (intro hc; first | exact hc | exact hc rfl | contradiction | omega | ((simp only [decide_eq_true_eq, decide_eq_false_iff_not, ne_eq, Decidable.not_not, Bool.not_eq_true', Bool.not_eq_false'] at hc); first | contradiction | exact hc rfl | omega) | (simp at hc; done) | fail)) : G := (h hc).elim
/-- The order of the parts; a loop's frame. -/
theorem pullA {L L' : List Asn} {A : Asn} (h : Pull L A L' := by (first | (focus ((repeat (first | exact Pull.here | apply Pull.there)); done)) | fail)) : Pull L A L' := h
theorem gsA {L : List Asn} {size m : Nat} {v : Value} {xs : List Value} (h : GS L size v m xs := by (first | (first | (focus ((repeat (first | assumption | apply GS.tail)); done)) | (apply gs_old; assumption; (focus ((repeat (first | exact Pull.here | apply Pull.there)); done))) | (apply gs_oldT; assumption; (focus ((repeat (first | exact Pull.here | apply Pull.there)); done))) | (apply gs_own; (focus ((repeat (first | exact Pull.here | apply Pull.there)); done))) | (apply gs_ro; (focus ((repeat (first | exact Pull.here | apply Pull.there)); done))) | exact GS.nil _ _) | fail)) : GS L size v m xs := h
theorem gvA {L : List Asn} {φ : World → Prop} (h : Gives L φ := by (first | (focus ((repeat (first | assumption | (exact Gives.app (by assumption)) | apply Gives.tail)); done)) | fail)) : Gives L φ := h
theorem permsA {L L' : List Asn} (h : Perms L L' := by (first | (focus ((repeat (first | exact Perms.rest | exact Perms.nil | (apply Perms.cons; (focus ((repeat (first | exact Pull.here | apply Pull.there)); done))) | apply Perms.skip)); done)) | fail)) : Perms L L' := h
theorem kpA {l l' : List (Nat × Value)} (h : ∀ p ∈ l', look l p.1 = some p.2 := by (first | (focus ((repeat (first | exact keep_nil | (apply keep_cons; (exact rfl)))); done)) | fail)) : ∀ p ∈ l', look l p.1 = some p.2 := h
theorem svEnd {fn : Func} {R : Ending → World → Prop} {rs : List ResultVar} {vs : List Value} {v : Value} (F : Fr a n l) (M : Mem w L) (hR : R (.returned v) w) (hf : fn.results = rs.toArray := by exact rfl) (hr : Ress L l rs vs := by (first | (focus ((repeat (first | exact Ress.nil | (apply Ress.cons) | (apply Res.tmp; exact rfl) | (apply Res.agg; (exact rfl); (exact inferInstance); ((focus ((repeat (first | exact Pull.here | apply Pull.there)); done))); (exact rfl)) | (apply Res.one; (exact rfl); (exact inferInstance); ((focus ((repeat (first | exact Pull.here | apply Pull.there)); done))); (exact rfl)))); done)) | fail)) (hv : tupOf vs = v := by exact rfl) : bodyPost Tryz.prog fn R .normal a w := sx_end F M hf hr hv hR
theorem svRet {fn : Func} {R : Ending → World → Prop} {rs : List ResultVar} {vs : List Value} {v : Value} (F : Fr a n l) (M : Mem w L) (hR : R (.returned v) w) (hf : fn.results = rs.toArray := by exact rfl) (hr : Ress L l rs vs := by (first | (focus ((repeat (first | exact Ress.nil | (apply Ress.cons) | (apply Res.tmp; exact rfl) | (apply Res.agg; (exact rfl); (exact inferInstance); ((focus ((repeat (first | exact Pull.here | apply Pull.there)); done))); (exact rfl)) | (apply Res.one; (exact rfl); (exact inferInstance); ((focus ((repeat (first | exact Pull.here | apply Pull.there)); done))); (exact rfl)))); done)) | fail)) (hv : tupOf vs = v := by exact rfl) : bodyPost Tryz.prog fn R .ret a w := sx_ret F M hf hr hv hR
theorem svDraw {id : Nat} (E Fl : List Nat) (S : List (Nat × List Nat)) (σ : List Nat) (F : Fr a n l) (M : Mem w L) (h : PW Tryz.prog ops n Q E Fl S σ [] l L) (hok : drawOK ops E Fl S σ n = true := by kernel_rfl) (hFl : FlOK Tryz.prog ops Fl := by (first | (focus ((repeat (first | exact flok_nil | (apply flok_cons; (exact rfl); (exact rfl); (exact inferInstance); (exact rfl); (exact rfl)))); done)) | fail)) : (Code.region id ops true).wp Tryz.prog Q a w := sv_draw E Fl S σ F M hok hFl h
theorem rt_neqT {α : Type} [DecidableEq α] {f : α → List Value} {t ty : TypeId} {x y : Operand} (ho : o.op = .binOp .neq t x y ty) {p q : α} (hx : evl l x = some (.agg (f p).toArray)) (hy : evl l y = some (.agg (f q).toArray)) {ks : List Sc} (he : EQ t ks) (hf : EQF f ks) : RT o l L n (.bool (decide (p ≠ q))) := by
  have := rt_neq (L := L) (n := n) ho hx hy he (hf.k p q)
  simpa using this
theorem rt_eqlT {α : Type} [DecidableEq α] {f : α → List Value} {t ty : TypeId} {x y : Operand} (ho : o.op = .binOp .eql t x y ty) {p q : α} (hx : evl l x = some (.agg (f p).toArray)) (hy : evl l y = some (.agg (f q).toArray)) {ks : List Sc} (he : EQ t ks) (hf : EQF f ks) : RT o l L n (.bool (decide (p = q))) := by
  have := rt_eql (L := L) (n := n) ho hx hy he (hf.k p q)
  simpa using this
/-- Of what is known of a frame, all but these slots. -/
def restO : List Nat → List (Nat × Value) → Option (List (Nat × Value))
  | _, [] => some []
  | ds, (s, v) :: r => match hasN ds s, restO ds r with
    | true, some r' => some r'
    | false, some r' => some ((s, v) :: r')
    | _, none => none
theorem restO_look : ∀ (l : List (Nat × Value)) (ds : List Nat) {l' : List (Nat × Value)}, restO ds l = some l' → ∀ t v, look l' t = some v → hasN ds t = false ∧ look l t = some v
  | [], ds, l', h, t, v, ht => by simp [restO] at h; subst h; simp [look] at ht
  | (s, u) :: r, ds, l', h, t, v, ht => by
    simp only [restO] at h
    cases hk : hasN ds s with
    | true =>
      rw [hk] at h
      cases hr : restO ds r with
      | none => rw [hr] at h; cases h
      | some r' =>
        rw [hr] at h
        obtain rfl := Option.some.inj h
        obtain ⟨h1, h2⟩ := restO_look r ds hr t v ht
        refine ⟨h1, ?_⟩
        have hst : s ≠ t := fun e => by rw [e, h1] at hk; cases hk
        simp only [look, nbeq hst]; exact h2
    | false =>
      rw [hk] at h
      cases hr : restO ds r with
      | none => rw [hr] at h; cases h
      | some r' =>
        rw [hr] at h
        obtain rfl := Option.some.inj h
        simp only [look] at ht ⊢
        by_cases hst : s = t
        · subst hst
          rw [show Nat.beq s s = true from Nat.beq_refl s] at ht ⊢
          exact ⟨hk, ht⟩
        · rw [nbeq hst] at ht ⊢
          exact restO_look r ds hr t v ht
def slotsL : List (Nat × Value) → List Nat
  | [] => []
  | (s, _) :: r => s :: slotsL r
theorem look_append : ∀ (l r : List (Nat × Value)) (t : Nat), look (l ++ r) t = (match look l t with | some v => some v | none => look r t)
  | [], r, t => rfl
  | (s, v) :: l, r, t => by
    simp only [List.cons_append, look]
    by_cases hst : s = t
    · subst hst
      rw [show Nat.beq s s = true from Nat.beq_refl s]; rfl
    · rw [nbeq hst]
      exact look_append l r t
/-- These parts taken out of memory; the others. -/
inductive Pulls : List Asn → List Asn → List Asn → Prop where
  | nil {L : List Asn} : Pulls L [] L
  | cons {L L1 R As : List Asn} {A : Asn} : Pull L A L1 → Pulls L1 As R → Pulls L (A :: As) R
theorem Mem.pulls {L As R : List Asn} {w : World} (h : Pulls L As R) (M : Mem w L) : Mem w (As ++ R) := by
  have key : ∀ {L As R : List Asn}, Pulls L As R → ∀ {s : List Nat} {w : World}, Sat L s w → ∃ s', Sat (As ++ R) s' w ∧ ∀ b ∈ s', b ∈ s := by
    intro L As R h
    induction h with
    | nil => exact fun hs => ⟨_, hs, fun _ h => h⟩
    | cons hp _ ih =>
      intro s w hs
      obtain ⟨s1, k1, k2⟩ := hs.pull hp
      cases k1 with
      | @cons _ _ sa ra _ m1 m2 m3 =>
        obtain ⟨s2, q1, q2⟩ := ih m2
        refine ⟨_, .cons m1 q1 fun b hb hm => m3 b hb (q2 b hm), fun b hb => ?_⟩
        rcases List.mem_append.1 hb with hb | hb
        · exact (k2 b).1 (by simp [hb])
        · exact (k2 b).1 (by simp [q2 b hb])
  obtain ⟨s, hs⟩ := M
  obtain ⟨s', h1, _⟩ := key h hs
  exact ⟨s', h1⟩
/-- A loop. dl, dL: what turns of the frame and of memory, by the ghost state; fg: slots that are forgotten; all else stays. -/
theorem svLoop {c : Code} {σ : Type} (F : Fr a n l) (M : Mem w L) (s0 : σ) (dl : σ → List (Nat × Value)) (dL : σ → List Asn) (Pf : σ → Prop) (μ : σ → Nat) (fg : List Nat) {st : List (Nat × Value)} {R : List Asn} (hP : Pf s0)
    (round : ∀ s, Pf s → ∀ a w, Fr a n (dl s ++ st) → Mem w (dL s ++ R) → c.wp Tryz.prog (Exit.then (fun a' w' => ∃ s', (Fr a' n (dl s' ++ st) ∧ Mem w' (dL s' ++ R) ∧ Pf s') ∧ μ s' < μ s) Q) a w)
    (hs : restO (fg ++ slotsL (dl s0)) l = some st := by exact rfl) (h0 : ∀ p ∈ dl s0, look l p.1 = some p.2 := by (first | (focus ((repeat (first | exact keep_nil | (apply keep_cons; (exact rfl)))); done)) | fail)) (hR : Pulls L (dL s0) R := by (first | (focus ((repeat (first | exact Pulls.nil | (apply Pulls.cons; (focus ((repeat (first | exact Pull.here | apply Pull.there)); done))))); done)) | fail)) : (Code.loop c).wp Tryz.prog Q a w :=
  wp_loop_ghost (fun s a w => Fr a n (dl s ++ st) ∧ Mem w (dL s ++ R) ∧ Pf s) μ (fun s a w ⟨h1, h2, h3⟩ => round s h3 a w h1 h2) s0 ⟨⟨F.ds, F.size, fun t v ht => by
    rw [look_append] at ht
    have F1 := F.keep h0
    cases hl : look (dl s0) t with
    | some u =>
      rw [hl] at ht
      obtain rfl := Option.some.inj ht
      exact F1.val t u hl
    | none =>
      rw [hl] at ht
      exact F.val t v (restO_look l _ hs t v ht).2⟩, Mem.pulls hR M, hP⟩
theorem own_sl {e : TypeId} {size : Nat} {v : Value} {m : Nat} {xs : List Value} {L' : List Asn} {w : World} (M : Mem w (own e size v m xs :: L')) : ∃ h, v = sl h := by
  obtain ⟨r, hs, _⟩ := M.head
  rcases hs.2 with ⟨rfl, _, _⟩ | ⟨g, cap, cur, rfl, _⟩
  · exact ⟨⟨none, 0, 0⟩, rfl⟩
  · exact ⟨⟨some ⟨g, 0, none⟩, m, cap⟩, rfl⟩
/-- Append of elements. -/
theorem ac_appendH {α : Type} {f : α → List Value} {x y : Operand} {t : TypeId} {ats : Array TypeId} (ho : o.op = .call { callee := .builtin .append, args := #[x, y], argTypes := ats }) (hat : ats = #[t, t]) {e : TypeId} {z : Value} {k bytes : Nat} (ht : ST t e z k bytes) {v : Value} (hx : evl l x = some v) {u : Value} (hy : evl l y = some u)
    {xs ys : List α} {L' : List Asn} (hp : Pull L (ownT e f k v xs) L') (he : EL f k) {m : Nat} {cs : List Value} (hg : GS L k u m cs) (hm : m = ys.length) (hcs : cs = ys.flatMap f) (hb : (xs.length + ys.length) * (bytes + 1) ≤ 140737488355328)
    (h : ∀ v', C (sl v') (ownT e f k (sl v') (xs ++ ys) :: L')) : AC o l L n C := fun G a w F M => by
  subst hat; subst hm; subst hcs
  have hb1 : (xs.length + ys.length) * bytes ≤ 140737488355328 := Nat.le_trans (Nat.mul_le_mul_left _ (Nat.le_succ _)) hb
  have hb2 : xs.length + ys.length ≤ 140737488355328 := Nat.le_trans (Nat.le_mul_of_pos_right _ (Nat.succ_pos _)) hb
  obtain ⟨v', w', hr, hM⟩ := append_run (ty := o.type) ht (M.pull (hp.app G)) (hg w M.drop_app) (flat_one ys) (by simp only [maxLen]; omega) hb1
  have : (execOp a.eval o).run Tryz.prog w = .ok (.value v') w' := by
    unfold execOp
    rw [ho]
    simp [resolve, invoke, builtin, F.eval hx, F.eval hy, hr]
  rw [this]
  obtain ⟨h', rfl⟩ := own_sl hM
  have := h h'
  rw [ownT, List.length_append, List.flatMap_append] at this
  exact ⟨_, this, hM⟩
end
end Go.Proofs.YtaggjikjohamjaaGreatDoor
end
section
namespace Go.Proofs.YtaggjikjohamjaaGreatDoor
open Go.RowKit
set_option linter.unusedVariables false
set_option maxRecDepth 100000
set_option maxHeartbeats 1000000
section
variable {o : Oper} {n : Nat} {l : List (Nat × Value)} {L : List Asn} {C : Value → List Asn → Prop}
theorem Mem.ok {A : Asn} {L : List Asn} {w : World} (M : Mem w (A :: L)) : ∃ s, Ok A s w := by
  obtain ⟨s, hs⟩ := M
  cases hs with
  | cons h1 _ _ => exact ⟨_, h1⟩
theorem flat_lenE {α : Type} {f : α → List Value} {k : Nat} (he : EL f k) : ∀ xs : List α, (xs.flatMap f).length = xs.length * k
  | [] => by simp
  | x :: r => by rw [List.flatMap_cons, List.length_append, he.len, flat_lenE he r, List.length_cons, Nat.succ_mul]; omega
end
end Go.Proofs.YtaggjikjohamjaaGreatDoor
end
section
namespace Go.Proofs.YtaggjikjohamjaaGreatDoor
instance : TT 9 := ⟨by kernel_rfl⟩
instance : TT 10 := ⟨by kernel_rfl⟩
instance : TT 11 := ⟨by kernel_rfl⟩
instance : PT 15 146 := ⟨by kernel_rfl, by kernel_rfl⟩
instance : PT 16 149 := ⟨by kernel_rfl, by kernel_rfl⟩
instance : PT 17 157 := ⟨by kernel_rfl, by kernel_rfl⟩
instance : PT 52 35 := ⟨by kernel_rfl, by kernel_rfl⟩
instance : PT 53 33 := ⟨by kernel_rfl, by kernel_rfl⟩
instance : PT 55 3 := ⟨by kernel_rfl, by kernel_rfl⟩
instance : PT 70 72 := ⟨by kernel_rfl, by kernel_rfl⟩
instance : PT 97 5 := ⟨by kernel_rfl, by kernel_rfl⟩
instance : PT 121 136 := ⟨by kernel_rfl, by kernel_rfl⟩
instance : PT 139 141 := ⟨by kernel_rfl, by kernel_rfl⟩
end Go.Proofs.YtaggjikjohamjaaGreatDoor
end
section
namespace Go.Proofs.YtaggjikjohamjaaGreatDoor
open Go.RowKit Go.WideShapes Go.ChangeShapes
/-- The shape of a type: numbers, bools, strings, slices (of elements of so many cells), and structs and arrays. -/
inductive Sh where
  | int (k : IntKind)
  | bool
  | str
  | slice (size : Nat) (e : Sh)
  | agg (fs : List Sh)
/-- The cells cs have the shape. -/
inductive HasSh (w : World) : Sh → List Value → Prop where
  | int (k : IntKind) (n : Int) : (Lit.int k n).wf = true → HasSh w (.int k) [.int k n]
  | bool (b : Bool) : HasSh w .bool [.bool b]
  | str (s : ByteArray) : s.size ≤ maxLen → HasSh w .str [.string s]
  | slice (size : Nat) (e : Sh) (a : Option Addr) (n cap : Nat) (xss : List (List Value)) : xss.length = n → (∀ x ∈ xss, x.length = size) → (∀ x ∈ xss, HasSh w e x) → n ≤ cap → cap ≤ maxLen →
      SlR w size (.slice a n cap) n xss.flatten → HasSh w (.slice size e) [.slice a n cap]
  | nil : HasSh w (.agg []) []
  | cons (s : Sh) (ss : List Sh) (c r : List Value) : HasSh w s c → HasSh w (.agg ss) r → HasSh w (.agg (s :: ss)) (c ++ r)
def shapeFields (P : Program) (g : TypeId → Option Sh) : Nat → List Field → Option (List Sh × Nat)
  | o, [] => some ([], o)
  | o, f :: r =>
    if f.offset = o then
      match g f.type, shapeFields P g (o + P.cellsOf f.type) r with
      | some s, some (ss, e) => some (s :: ss, e)
      | _, _ => none
    else none
def shapeOf (P : Program) : Nat → TypeId → Option Sh
  | 0, _ => none
  | d + 1, t =>
    match P.underlying t with
    | some .bool => some .bool
    | some (.int k) => some (.int k)
    | some .string => some .str
    | some (.slice e) => if P.cellsOf e = 0 then none else (shapeOf P d e).map (.slice (P.cellsOf e))
    | some (.struct fs) =>
      match shapeFields P (shapeOf P d) 0 fs.toList with
      | some (ss, e) => if e = P.cellsOf t then some (.agg ss) else none
      | none => none
    | some (.array n e) => if n * P.cellsOf e = P.cellsOf t then (shapeOf P d e).map fun s => .agg (List.replicate n s) else none
    | _ => none
theorem flatten_at {α : Type} {sz : Nat} : ∀ {L : List (List α)}, (∀ x ∈ L, x.length = sz) → ∀ {j : Nat} {u : α}, L.flatten[j]? = some u → ∃ i r x, j = i * sz + r ∧ r < sz ∧ L[i]? = some x ∧ x[r]? = some u
  | [], _, j, u, h => by simp at h
  | y :: L, hl, j, u, h => by
    have hy := hl y (by simp)
    rw [List.flatten_cons, List.getElem?_append] at h
    split at h
    · exact ⟨0, j, y, by omega, by omega, rfl, h⟩
    · rename_i hge
      obtain ⟨i, r, x, e1, e2, e3, e4⟩ := flatten_at (fun x hx => hl x (by simp [hx])) h
      refine ⟨i + 1, r, x, ?_, e2, by simpa using e3, e4⟩
      rw [Nat.add_mul]; omega
theorem flatten_len {α : Type} {sz : Nat} : ∀ {L : List (List α)}, (∀ x ∈ L, x.length = sz) → L.flatten.length = L.length * sz
  | [], _ => by simp
  | y :: L, hl => by
    rw [List.flatten_cons, List.length_append, flatten_len (fun x hx => hl x (by simp [hx])), hl y (by simp), List.length_cons, Nat.add_mul]; omega
section
variable {H : Type} {enc : TypeId × Value → H} {P : Program} {w : World}
theorem cells?_spec {a : Addr} {n : Nat} {cs : List Value} (h : w.cells? 0 a n = some cs) : cs.length = n ∧ ∀ r u, cs[r]? = some u → w.cell? (a.add r) = some u := by
  unfold World.cells? at h
  rw [if_pos (Nat.zero_le _)] at h
  have hl := mapM_some_length h
  refine ⟨by simpa using hl, fun r u hu => ?_⟩
  have hr : r < n := by
    have := (List.getElem?_eq_some_iff.1 hu).1
    rw [hl] at this; simpa using this
  rw [mapM_some_get h r r (by simp [hr])]
  exact hu
theorem hasSh_fields {d : Nat} (ih : ∀ t sh fuel cs x, shapeOf P d t = some sh → DataW.trod enc P w 0 (fun _ => true) true fuel t cs = some x → HasSh w sh cs) {fuel : Nat} {cs : List Value} :
    ∀ (fs : List Field) (o : Nat) (ss : List Sh), (∀ f ∈ fs, ∃ x, DataW.trod enc P w 0 (fun _ => true) true fuel f.type ((cs.drop f.offset).take (P.cellsOf f.type)) = some x) →
      shapeFields P (shapeOf P d) o fs = some (ss, cs.length) → HasSh w (.agg ss) (cs.drop o)
  | [], o, ss, _, h => by
    simp only [shapeFields, Option.some.injEq, Prod.mk.injEq] at h
    obtain ⟨rfl, rfl⟩ := h
    rw [List.drop_of_length_le (Nat.le_refl _)]
    exact .nil
  | f :: r, o, ss, hx, h => by
    simp only [shapeFields] at h
    split at h
    · rename_i ho
      split at h
      · rename_i s ss' e hs hss
        simp only [Option.some.injEq, Prod.mk.injEq] at h
        obtain ⟨rfl, rfl⟩ := h
        obtain ⟨x, hx0⟩ := hx f (by simp)
        have h1 := ih _ _ _ _ _ hs hx0
        have h2 := hasSh_fields ih r (o + P.cellsOf f.type) ss' (fun g hg => hx g (by simp [hg])) hss
        rw [ho] at h1
        have := HasSh.cons _ _ _ _ h1 h2
        rwa [← List.drop_drop, List.take_append_drop] at this
      · cases h
    · cases h
theorem hasSh_elems {d : Nat} {e : TypeId} {s : Sh} (ih : ∀ t sh fuel cs x, shapeOf P d t = some sh → DataW.trod enc P w 0 (fun _ => true) true fuel t cs = some x → HasSh w sh cs) (hs : shapeOf P d e = some s) {fuel n : Nat} {cs : List Value}
    (hx : ∀ i, i < n → ∃ x, DataW.trod enc P w 0 (fun _ => true) true fuel e ((cs.drop (i * P.cellsOf e)).take (P.cellsOf e)) = some x) (hl : cs.length = n * P.cellsOf e) :
    ∀ k, k ≤ n → HasSh w (.agg (List.replicate k s)) (cs.drop ((n - k) * P.cellsOf e))
  | 0, _ => by
    rw [List.drop_of_length_le (by rw [hl]; exact Nat.le_refl _)]
    exact .nil
  | k + 1, hk => by
    obtain ⟨x, hx0⟩ := hx (n - (k + 1)) (by omega)
    have h1 := ih _ _ _ _ _ hs hx0
    have h2 := hasSh_elems ih hs hx hl k (by omega)
    have := HasSh.cons _ _ _ _ h1 h2
    have e1 : (n - k) * P.cellsOf e = (n - (k + 1)) * P.cellsOf e + P.cellsOf e := by
      rw [← Nat.succ_mul]; congr 1; omega
    rw [e1, ← List.drop_drop, List.take_append_drop] at this
    exact this
theorem hasSh_of_trod : ∀ (d : Nat) (t : TypeId) (sh : Sh) (fuel : Nat) (cs : List Value) (x : DataW H × List MemPlace), shapeOf P d t = some sh →
    DataW.trod enc P w 0 (fun _ => true) true fuel t cs = some x → HasSh w sh cs
  | 0, _, _, _, _, _, h, _ => by simp [shapeOf] at h
  | d + 1, t, sh, fuel, cs, x, h, hx => by
    have ih := hasSh_of_trod d
    unfold shapeOf at h
    split at h
    · rename_i ht
      simp only [Option.some.injEq] at h; subst h
      obtain ⟨b, rfl, _⟩ := DataW.trod_bool ht hx
      exact .bool b
    · rename_i k ht
      simp only [Option.some.injEq] at h; subst h
      obtain ⟨n, rfl, _, hw⟩ := DataW.trod_int ht hx
      exact .int k n hw
    · rename_i ht
      simp only [Option.some.injEq] at h; subst h
      obtain ⟨s, rfl, _, hs⟩ := DataW.trod_string ht hx
      exact .str s hs
    · rename_i e ht
      split at h
      · cases h
      · rename_i hsz
        simp only [Option.map_eq_some_iff] at h
        obtain ⟨s, hs, rfl⟩ := h
        rcases DataW.trod_slice ht hx with ⟨rfl, _⟩ | ⟨a, len, cap, elems, rest, n, _, rfl, _, _, hl, hc, hel, hcells, _, _⟩
        · exact .slice _ _ _ _ _ [] rfl (by simp) (by simp) (Nat.le_refl _) (Nat.zero_le _) (SlR.nil _ _)
        · have hcs : ∀ i, i < len → ∃ ci x, w.cells? 0 (a.add (i * P.cellsOf e)) (P.cellsOf e) = some ci ∧ DataW.trod enc P w 0 (fun _ => true) true n e ci = some x := fun i hi => by
            have h1 := hcells i hi
            rw [List.getElem?_eq_getElem (by omega : i < elems.length)] at h1
            obtain ⟨ci, h2, h3⟩ := Option.bind_eq_some_iff.1 h1
            exact ⟨ci, _, h2, h3⟩
          let f : Nat → List Value := fun i => (w.cells? 0 (a.add (i * P.cellsOf e)) (P.cellsOf e)).getD []
          have hf : ∀ i, i < len → (w.cells? 0 (a.add (i * P.cellsOf e)) (P.cellsOf e)) = some (f i) := fun i hi => by
            obtain ⟨ci, _, h1, _⟩ := hcs i hi
            show _ = some ((w.cells? 0 (a.add (i * P.cellsOf e)) (P.cellsOf e)).getD [])
            rw [h1]; rfl
          have hlen : ∀ x ∈ (List.range len).map f, x.length = P.cellsOf e := fun x hx => by
            obtain ⟨i, hi, rfl⟩ := List.mem_map.1 hx
            exact (cells?_spec (hf i (by simpa using hi))).1
          refine .slice _ _ _ _ _ ((List.range len).map f) (by simp) hlen (fun x hx => ?_) hl hc ⟨by rw [flatten_len hlen]; simp, ?_⟩
          · obtain ⟨i, hi, rfl⟩ := List.mem_map.1 hx
            obtain ⟨ci, x, h1, h2⟩ := hcs i (by simpa using hi)
            have := (hf i (by simpa using hi)).symm.trans h1
            rw [Option.some.inj this]
            exact ih _ _ _ _ _ hs h2
          · by_cases h0 : len = 0
            · subst h0; exact .inl ⟨⟨_, _, rfl⟩, rfl⟩
            · have hspot : a.spot = none := by
                have h1 := cells?_spec (hf 0 (by omega))
                have h2 := h1.2 0 ((f 0)[0]'(by rw [h1.1]; omega)) (by rw [List.getElem?_eq_getElem])
                by_cases hsp : a.spot = none
                · exact hsp
                · exfalso
                  unfold World.cell? at h2
                  have : ((a.add (0 * P.cellsOf e)).add 0).spot.isSome = true := by
                    cases hs' : a.spot with
                    | none => exact absurd hs' hsp
                    | some v => unfold Addr.add; simp [hs']
                  split at h2
                  · rw [if_pos this] at h2; cases h2
                  · cases h2
              obtain ⟨b, off, sp⟩ := a
              simp only at hspot
              subst hspot
              have hadd : ∀ j, (⟨b, off, none⟩ : Addr).add j = ⟨b, off + j, none⟩ := fun j => by unfold Addr.add; split <;> simp_all
              have hadd' : ∀ o j, (⟨b, o, none⟩ : Addr).add j = ⟨b, o + j, none⟩ := fun o j => by unfold Addr.add; split <;> simp_all
              have hcell : ∀ j u, ((List.range len).map f).flatten[j]? = some u → w.cell? ⟨b, off + j, none⟩ = some u := fun j u hu => by
                obtain ⟨i, r, x, rfl, hr, hxi, hxr⟩ := flatten_at hlen hu
                have hi : i < len := by
                  have := (List.getElem?_eq_some_iff.1 hxi).1; simpa using this
                have hx' : x = f i := by
                  rw [List.getElem?_map, List.getElem?_range hi] at hxi
                  exact (Option.some.inj hxi).symm
                subst hx'
                have h3 := (cells?_spec (hf i hi)).2 r u hxr
                rw [hadd, hadd', Nat.add_assoc] at h3
                exact h3
              refine .inr ⟨b, off, cap, rfl, ?_, by omega, hcell⟩
              have h1 := cells?_spec (hf 0 (by omega))
              obtain ⟨u, hu⟩ : ∃ u, (f 0)[0]? = some u := ⟨_, List.getElem?_eq_getElem (by rw [h1.1]; omega)⟩
              have h2 := h1.2 0 u hu
              rw [hadd, hadd'] at h2
              exact World.block_lt_of_cell? w _ h2
    · rename_i fs ht
      split at h
      · rename_i ss e hss
        split at h
        · rename_i he
          simp only [Option.some.injEq] at h; subst h
          obtain ⟨xs, n, _, _, hl, hxl, hfs⟩ := DataW.trod_struct ht hx
          have := hasSh_fields (P := P) (enc := enc) ih (fuel := n) (cs := cs) fs.toList 0 ss (fun f hf => by
            obtain ⟨i, hi, rfl⟩ := List.getElem_of_mem hf
            have h1 := hfs i _ (by simpa using Array.getElem?_eq_getElem (by simpa using hi))
            rw [List.getElem?_eq_getElem (by rw [hxl]; simpa using hi)] at h1
            exact ⟨_, by simpa using h1⟩) (by rw [hss, hl, he])
          simpa using this
        · cases h
      · cases h
    · rename_i n e ht
      split at h
      · rename_i hn
        simp only [Option.map_eq_some_iff] at h
        obtain ⟨s, hs, rfl⟩ := h
        obtain ⟨xs, m, _, _, hl, hxl, hfs⟩ := DataW.trod_array ht hx
        have := hasSh_elems (P := P) (enc := enc) ih hs (fuel := m) (n := n) (cs := cs) (fun i hi => by
          have h1 := hfs i hi
          rw [List.getElem?_eq_getElem (by omega)] at h1
          exact ⟨_, h1⟩) (by rw [hl, hn]) n (Nat.le_refl _)
        simpa using this
      · cases h
    · cases h
end
end Go.Proofs.YtaggjikjohamjaaGreatDoor
end
section
namespace Go.Proofs.YtaggjikjohamjaaGreatDoor
open Go.RowKit
theorem shb_cons {w : World} {s : Sh} {ss : List Sh} {l : List Value} (h : HasSh w (.agg (s :: ss)) l) : ∃ c r, l = c ++ r ∧ HasSh w s c ∧ HasSh w (.agg ss) r := by
  cases h with
  | cons s ss c r h1 h2 => exact ⟨c, r, rfl, h1, h2⟩
theorem shb_nil {w : World} {l : List Value} (h : HasSh w (.agg []) l) : l = [] := by cases h; rfl
theorem shb_int {w : World} {k : IntKind} {l : List Value} (h : HasSh w (.int k) l) : ∃ n, l = [.int k n] ∧ (Lit.int k n).wf = true := by cases h with | int _ n hn => exact ⟨n, rfl, hn⟩
theorem i64_wf {n : Int} (h : (Lit.int .i64 n).wf = true) : -9223372036854775808 ≤ n ∧ n ≤ 9223372036854775807 := by
  simp [Lit.wf, IntKind.min, IntKind.max, IntKind.signed, IntKind.bits] at h
  omega
theorem u64_wf {n : Int} (h : (Lit.int .u64 n).wf = true) : 0 ≤ n ∧ n ≤ 18446744073709551615 := by
  simp [Lit.wf, IntKind.min, IntKind.max, IntKind.signed, IntKind.bits] at h
  omega
/-- The elements of a slice that can be read. -/
theorem slice_of_sh {α : Type} {f : α → List Value} {P : α → Prop} {w : World} {size : Nat} {e : Sh} (hd : ∀ cs, HasSh w e cs → ∃ x, cs = f x ∧ P x) {v : Value} (h : HasSh w (.slice size e) [v]) : ∃ xs : List α, SlT w f size v xs ∧ ∀ x ∈ xs, P x := by
  cases h with
  | slice size e sa n cap xss hl h1 h2 h3 h4 hr =>
    have key : ∀ (xss : List (List Value)), (∀ x ∈ xss, HasSh w e x) → ∃ xs : List α, xss.flatten = xs.flatMap f ∧ xss.length = xs.length ∧ ∀ x ∈ xs, P x := by
      intro xss
      induction xss with
      | nil => exact fun _ => ⟨[], rfl, rfl, by simp⟩
      | cons c r ih =>
        intro hx
        obtain ⟨xs, e1, e2, e3⟩ := ih fun x hx' => hx x (by simp [hx'])
        obtain ⟨m, rfl, hm⟩ := hd c (hx c (by simp))
        refine ⟨m :: xs, by simp [e1], by simp [e2], ?_⟩
        intro z hz
        rcases List.mem_cons.1 hz with rfl | hz
        · exact hm
        · exact e3 z hz
    obtain ⟨xs, e1, e2, e3⟩ := key xss h2
    refine ⟨xs, ?_, e3⟩
    unfold SlT
    rw [← e1, ← e2, hl]; exact hr
end Go.Proofs.YtaggjikjohamjaaGreatDoor
end
section
namespace Go.Proofs.YtaggjikjohamjaaGreatDoor
open Go.RowKit
set_option linter.unusedVariables false
set_option maxRecDepth 100000
set_option linter.unusedSimpArgs false
set_option maxHeartbeats 2000000
/-- An int, as a cell. -/
def intL (z : Int) : List Value := [.int .i64 z]
instance : EL intL 1 := ⟨fun _ => rfl, fun x u h => by simp [intL] at h; subst h; rfl⟩
abbrev ptr (b : Nat) : Value := .pointer (some ⟨b, 0, none⟩)
/-- A number of 64 bits, as a cell. -/
def u64L (z : Int) : List Value := [.int .u64 z]
instance : EL u64L 1 := ⟨fun _ => rfl, fun x u h => by simp [u64L] at h; subst h; rfl⟩
def U64 (z : Int) : Prop := 0 ≤ z ∧ z ≤ 18446744073709551615
theorem drop_cons {α : Type} {l : List α} {k : Nat} {x : α} (h : l[k]? = some x) : l.drop k = x :: l.drop (k + 1) := by
  obtain ⟨h1, h2⟩ := List.getElem?_eq_some_iff.1 h
  rw [List.drop_eq_getElem_cons h1, h2]
def I64 (m : Int) : Prop := -9223372036854775808 ≤ m ∧ m ≤ 9223372036854775807
end Go.Proofs.YtaggjikjohamjaaGreatDoor
end
section
namespace Go.Proofs.YtaggjikjohamjaaGreatDoor
open Go.RowKit
set_option linter.unusedVariables false
set_option maxRecDepth 100000
set_option linter.unusedSimpArgs false
set_option maxHeartbeats 2000000
structure Asg where
  ix : Int
  cl : Int
  ep : Int
deriving DecidableEq
def asgL (x : Asg) : List Value := [.int .i64 x.ix, .int .i64 x.cl, .int .i64 x.ep]
structure Pm where
  ix : Int
  am : Int
  fl : Bool
deriving DecidableEq
def pmL (x : Pm) : List Value := [.int .i64 x.ix, .int .u64 x.am, .bool x.fl]
instance : EL asgL 3 := ⟨fun _ => rfl, fun x u h => by simp [asgL] at h; rcases h with rfl | rfl | rfl <;> rfl⟩
instance : EL pmL 3 := ⟨fun _ => rfl, fun x u h => by simp [pmL] at h; rcases h with rfl | rfl | rfl <;> rfl⟩
instance : EQF asgL [.int, .int, .int] := ⟨fun x y => by
  obtain ⟨a, b, c⟩ := x; obtain ⟨d, e, f⟩ := y
  simp only [asgL, cellsEq, scEq, if_true, Bool.and_true, Asg.mk.injEq, Option.some.injEq]
  rw [Bool.eq_iff_iff]; simp⟩
instance : EQF pmL [.int, .int, .bool] := ⟨fun x y => by
  obtain ⟨a, b, c⟩ := x; obtain ⟨d, e, f⟩ := y
  simp only [pmL, cellsEq, scEq, if_true, Bool.and_true, Pm.mk.injEq, Option.some.injEq]
  rw [Bool.eq_iff_iff]; simp⟩
/-- A receipt. -/
structure Rc where
  k : Int
  c : Int
  ix : Int
  bk : Int
  ep : Int
  dl : Int
  vi : Int
  asg : List Asg
  pms : List Pm
deriving DecidableEq
def rcL (r : Rc) (s p : SlH) : List Value := [.int .i64 r.k, .int .i64 r.c, .int .i64 r.ix, .int .i64 r.bk, .int .i64 r.ep, .int .i64 r.dl, sl s, sl p, .int .i64 r.vi]
/-- What the slices of a receipt read as. -/
structure RcG (L : List Asn) (x : Rc) (s p : SlH) : Prop where
  a : GS L 3 (sl s) x.asg.length (x.asg.flatMap asgL)
  p : GS L 3 (sl p) x.pms.length (x.pms.flatMap pmL)
theorem RcG.imp {L K : List Asn} {x : Rc} {s p : SlH} (h : RcG L x s p) (hk : ∀ w, Mem w K → Mem w L) : RcG K x s p := ⟨h.a.imp hk, h.p.imp hk⟩
/-- An operation. -/
structure Opn where
  k : Int
  ix : Int
  tg : Int
  am : Int
deriving DecidableEq
def opL (o : Opn) : List Value := [.int .i64 o.k, .int .i64 o.ix, .int .i64 o.tg, .int .u64 o.am]
instance : EL opL 4 := ⟨fun _ => rfl, fun x u h => by simp [opL] at h; rcases h with rfl | rfl | rfl | rfl <;> rfl⟩
abbrev nilH : SlH := ⟨none, 0, 0⟩
theorem RcG.nil {L : List Asn} {k c ix bk ep dl vi : Int} : RcG L ⟨k, c, ix, bk, ep, dl, vi, [], []⟩ nilH nilH := ⟨GS.nil _ _, GS.nil _ _⟩
structure Rc.wf (x : Rc) : Prop where
  k : I64 x.k
  c : I64 x.c
  ix : I64 x.ix
  bk : I64 x.bk
  ep : I64 x.ep
  dl : I64 x.dl
  vi : I64 x.vi
  asg : ∀ y ∈ x.asg, I64 y.ix ∧ I64 y.cl ∧ I64 y.ep
  pms : ∀ y ∈ x.pms, I64 y.ix ∧ U64 y.am
/-- A receipt in a slice: with its slices' words. -/
structure RcS where
  r : Rc
  s : SlH
  p : SlH
def rsL (x : RcS) : List Value := rcL x.r x.s x.p
instance : EL rsL 9 := ⟨fun _ => rfl, fun x u h => by simp [rsL, rcL] at h; rcases h with rfl | rfl | rfl | rfl | rfl | rfl | rfl | rfl | rfl <;> rfl⟩
theorem op_of_sh {w : World} {l : List Value} (h : HasSh w (.agg [.int .i64, .int .i64, .int .i64, .int .u64]) l) : ∃ x : Opn, l = opL x ∧ (I64 x.k ∧ I64 x.ix ∧ I64 x.tg ∧ U64 x.am) := by
  obtain ⟨c1, r1, rfl, h1, h⟩ := shb_cons h
  obtain ⟨c2, r2, rfl, h2, h⟩ := shb_cons h
  obtain ⟨c3, r3, rfl, h3, h⟩ := shb_cons h
  obtain ⟨c4, r4, rfl, h4, h⟩ := shb_cons h
  have := shb_nil h; subst this
  obtain ⟨a, rfl, ha⟩ := shb_int h1
  obtain ⟨b, rfl, hb⟩ := shb_int h2
  obtain ⟨c, rfl, hc⟩ := shb_int h3
  obtain ⟨d, rfl, hd⟩ := shb_int h4
  exact ⟨⟨a, b, c, d⟩, rfl, i64_wf ha, i64_wf hb, i64_wf hc, u64_wf hd⟩
end Go.Proofs.YtaggjikjohamjaaGreatDoor
end
section
namespace Go.Proofs.YtaggjikjohamjaaGreatDoor
open Go.RowKit
set_option linter.unusedVariables false
set_option maxRecDepth 100000
set_option linter.unusedSimpArgs false
/-- A byte, as a cell. -/
def u8L (b : UInt8) : List Value := [.int .u8 (b.toNat : Int)]
instance : EL u8L 1 := ⟨fun _ => rfl, fun x u h => by simp [u8L] at h; subst h; rfl⟩
/-- A string, as a cell. -/
def strL (s : List UInt8) : List Value := [str s]
instance : EL strL 1 := ⟨fun _ => rfl, fun x u h => by simp [strL] at h; subst h; rfl⟩
/-- deposit, exit, eject, slash, consolidate, partial, tick -/
def names7 : List (List UInt8) := [[100, 101, 112, 111, 115, 105, 116], [101, 120, 105, 116], [101, 106, 101, 99, 116], [115, 108, 97, 115, 104], [99, 111, 110, 115, 111, 108, 105, 100, 97, 116, 101], [112, 97, 114, 116, 105, 97, 108], [116, 105, 99, 107]]
def nameOf (k : Int) : List UInt8 := if k < 1 ∨ 7 < k then [] else (names7[(k - 1).toNat]?).getD []
theorem names7_at {k : Int} (h1 : 1 ≤ k) (h2 : k ≤ 7) : names7[(k - 1).toNat]? = some (nameOf k) ∧ (nameOf k).length ≤ 11 ∧ nameOf k ≠ [] := by
  obtain ⟨m, rfl⟩ : ∃ m : Nat, k = m + 1 := ⟨(k - 1).toNat, by omega⟩
  rcases m with _ | _ | _ | _ | _ | _ | _ | m
  all_goals first | (refine ⟨by decide, by decide, by decide⟩) | omega
end Go.Proofs.YtaggjikjohamjaaGreatDoor
end
section
namespace Go.Proofs.YtaggjikjohamjaaGreatDoor
set_option linter.unusedVariables false
set_option linter.unusedSimpArgs false
def pGo (acc : Nat) : List UInt8 → Option Nat
  | [] => some acc
  | c :: r => if 48 ≤ c.toNat ∧ c.toNat ≤ 57 then (if (18446744073709551615 - (c.toNat - 48)) / 10 < acc then none else pGo (10 * acc + (c.toNat - 48)) r) else none
def pU (s : List UInt8) : Option Nat := if s = [] ∨ (2 ≤ s.length ∧ s.head? = some 48) then none else pGo 0 s
def okOf {α : Type} : Lib.NumEnd α → Option α
  | .ok v => some v
  | _ => none
theorem pGo_eq : ∀ (l : List UInt8) (acc : Nat), pGo acc l = okOf (Lib.parseUint10 acc l)
  | [], acc => rfl
  | c :: r, acc => by
    simp only [pGo, Lib.parseUint10]
    split
    · rename_i h
      by_cases h1 : (18446744073709551615 - (c.toNat - 48)) / 10 < acc
      · rw [if_pos h1]
        split
        · rfl
        · rw [if_pos (by omega)]; rfl
      · rw [if_neg h1, if_neg (by omega), if_neg (by omega), pGo_eq r, Nat.mul_comm]
    · rfl
theorem decDigits_snoc {a d : Nat} (h : 1 ≤ a) (hd : d < 10) : Lib.decDigits (a * 10 + d) = Lib.decDigits a ++ [UInt8.ofNat (48 + d)] := by
  conv => lhs; rw [Lib.decDigits]
  rw [dif_neg (by omega), show (a * 10 + d) / 10 = a by omega, show (a * 10 + d) % 10 = d by omega]
theorem u8_of {c : UInt8} (h : 48 ≤ c.toNat ∧ c.toNat ≤ 57) : UInt8.ofNat (48 + (c.toNat - 48)) = c := by
  rw [show 48 + (c.toNat - 48) = c.toNat by omega]; simp
theorem parse_dec : ∀ (l : List UInt8) (acc u : Nat), 1 ≤ acc → Lib.parseUint10 acc l = .ok u → Lib.decDigits u = Lib.decDigits acc ++ l
  | [], acc, u, _, h => by
    simp only [Lib.parseUint10] at h
    injection h with h
    simp [h]
  | c :: r, acc, u, ha, h => by
    simp only [Lib.parseUint10] at h
    split at h
    · rename_i hc
      split at h
      · cases h
      · split at h
        · cases h
        · rw [parse_dec r _ u (by omega) h, decDigits_snoc ha (by omega), u8_of hc]; simp
    · cases h
/-- No numeral of two digits or more begins with 0. -/
theorem dec_head (u : Nat) : 2 ≤ (Lib.decDigits u).length → (Lib.decDigits u).head? ≠ some 48 := by
  induction u using Nat.strongRecOn with
  | _ u ih =>
    intro h
    have key : ∀ d, d < 10 → 1 ≤ d → UInt8.ofNat (48 + d) ≠ 48 := by decide
    rw [Lib.decDigits] at h ⊢
    split at h
    · simp at h
    · rename_i hu
      rw [dif_neg hu]
      have ih := ih (u / 10) (by omega)
      by_cases h10 : u / 10 < 10
      · rw [Lib.decDigits, dif_pos h10]
        intro hh
        exact key _ h10 (by omega) (Option.some.inj hh)
      · have h2 : 2 ≤ (Lib.decDigits (u / 10)).length := by
          rw [Lib.decDigits, dif_neg h10]
          have : 1 ≤ (Lib.decDigits (u / 10 / 10)).length := by
            rw [Lib.decDigits]; split <;> simp
          simp; omega
        have := ih h2
        cases hd : Lib.decDigits (u / 10) with
        | nil => rw [hd] at h2; simp at h2
        | cons c r => rw [hd] at this; simpa using this
/-- What the program's Parse finds. -/
theorem pU_parse (s : List UInt8) : pU s = (match Lib.parseUintB 64 s with | .ok u => if Lib.decDigits u = s then some u else none | _ => none) := by
  rw [Lib.parseUintB_64]
  unfold pU Lib.parseMag
  cases s with
  | nil => simp
  | cons c r =>
    simp only [List.cons_ne_nil, false_or, if_false, List.head?_cons]
    by_cases h0 : 2 ≤ (c :: r).length ∧ some c = some (48 : UInt8)
    · rw [if_pos h0]
      split
      · rename_i u hu
        rw [if_neg]
        intro he
        have := dec_head u (by rw [he]; exact h0.1)
        rw [he] at this
        exact this h0.2
      · rfl
    · rw [if_neg h0, pGo_eq]
      by_cases hc : 48 ≤ c.toNat ∧ c.toNat ≤ 57
      · by_cases hz : c = 48
        · subst hz
          have : r = [] := by
            cases r with
            | nil => rfl
            | cons d r => exact absurd ⟨by simp, rfl⟩ h0
          subst this
          have e : Lib.parseUint10 0 [48] = .ok 0 := by rfl
          have e2 : Lib.decDigits 0 = [48] := by rw [Lib.decDigits, dif_pos (by omega)]; rfl
          rw [e]
          simp [okOf, e2]
        · have h1 : 1 ≤ c.toNat - 48 := by
            rcases Nat.eq_or_lt_of_le hc.1 with h | h
            · exfalso; apply hz
              have := u8_of hc
              rw [← h] at this; exact this.symm
            · omega
          have e : Lib.parseUint10 0 (c :: r) = Lib.parseUint10 (c.toNat - 48) r := by
            simp only [Lib.parseUint10]
            rw [if_pos hc, if_neg (by omega), if_neg (by omega)]
            simp
          rw [e]
          cases h : Lib.parseUint10 (c.toNat - 48) r with
          | ok u =>
            have := parse_dec r _ u h1 h
            rw [show Lib.decDigits (c.toNat - 48) = [c] from by rw [Lib.decDigits, dif_pos (by omega), u8_of hc]] at this
            simp [okOf, this]
          | _ => rfl
      · simp only [Lib.parseUint10]
        rw [if_neg hc]; rfl
theorem pU_lt {s : List UInt8} {u : Nat} (h : pU s = some u) : u < 18446744073709551616 ∧ Lib.decDigits u = s := by
  rw [pU_parse] at h
  split at h
  · rename_i v hv
    split at h
    · rename_i he
      injection h with h
      subst h
      have := Lib.parseUintB_le hv
      exact ⟨by omega, he⟩
    · cases h
  · cases h
end Go.Proofs.YtaggjikjohamjaaGreatDoor
end
section
namespace Go.Proofs.YtaggjikjohamjaaGreatDoor
set_option linter.unusedVariables false
set_option linter.unusedSimpArgs false
/-! ### Kinds and operands -/
inductive Od where
  | i | t | a
deriving DecidableEq
def Od.size : Od → Nat
  | .i => 2
  | .t => 2
  | .a => 8
/-- The operands of a kind. -/
def odsOf (k : Int) : Option (List Od) := if k = 1 then some [.a] else if k = 2 ∨ k = 3 ∨ k = 4 then some [.i] else if k = 5 then some [.i, .t] else if k = 6 then some [.i, .a] else if k = 7 then some [] else none
theorem ods_cases {k : Int} {ds : List Od} (h : odsOf k = some ds) : (k = 1 ∧ ds = [.a]) ∨ (k = 2 ∧ ds = [.i]) ∨ (k = 3 ∧ ds = [.i]) ∨ (k = 4 ∧ ds = [.i]) ∨ (k = 5 ∧ ds = [.i, .t]) ∨ (k = 6 ∧ ds = [.i, .a]) ∨ (k = 7 ∧ ds = []) := by
  unfold odsOf at h
  repeat' split at h
  all_goals simp at h
  all_goals subst h
  all_goals simp_all
  all_goals omega
def Od.get (o : Opn) : Od → Int
  | .i => o.ix
  | .t => o.tg
  | .a => o.am
def Od.set (o : Opn) (x : Int) : Od → Opn
  | .i => { o with ix := x }
  | .t => { o with tg := x }
  | .a => { o with am := x }
def oz (k : Int) : Opn := ⟨k, 0, 0, 0⟩
def szL : List Od → Nat
  | [] => 0
  | d :: ds => d.size + szL ds
def szK (k : Int) : Nat := match odsOf k with
  | none => 0
  | some ds => 1 + szL ds
/-! ### Bytes -/
def bigL (x : Nat) : Nat → List UInt8
  | 0 => []
  | n + 1 => UInt8.ofNat (x / 256 ^ n % 256) :: bigL x n
theorem bigL_len (x : Nat) : ∀ n, (bigL x n).length = n
  | 0 => rfl
  | n + 1 => by simp [bigL, bigL_len x n]
def valB (acc : Nat) : List UInt8 → Nat
  | [] => acc
  | c :: r => valB (256 * acc + c.toNat) r
theorem valB_big (x : Nat) : ∀ (n acc : Nat), valB acc (bigL x n) = 256 ^ n * acc + x % 256 ^ n
  | 0, acc => by simp [bigL, valB, Nat.mod_one]
  | n + 1, acc => by
    rw [bigL, valB, valB_big x n]
    have h1 : (UInt8.ofNat (x / 256 ^ n % 256)).toNat = x / 256 ^ n % 256 := by
      have h0 : x / 256 ^ n % 256 < 256 := Nat.mod_lt _ (by decide)
      generalize x / 256 ^ n % 256 = q at *
      rw [UInt8.toNat_ofNat']; exact Nat.mod_eq_of_lt h0
    rw [h1, Nat.mod_pow_succ, Nat.pow_succ, Nat.mul_add, Nat.mul_assoc]
    omega
theorem valB_lt : ∀ (l : List UInt8) (acc : Nat), valB acc l < 256 ^ l.length * (acc + 1)
  | [], acc => by simp [valB]
  | c :: r, acc => by
    have := valB_lt r (256 * acc + c.toNat)
    have hc : c.toNat < 256 := c.toNat_lt
    rw [valB, List.length_cons, Nat.pow_succ, Nat.mul_assoc]
    exact Nat.lt_of_lt_of_le this (Nat.mul_le_mul_left _ (by omega))
/-- The bytes of a number, whose sign is cut off. -/
def u64of (x : Int) : Nat := (x % 18446744073709551616).toNat
def wrB (o : Opn) (d : Od) : List UInt8 := bigL (u64of (d.get o)) d.size
def wrL (o : Opn) (ds : List Od) : List UInt8 := UInt8.ofNat (u64of o.k % 256) :: ds.flatMap (wrB o)
def rdL : List Od → Opn → List UInt8 → Opn
  | [], o, _ => o
  | d :: ds, o, b => rdL ds (d.set o (valB 0 (b.take d.size))) (b.drop d.size)
/-- The operation at a place of bytes, and the place behind it. -/
def decM (b : List UInt8) (j : Nat) : Opn × Nat := match odsOf ((b[j]?).getD 0).toNat with
  | none => (oz 0, j + 1)
  | some ds => if b.length - j < 1 + szL ds then (oz 0, b.length) else (rdL ds (oz ((b[j]?).getD 0).toNat) (b.drop (j + 1)), j + (1 + szL ds))
theorem decM_lt {b : List UInt8} {j : Nat} (h : j < b.length) : j < (decM b j).2 ∧ (decM b j).2 ≤ b.length := by
  unfold decM
  split
  · exact ⟨by simp only; omega, by simp only; omega⟩
  · split
    · exact ⟨by simp only; omega, by simp only; omega⟩
    · exact ⟨by simp only; omega, by simp only; omega⟩
def decAll (b : List UInt8) (j : Nat) : List Opn := if h : j < b.length then (decM b j).1 :: decAll b (decM b j).2 else []
termination_by b.length - j
decreasing_by have := decM_lt h; omega
theorem decAll_step {b : List UInt8} {j : Nat} (h : j < b.length) : decAll b j = (decM b j).1 :: decAll b (decM b j).2 := by
  rw [decAll, dif_pos h]
theorem decAll_end {b : List UInt8} {j : Nat} (h : b.length ≤ j) : decAll b j = [] := by
  rw [decAll, dif_neg (by omega)]
/-- What an operation that is well formed holds. -/
structure OpOk (o : Opn) (ds : List Od) : Prop where
  k : odsOf o.k = some ds
  i : if .i ∈ ds then 0 ≤ o.ix ∧ o.ix ≤ 65535 else o.ix = 0
  t : if .t ∈ ds then 0 ≤ o.tg ∧ o.tg ≤ 65535 else o.tg = 0
  a : .a ∉ ds → o.am = 0
def okM (o : Opn) : Bool := match odsOf o.k with
  | none => false
  | some ds => decide (if .i ∈ ds then 0 ≤ o.ix ∧ o.ix ≤ 65535 else o.ix = 0) && decide (if .t ∈ ds then 0 ≤ o.tg ∧ o.tg ≤ 65535 else o.tg = 0) && decide (.a ∉ ds → o.am = 0)
theorem okM_iff {o : Opn} {ds : List Od} (h : odsOf o.k = some ds) : okM o = true ↔ OpOk o ds := by
  unfold okM
  rw [h]
  simp only [Bool.and_eq_true, decide_eq_true_eq]
  exact ⟨fun ⟨⟨h1, h2⟩, h3⟩ => ⟨h, h1, h2, h3⟩, fun ⟨_, h1, h2, h3⟩ => ⟨⟨h1, h2⟩, h3⟩⟩
theorem okM_true {o : Opn} (h : okM o = true) : ∃ ds, OpOk o ds := by
  cases hd : odsOf o.k with
  | none => rw [okM, hd] at h; cases h
  | some ds => exact ⟨ds, (okM_iff hd).1 h⟩
theorem big_val (x : Int) (h : 0 ≤ x ∧ x < 18446744073709551616) (n : Nat) (hn : x < 256 ^ n) : ((valB 0 (bigL (u64of x) n) : Nat) : Int) = x := by
  rw [valB_big]
  have e : u64of x = x.toNat := by unfold u64of; rw [Int.emod_eq_of_lt h.1 h.2]
  rw [e, Nat.mod_eq_of_lt, Nat.mul_zero, Nat.zero_add]
  · omega
  · have : ((256 ^ n : Nat) : Int) = 256 ^ n := by simp
    omega
theorem wr_take (o : Opn) (d : Od) (r : List UInt8) : (wrB o d ++ r).take d.size = wrB o d ∧ (wrB o d ++ r).drop d.size = r := by
  have : (wrB o d).length = d.size := bigL_len _ _
  rw [← this]
  exact ⟨List.take_left, List.drop_left⟩
theorem rd_wr : ∀ (ds : List Od) (o p : Opn) (r : List UInt8), rdL ds p (ds.flatMap (wrB o) ++ r) = ds.foldl (fun p d => d.set p (valB 0 (wrB o d) : Nat)) p
  | [], o, p, r => rfl
  | d :: ds, o, p, r => by
    rw [rdL, List.flatMap_cons, List.append_assoc, (wr_take o d _).1, (wr_take o d _).2, rd_wr ds, List.foldl_cons]
theorem kind_byte {k : Int} {ds : List Od} (h : odsOf k = some ds) : ((UInt8.ofNat (u64of k % 256)).toNat : Int) = k := by
  rcases ods_cases h with ⟨rfl, _⟩ | ⟨rfl, _⟩ | ⟨rfl, _⟩ | ⟨rfl, _⟩ | ⟨rfl, _⟩ | ⟨rfl, _⟩ | ⟨rfl, _⟩ <;> decide
theorem wrL_len (o : Opn) (ds : List Od) : (wrL o ds).length = 1 + szL ds := by
  have : ∀ ds : List Od, (ds.flatMap (wrB o)).length = szL ds := fun ds => by
    induction ds with
    | nil => rfl
    | cons d ds ih => rw [List.flatMap_cons, List.length_append, ih, szL]; rw [show (wrB o d).length = d.size from bigL_len _ _]
  rw [wrL, List.length_cons, this]; omega
/-- The bytes of an operation, amid others, read as what they were written from. -/
theorem dec_wr (pre r : List UInt8) (o : Opn) (ds : List Od) (h : odsOf o.k = some ds) : decM (pre ++ (wrL o ds ++ r)) pre.length = (ds.foldl (fun p d => d.set p (valB 0 (wrB o d) : Nat)) (oz o.k), pre.length + (1 + szL ds)) := by
  have e0 : (((pre ++ (wrL o ds ++ r))[pre.length]?).getD 0).toNat = (UInt8.ofNat (u64of o.k % 256)).toNat := by
    rw [List.getElem?_append_right (Nat.le_refl _)]; simp [wrL]
  have hk := kind_byte h
  have hl := wrL_len o ds
  unfold decM
  rw [e0, hk, h]
  simp only
  rw [if_neg (by rw [List.length_append, List.length_append, hl]; omega)]
  have ed : (pre ++ (wrL o ds ++ r)).drop (pre.length + 1) = ds.flatMap (wrB o) ++ r := by
    rw [← List.drop_drop]
    rw [show List.drop pre.length (pre ++ (wrL o ds ++ r)) = wrL o ds ++ r from List.drop_left]
    rfl
  rw [show List.drop (pre.length + 1) (pre ++ (wrL o ds ++ r)) = ds.flatMap (wrB o) ++ r from ed, rd_wr]
/-- Valid: what is read back is the operation. -/
theorem valid_iff (o : Opn) (hi : -9223372036854775808 ≤ o.ix ∧ o.ix ≤ 9223372036854775807) (ht : -9223372036854775808 ≤ o.tg ∧ o.tg ≤ 9223372036854775807) (ha : 0 ≤ o.am ∧ o.am ≤ 18446744073709551615) (ds : List Od) (h : odsOf o.k = some ds) : decide ((decM (wrL o ds) 0).1 = o) = okM o := by
  have := dec_wr [] [] o ds h
  simp only [List.nil_append, List.append_nil, List.length_nil, Nat.zero_add] at this
  rw [this, Bool.eq_iff_iff, okM_iff h, decide_eq_true_eq]
  have e2 : ∀ x : Int, -9223372036854775808 ≤ x ∧ x ≤ 9223372036854775807 → ((valB 0 (bigL (u64of x) 2) : Nat) : Int) = x % 65536 := fun x hx => by
    rw [valB_big]; unfold u64of; simp only [Nat.mul_zero, Nat.zero_add]; omega
  have e8 : ((valB 0 (bigL (u64of o.am) 8) : Nat) : Int) = o.am := big_val _ (by omega) 8 (by omega)
  have k2 := e2 o.ix hi; have k3 := e2 o.tg ht
  obtain ⟨k, ix, tg, am⟩ := o
  simp only at hi ht ha h k2 k3 e8
  have key : OpOk ⟨k, ix, tg, am⟩ ds ↔ (if .i ∈ ds then 0 ≤ ix ∧ ix ≤ 65535 else ix = 0) ∧ (if .t ∈ ds then 0 ≤ tg ∧ tg ≤ 65535 else tg = 0) ∧ (.a ∉ ds → am = 0) := ⟨fun ⟨_, h1, h2, h3⟩ => ⟨h1, h2, h3⟩, fun ⟨h1, h2, h3⟩ => ⟨h, h1, h2, h3⟩⟩
  rw [key]
  rcases ods_cases h with ⟨rfl, rfl⟩ | ⟨rfl, rfl⟩ | ⟨rfl, rfl⟩ | ⟨rfl, rfl⟩ | ⟨rfl, rfl⟩ | ⟨rfl, rfl⟩ | ⟨rfl, rfl⟩
  all_goals simp [Od.set, Od.get, wrB, Od.size, oz, k2, k3, e8]
  all_goals omega
theorem valid_dec (pre r : List UInt8) (o : Opn) (hi : -9223372036854775808 ≤ o.ix ∧ o.ix ≤ 9223372036854775807) (ht : -9223372036854775808 ≤ o.tg ∧ o.tg ≤ 9223372036854775807) (ha : 0 ≤ o.am ∧ o.am ≤ 18446744073709551615) (ds : List Od) (h : OpOk o ds) : decM (pre ++ (wrL o ds ++ r)) pre.length = (o, pre.length + (1 + szL ds)) := by
  have h1 := (valid_iff o hi ht ha ds h.k).trans ((okM_iff h.k).2 h)
  have h0 := dec_wr [] [] o ds h.k
  simp only [List.nil_append, List.append_nil, List.length_nil, Nat.zero_add] at h0
  rw [h0, decide_eq_true_eq] at h1
  simp only at h1
  rw [dec_wr _ _ _ _ h.k, h1]
/-! ### Scripts as bytes -/
def encM (o : Opn) : List UInt8 := match odsOf o.k with
  | none => []
  | some ds => wrL o ds
def encAll (l : List Opn) : List UInt8 := l.flatMap encM
def OpR (o : Opn) : Prop := (-9223372036854775808 ≤ o.ix ∧ o.ix ≤ 9223372036854775807) ∧ (-9223372036854775808 ≤ o.tg ∧ o.tg ≤ 9223372036854775807) ∧ (0 ≤ o.am ∧ o.am ≤ 18446744073709551615)
theorem dec_enc : ∀ (l : List Opn) (pre : List UInt8), (∀ o ∈ l, OpR o) → (∀ o ∈ l, okM o = true) → decAll (pre ++ encAll l) pre.length = l
  | [], pre, _, _ => by rw [decAll_end]; simp [encAll]
  | o :: l, pre, hr, hk => by
    obtain ⟨ds, hd⟩ := okM_true (hk o (by simp))
    obtain ⟨r1, r2, r3⟩ := hr o (by simp)
    have e : encAll (o :: l) = wrL o ds ++ encAll l := by rw [encAll, List.flatMap_cons, encM, hd.k]; rfl
    rw [e]
    have hv := valid_dec pre (encAll l) o r1 r2 r3 ds hd
    have hl := wrL_len o ds
    rw [decAll_step (by rw [List.length_append, List.length_append]; omega), hv]
    simp only
    have ih := dec_enc l (pre ++ wrL o ds) (fun o h => hr o (by simp [h])) (fun o h => hk o (by simp [h]))
    rw [List.append_assoc, List.length_append, hl] at ih
    rw [ih]
def cntK (l : List Opn) (k : Int) : Nat := (l.filter fun o => decide (o.k = k)).length
/-! ### Lines -/
def splitB (c : UInt8) : List UInt8 → List (List UInt8)
  | [] => [[]]
  | x :: r => if x = c then [] :: splitB c r else match splitB c r with
    | [] => [[x]]
    | h :: t => (x :: h) :: t
theorem splitB_ne (c : UInt8) : ∀ s, ∃ h t, splitB c s = h :: t
  | [] => ⟨_, _, rfl⟩
  | x :: r => by
    obtain ⟨h, t, e⟩ := splitB_ne c r
    rw [splitB]
    split
    · exact ⟨_, _, rfl⟩
    · rw [e]; exact ⟨_, _, rfl⟩
theorem splitB_len (c : UInt8) : ∀ s, (splitB c s).length = s.count c + 1
  | [] => rfl
  | x :: r => by
    have ih := splitB_len c r
    obtain ⟨h, t, e⟩ := splitB_ne c r
    rw [splitB]
    by_cases hx : x = c
    · rw [if_pos hx, List.length_cons, ih, hx, List.count_cons_self]
    · rw [if_neg hx, e, List.count_cons_of_ne hx, ← ih, e]; rfl
/-- The parts with the byte between them. -/
def joinB (c : UInt8) : List (List UInt8) → List UInt8
  | [] => []
  | h :: t => h ++ t.flatMap (c :: ·)
/-- The kind with a name. -/
def kindOf (s : List UInt8) : Option Int := if s = nameOf 1 then some 1 else if s = nameOf 2 then some 2 else if s = nameOf 3 then some 3 else if s = nameOf 4 then some 4 else if s = nameOf 5 then some 5 else if s = nameOf 6 then some 6 else if s = nameOf 7 then some 7 else none
theorem kindOf_name {s : List UInt8} {k : Int} (h : kindOf s = some k) : s = nameOf k ∧ 1 ≤ k ∧ k ≤ 7 := by
  unfold kindOf at h
  repeat' split at h
  all_goals first | (cases h; done) | (injection h with h; subst h; exact ⟨by assumption, by decide, by decide⟩)
/-- The operands' words. -/
def opW : List Od → List (List UInt8) → Opn → Option Opn
  | [], _, o => some o
  | d :: ds, ws, o => match pU (ws.head?.getD []) with
    | none => none
    | some u => if d ≠ .a ∧ 65535 < u then none else opW ds ws.tail (d.set o u)
def parsO (line : List UInt8) : Option Opn :=
  match kindOf ((splitB 32 line).head?.getD []) with
  | none => none
  | some k => match odsOf k with
    | none => none
    | some ds => if (splitB 32 line).length = ds.length + 1 then opW ds (splitB 32 line).tail (oz k) else none
def parsM (line : List UInt8) : Opn := (parsO line).getD (oz 0)
def malf : List UInt8 := [109, 97, 108, 102, 111, 114, 109, 101, 100]
def fmtW (o : Opn) (d : Od) : List UInt8 := Lib.decDigits (d.get o).toNat
def fmtM (o : Opn) : List UInt8 := if okM o then joinB 32 (nameOf o.k :: ((odsOf o.k).getD []).map (fmtW o)) else malf
theorem ok_get {o : Opn} {ds : List Od} (hr : OpR o) (h : OpOk o ds) : (∀ d ∈ ds, 0 ≤ d.get o ∧ (d ≠ .a → d.get o ≤ 65535)) ∧ ds.foldl (fun p d => d.set p (d.get o)) (oz o.k) = o := by
  obtain ⟨r1, r2, r3⟩ := hr
  obtain ⟨hk, hi, ht, ha⟩ := h
  obtain ⟨k, ix, tg, am⟩ := o
  simp only at *
  rcases ods_cases hk with ⟨rfl, rfl⟩ | ⟨rfl, rfl⟩ | ⟨rfl, rfl⟩ | ⟨rfl, rfl⟩ | ⟨rfl, rfl⟩ | ⟨rfl, rfl⟩ | ⟨rfl, rfl⟩
  all_goals simp [Od.set, Od.get, oz] at *
  all_goals omega
/-! ### Texts -/
def readM (t : List UInt8) : List Opn := ((splitB 10 t).filter fun l => decide (l ≠ [])).map parsM
end Go.Proofs.YtaggjikjohamjaaGreatDoor
end
section
namespace Go.Proofs.YtaggjikjohamjaaGreatDoor
open Go.RowKit Go.Maps
open Go.ChangeMaps (setBlock)
def pairs (es : Array MapEntry) : List (Value × Value) := es.toList.map fun e => (e.key, e.val)
/-- The stamps of a map's entries. -/
def BornOK (es : Array MapEntry) (clk : Nat) : Prop := (es.toList.map (·.born)).Nodup ∧ ∀ e ∈ es.toList, e.born < clk
theorem BornOK.nil (clk : Nat) : BornOK #[] clk := ⟨by simp, by simp⟩
/-- Block b is a map with keys of type K that holds just the pairs L. -/
def MapIs (P : Program) (K : TypeId) (w : World) (b : Nat) (L : List (Value × Value)) : Prop :=
  ∃ es clk, w.heap[b]? = some (.map es clk) ∧ (pairs es).Perm L ∧ (∀ p ∈ L, ∃ l, keyOf P K p.1 = some l) ∧ (L.map (·.1)).Nodup ∧ BornOK es clk
theorem MapIs.perm {P : Program} {K : TypeId} {w : World} {b : Nat} {L L' : List (Value × Value)} (h : MapIs P K w b L) (hp : L.Perm L') : MapIs P K w b L' := by
  obtain ⟨es, clk, h1, h2, h3, h4⟩ := h
  exact ⟨es, clk, h1, h2.trans hp, fun p hm => h3 p (hp.mem_iff.2 hm), (hp.map _).nodup_iff.1 h4.1, h4.2⟩
theorem MapIs.of_block {P : Program} {K : TypeId} {w w' : World} {b : Nat} {L : List (Value × Value)} (h : MapIs P K w b L) (e : w'.heap[b]? = w.heap[b]?) : MapIs P K w' b L := by
  obtain ⟨es, clk, h1, h2⟩ := h
  exact ⟨es, clk, e.trans h1, h2⟩
theorem MapIs.lt {P : Program} {K : TypeId} {w : World} {b : Nat} {L : List (Value × Value)} (h : MapIs P K w b L) : b < w.heap.size := by
  obtain ⟨es, clk, h1, _⟩ := h
  exact (Array.getElem?_eq_some_iff.1 h1).1
/-- The world but for block b. -/
structure Touch (b : Nat) (w w' : World) : Prop where
  os : w'.os = w.os
  tape : w'.tape = w.tape
  output : w'.output = w.output
  drawn : w'.drawn = w.drawn
  size : w'.heap.size = w.heap.size
  block : ∀ k, k ≠ b → w'.heap[k]? = w.heap[k]?
theorem touch_setBlock (w : World) (b : Nat) (o : Obj) : Touch b w (setBlock w b o) := by
  refine ⟨rfl, rfl, rfl, rfl, by simp [setBlock], fun k hk => ?_⟩
  simp [setBlock, Array.getElem?_setIfInBounds, Ne.symm hk]
theorem nodup_val {L : List (Value × Value)} (hn : (L.map (·.1)).Nodup) {k v v' : Value} (h : (k, v) ∈ L) (h' : (k, v') ∈ L) : v = v' := by
  induction L with
  | nil => cases h
  | cons p L ih =>
    rw [List.map_cons, List.nodup_cons] at hn
    rcases List.mem_cons.1 h with h4 | h4 <;> rcases List.mem_cons.1 h' with h5 | h5
    · rw [← h4] at h5; exact (congrArg Prod.snd h5).symm
    · exfalso; apply hn.1; rw [← h4]; exact List.mem_map.2 ⟨_, h5, rfl⟩
    · exfalso; apply hn.1; rw [← h5]; exact List.mem_map.2 ⟨_, h4, rfl⟩
    · exact ih hn.2 h4 h5
section
variable {P : Program} {w : World} {b : Nat} {L : List (Value × Value)} {T K E : TypeId}
theorem run_mapUpdate_new (hT : P.underlying T = some (.map K E)) (hK : Keyed P K) {k v : Value} {l : Lit} (hk : keyOf P K k = some l) (hm : MapIs P K w b L) (hnew : ∀ p ∈ L, p.1 ≠ k) :
    ∃ w', (Instr.mapUpdate T (.map (some b)) k v).run P w = .ok () w' ∧ MapIs P K w' b ((k, v) :: L) ∧ Touch b w w' := by
  obtain ⟨es, clk, hb, hp, hl, hn⟩ := hm
  have hkeys : ∀ e ∈ es.toList, ∃ l, keyOf P K e.key = some l := fun e he => hl (e.key, e.val) (hp.mem_iff.1 (List.mem_map.2 ⟨e, he, rfl⟩))
  rcases hK.find w hk es.toList hkeys with ⟨h1, _⟩ | ⟨j, e, _, h2, h3⟩
  · refine ⟨setBlock w b (.map (es.push { key := k, val := v, born := clk }) (clk + 1)), ?_, ⟨es.push { key := k, val := v, born := clk }, clk + 1, ?_, ?_, ?_, ?_, ?_⟩, touch_setBlock w b _⟩
    · simp [Instr.mapUpdate, run_underlying hT, MapKept.run_getObj_map hb, hK.check w false hk, h1, MapKept.run_setObj_map _ hb, Result.andThen, setBlock]
    · have := (Array.getElem?_eq_some_iff.1 hb).1
      simp [setBlock, this]
    · simp only [pairs, Array.toList_push, List.map_append, List.map_cons, List.map_nil]
      exact (List.perm_append_singleton _ _).trans (List.Perm.cons _ hp)
    · intro p hp'
      rcases List.mem_cons.1 hp' with rfl | hp'
      · exact ⟨l, hk⟩
      · exact hl p hp'
    · rw [List.map_cons, List.nodup_cons]
      exact ⟨fun hmem => by obtain ⟨p, hp1, hp2⟩ := List.mem_map.1 hmem; exact hnew p hp1 hp2, hn.1⟩
    · refine ⟨?_, ?_⟩
      · simp only [Array.toList_push, List.map_append, List.map_cons, List.map_nil]
        refine List.nodup_append.2 ⟨hn.2.1, by simp, fun x hx y hy => ?_⟩
        obtain ⟨e, he, rfl⟩ := List.mem_map.1 hx
        have := hn.2.2 e he
        simp at hy
        omega
      · intro e he
        rw [Array.toList_push, List.mem_append] at he
        rcases he with he | he
        · have := hn.2.2 e he; omega
        · simp at he; subst he; exact Nat.lt_succ_self _
  · exfalso
    exact hnew (e.key, e.val) (hp.mem_iff.1 (List.mem_map.2 ⟨e, List.mem_of_getElem? h2, rfl⟩)) h3
/-- 'v, ok := m[k]' -/
theorem run_lookup_hit (hT : P.underlying T = some (.map K E)) (hK : Keyed P K) {k v : Value} {l : Lit} (hk : keyOf P K k = some l) (hm : MapIs P K w b L) (hin : (k, v) ∈ L) (ok : Bool) :
    (Instr.lookup T (.map (some b)) k ok).run P w = .ok (if ok then .tuple #[v, .bool true] else v) w := by
  obtain ⟨es, clk, hb, hp, hl, hn⟩ := hm
  have hkeys : ∀ e ∈ es.toList, ∃ l, keyOf P K e.key = some l := fun e he => hl (e.key, e.val) (hp.mem_iff.1 (List.mem_map.2 ⟨e, he, rfl⟩))
  rcases hK.find w hk es.toList hkeys with ⟨_, h1⟩ | ⟨j, e, h1, h2, h3⟩
  · exfalso
    obtain ⟨e, he, hkv⟩ := List.mem_map.1 (hp.mem_iff.2 hin)
    exact h1 e he (congrArg Prod.fst hkv)
  · have hv : e.val = v := by
      have hmem : (e.key, e.val) ∈ L := hp.mem_iff.1 (List.mem_map.2 ⟨e, List.mem_of_getElem? h2, rfl⟩)
      rw [h3] at hmem
      exact nodup_val hn.1 hmem hin
    cases ok <;> simp [Instr.lookup, run_underlying hT, MapKept.run_getObj_map hb, hK.check w _ hk, h1, hv, Result.andThen]
theorem run_lookup_miss (hT : P.underlying T = some (.map K E)) (hK : Keyed P K) {k z : Value} {l : Lit} (hk : keyOf P K k = some l) (hm : MapIs P K w b L) (hno : ∀ p ∈ L, p.1 ≠ k) (hz : (zeroValue E).run P w = .ok z w) (ok : Bool) :
    (Instr.lookup T (.map (some b)) k ok).run P w = .ok (if ok then .tuple #[z, .bool false] else z) w := by
  obtain ⟨es, clk, hb, hp, hl, hn⟩ := hm
  have hkeys : ∀ e ∈ es.toList, ∃ l, keyOf P K e.key = some l := fun e he => hl (e.key, e.val) (hp.mem_iff.1 (List.mem_map.2 ⟨e, he, rfl⟩))
  rcases hK.find w hk es.toList hkeys with ⟨h1, _⟩ | ⟨j, e, _, h2, h3⟩
  · cases ok <;> simp [Instr.lookup, run_underlying hT, MapKept.run_getObj_map hb, hK.check w _ hk, h1, hz, Result.andThen]
  · exfalso
    exact hno (e.key, e.val) (hp.mem_iff.1 (List.mem_map.2 ⟨e, List.mem_of_getElem? h2, rfl⟩)) h3
end
/-! ### A map literal -/
inductive Lk where
  | make
  | ins (k v : Value)
  | val
def Lk.entry : Lk → Option (Value × Value)
  | .ins k v => some (k, v)
  | _ => none
/-- The entries of the operations that have been carried out. -/
def done (ks : List Lk) (listed : Array Bool) : List (Value × Value) :=
  (ks.zip listed.toList).filterMap fun p => if p.2 then p.1.entry else none
theorem run_makeMap_none {P : Program} {mt K E : TypeId} (hT : P.underlying mt = some (.map K E)) (w : World) : (Instr.makeMap mt none).run P w = .ok (.map (some w.heap.size)) (w.alloc (.map #[] 0)) := by
  simp [Instr.makeMap]
end Go.Proofs.YtaggjikjohamjaaGreatDoor
end
section
namespace Go.Proofs.YtaggjikjohamjaaGreatDoor
open Go.RowKit Go.Maps
open Go.ChangeMaps (setBlock)
set_option linter.unusedVariables false
set_option maxRecDepth 100000
set_option linter.unusedSimpArgs false
set_option maxHeartbeats 1000000
section
variable {w w' : World} {L L' : List Asn}
theorem Sat.agree' {L : List Asn} {s : List Nat} {w w' : World} (h : Sat L s w) (hw : Agree s w w') : Sat L s w' := by
  induction h with
  | nil => exact .nil w'
  | @cons A L s r w h1 _ h3 ih =>
    refine .cons ⟨fun b hb => ?_, fun w'' hw'' => h1.all w'' ((hw.sub fun x hx => by simp [hx]).trans hw'')⟩ (ih (hw.sub fun x hx => by simp [hx])) h3
    have e := hw.2.2.2 b (by simp [hb])
    have := h1.lt b hb
    rw [Array.getElem?_eq_getElem this] at e
    exact (Array.getElem?_eq_some_iff.1 e).1
theorem Sat.append {L R : List Asn} {s r : List Nat} {w : World} (h : Sat L s w) (k : Sat R r w) (hd : ∀ b ∈ s, b ∉ r) : ∃ t, Sat (L ++ R) t w ∧ ∀ b, b ∈ t ↔ b ∈ s ∨ b ∈ r := by
  induction h with
  | nil => exact ⟨r, k, by simp⟩
  | @cons A L s1 r1 w h1 h2 h3 ih =>
    obtain ⟨t, k1, k2⟩ := ih k fun b hb => hd b (by simp [hb])
    refine ⟨s1 ++ t, .cons h1 k1 fun b hb ht => ?_, fun b => by simp [k2, or_assoc]⟩
    rcases (k2 b).1 ht with h | h
    · exact h3 b hb h
    · exact hd b (by simp [hb]) h
theorem Sat.split {R : List Asn} {w : World} : ∀ {L : List Asn} {t : List Nat}, Sat (L ++ R) t w → ∃ s r, Sat L s w ∧ Sat R r w ∧ (∀ b ∈ s, b ∉ r) ∧ ∀ b, b ∈ t ↔ b ∈ s ∨ b ∈ r
  | [], t, h => ⟨[], t, .nil w, h, by simp, by simp⟩
  | A :: L, t, h => by
    cases h with
    | @cons _ _ s1 r1 _ h1 h2 h3 =>
      obtain ⟨s, r, k1, k2, k3, k4⟩ := Sat.split h2
      refine ⟨s1 ++ s, r, .cons h1 k1 fun b hb hs => h3 b hb ((k4 b).2 (.inl hs)), k2, fun b hb hr => ?_, fun b => by simp [k4, or_assoc]⟩
      rcases List.mem_append.1 hb with hb | hb
      · exact h3 b hb ((k4 b).2 (.inr hr))
      · exact k3 b hb hr
/-- Parts that lie in memory for some x. -/
def exA {α : Type} (f : α → List Asn) : Asn := fun s w => ∃ x, ∃ t, Sat (f x) t w ∧ ∀ b, b ∈ s ↔ b ∈ t
theorem Mem.exo {α : Type} {f : α → List Asn} (M : Mem w (exA f :: L)) : ∃ x, Mem w (f x ++ L) := by
  obtain ⟨s, hs⟩ := M
  cases hs with
  | cons h1 h2 h3 =>
    obtain ⟨x, t, k1, k2⟩ := h1.now
    obtain ⟨u, j, _⟩ := k1.append h2 fun b hb => h3 b ((k2 b).2 hb)
    exact ⟨x, u, j⟩
theorem Mem.exc {α : Type} {f : α → List Asn} (x : α) (M : Mem w (f x ++ L)) : Mem w (exA f :: L) := by
  obtain ⟨s, hs⟩ := M
  obtain ⟨s1, r, k1, k2, k3, _⟩ := hs.split
  exact ⟨s1 ++ r, .cons ⟨k1.lt, fun w' hw => ⟨x, s1, k1.agree' hw, fun _ => Iff.rfl⟩⟩ k2 k3⟩
theorem Mem.open {α : Type} {f : α → List Asn} (M : Mem w L) (h : Pull L (exA f) L') : ∃ x, Mem w (f x ++ L') := (M.pull h).exo
/-- The parts in another order. -/
theorem Pull.mid {A : Asn} : ∀ (X R : List Asn), Pull (X ++ A :: R) A (X ++ R)
  | [], R => .here
  | x :: X, R => .there (Pull.mid X R)
theorem Mem.front {A : Asn} {X R : List Asn} (M : Mem w (X ++ A :: R)) : Mem w (A :: (X ++ R)) := M.pull (.mid X R)
theorem Mem.back {A : Asn} {X R : List Asn} (M : Mem w (A :: (X ++ R))) : Mem w (X ++ A :: R) := M.push (.mid X R)
/-- A map. -/
def mp (b : Nat) (K : TypeId) (P : List (Value × Value)) : Asn := fun s w => s = [b] ∧ MapIs Tryz.prog K w b P
theorem ok_mp {b : Nat} {K : TypeId} {P : List (Value × Value)} (h : MapIs Tryz.prog K w b P) : Ok (mp b K P) [b] w :=
  ⟨fun x hx => (show x = b by simpa using hx) ▸ h.lt, fun w' hw => ⟨rfl, h.of_block (hw.2.2.2 b (by simp))⟩⟩
theorem gives_mp {b : Nat} {K : TypeId} {P : List (Value × Value)} (h : Pull L (mp b K P) L') : Gives L fun w => MapIs Tryz.prog K w b P := fun w M => by
  obtain ⟨s, hs, _⟩ := (M.pull h).head
  exact hs.2
theorem mapIs_new (K : TypeId) (w : World) : MapIs Tryz.prog K (w.alloc (.map #[] 0)) w.heap.size [] := ⟨#[], 0, heap_alloc_new w _, by simp [pairs], by simp, by simp, BornOK.nil 0⟩
theorem Touch.chg {b : Nat} (h : Touch b w w') : Chg [b] w w' := ⟨h.os, h.tape, h.output, Nat.le_of_eq h.size.symm, fun k _ hk => h.block k (by simpa using hk)⟩
end
/-- Map types. -/
class MT (t : TypeId) (K E : outParam TypeId) : Prop where
  k : Tryz.prog.underlying t = some (.map K E)
  h : Keyed Tryz.prog K
/-- A type's zero value. -/
class ZV (t : TypeId) (z : outParam Value) : Prop where
  k : (Tryz.prog.info? t).bind (·.zero) = some z
theorem ZV.run {t : TypeId} {z : Value} (h : ZV t z) (w : World) : (zeroValue t).run Tryz.prog w = .ok z w := by
  have := h.k
  cases hi : Tryz.prog.info? t with
  | none => rw [hi] at this; cases this
  | some i =>
    rw [hi] at this
    have : i.zero = some z := this
    simp [zeroValue, typeInfo, hi, this]
section
variable {o : Oper} {n : Nat} {l : List (Nat × Value)} {L : List Asn} {C : Value → List Asn → Prop}
theorem rt_hit {t : TypeId} {x y : Operand} {ok : Bool} (ho : o.op = .lookup t x y ok) {b : Nat} (hx : evl l x = some (.map (some b))) {k : Value} (hy : evl l y = some k) {K E : TypeId} (ht : MT t K E) {P : List (Value × Value)} (hg : Gives L fun w => MapIs Tryz.prog K w b P) {q : Lit} (hk : keyOf Tryz.prog K k = some q) {v : Value} (hin : (k, v) ∈ P) {r : Value} (hr : (if ok = true then .tuple #[v, .bool true] else v) = r) : RT o l L n r := fun a w F M => by
  subst hr
  unfold execOp
  rw [ho]
  simp only [F.eval hx, F.eval hy]
  have := run_lookup_hit ht.k ht.h hk (hg w M) hin ok
  simp [this]
theorem rt_miss {t : TypeId} {x y : Operand} {ok : Bool} (ho : o.op = .lookup t x y ok) {b : Nat} (hx : evl l x = some (.map (some b))) {k : Value} (hy : evl l y = some k) {K E : TypeId} (ht : MT t K E) {P : List (Value × Value)} (hg : Gives L fun w => MapIs Tryz.prog K w b P) {q : Lit} (hk : keyOf Tryz.prog K k = some q) (hno : ∀ p ∈ P, p.1 ≠ k) {z : Value} (hz : ZV E z) {r : Value} (hr : (if ok = true then .tuple #[z, .bool false] else z) = r) : RT o l L n r := fun a w F M => by
  subst hr
  unfold execOp
  rw [ho]
  simp only [F.eval hx, F.eval hy]
  have := run_lookup_miss ht.k ht.h hk (hg w M) hno (hz.run w) ok
  simp [this]
theorem rt_hit2 {t : TypeId} {x y : Operand} (ho : o.op = .lookup t x y true) {b : Nat} (hx : evl l x = some (.map (some b))) {k : Value} (hy : evl l y = some k) {K E : TypeId} (ht : MT t K E) {P : List (Value × Value)} (hg : Gives L fun w => MapIs Tryz.prog K w b P) {q : Lit} (hk : keyOf Tryz.prog K k = some q) {v : Value} (hin : (k, v) ∈ P) : RT o l L n (.tuple [v, .bool true].toArray) := rt_hit ho hx hy ht hg hk hin rfl
theorem rt_miss2 {t : TypeId} {x y : Operand} (ho : o.op = .lookup t x y true) {b : Nat} (hx : evl l x = some (.map (some b))) {k : Value} (hy : evl l y = some k) {K E : TypeId} (ht : MT t K E) {P : List (Value × Value)} (hg : Gives L fun w => MapIs Tryz.prog K w b P) {q : Lit} (hk : keyOf Tryz.prog K k = some q) (hno : ∀ p ∈ P, p.1 ≠ k) {z : Value} (hz : ZV E z) : RT o l L n (.tuple [z, .bool false].toArray) := rt_miss ho hx hy ht hg hk hno hz rfl
theorem ac_makeMap {t : TypeId} (ho : o.op = .makeMap t none) {K E : TypeId} (ht : MT t K E) (h : ∀ b, C (.map (some b)) (mp b K [] :: L)) : AC o l L n C := fun G a w F M => by
  have : (execOp a.eval o).run Tryz.prog w = .ok (.value (.map (some w.heap.size))) (w.alloc (.map #[] 0)) := by
    unfold execOp
    rw [ho]
    have := run_makeMap_none ht.k w
    simp [this]
  rw [this]
  exact ⟨_, h _, M.new ⟨rfl, rfl, rfl, by simp, fun k hk _ => (((Below.refl _ _).alloc (Nat.le_refl _) _).block k hk)⟩ ⟨[w.heap.size], ok_mp (mapIs_new K w), by simp⟩⟩
/-- A contract beside other parts. -/
theorem Spec.fr {k : FuncId} {us : List Value} {L1 : List Asn} {D : Value → List Asn → Prop} (h : Spec k us L1 D) (R : List Asn) : Spec k us (L1 ++ R) fun v L' => ∃ L2, D v L2 ∧ L' = L2 ++ R := fun G w M => by
  rw [List.append_assoc] at M
  exact (h (R ++ G) w M).mono fun e w' ⟨v, L2, h1, h2, h3⟩ => ⟨v, L2 ++ R, h1, ⟨L2, h2, rfl⟩, by rw [List.append_assoc]; exact h3⟩
/-- A call that leaves memory as it was. -/
abbrev Keeps (k : FuncId) (us : List Value) (v : Value) (L : List Asn) : Prop := Spec k us L fun u L' => u = v ∧ L' = L
theorem Keeps.head {k : FuncId} {us : List Value} {v : Value} {L : List Asn} (h : Keeps k us v L) (A : Asn) : Keeps k us v (A :: L) := fun G w M => by
  have M : Mem w (L ++ A :: G) := Mem.back M
  refine (h (A :: G) w M).mono ?_
  rintro e w' ⟨u, L', h1, ⟨h2, rfl⟩, M'⟩
  exact ⟨u, _, h1, ⟨h2, rfl⟩, M'.front⟩
end
end Go.Proofs.YtaggjikjohamjaaGreatDoor
end
section
namespace Go.Proofs.YtaggjikjohamjaaGreatDoor
open Go.RowKit
set_option linter.unusedVariables false
set_option maxRecDepth 100000
set_option linter.unusedSimpArgs false
set_option maxHeartbeats 1000000
section
variable {ops : Array Oper} {Q : Exit → Act → World → Prop} {o : Oper} {a : Act} {w : World} {n : Nat} {l : List (Nat × Value)} {L : List Asn} {C : Value → List Asn → Prop}
theorem isW {rest : List Oper} (h : wpList Tryz.prog ops Q rest a w) : wpList Tryz.prog ops Q rest a w := h
theorem isP {E Fl : List Nat} {S : List (Nat × List Nat)} {σ done : List Nat} (h : PW Tryz.prog ops n Q E Fl S σ done l L) : PW Tryz.prog ops n Q E Fl S σ done l L := h
theorem isK {c : Operand} {x y : Code} (h : (Code.cond c x y).wp Tryz.prog Q a w) : (Code.cond c x y).wp Tryz.prog Q a w := h
theorem isL {c : Code} (h : (Code.loop c).wp Tryz.prog Q a w) : (Code.loop c).wp Tryz.prog Q a w := h
theorem isD {id : Nat} (h : (Code.region id ops true).wp Tryz.prog Q a w) : (Code.region id ops true).wp Tryz.prog Q a w := h
/-- A call with a contract over parts of memory. -/
theorem acK {f : Operand} {xs : Array Operand} {ats : Array TypeId} {k : FuncId} {caps : Array Value} {vs us : List Value} {L1 : List Asn} {D : Value → List Asn → Prop} (hs : Spec k us L1 D) (hi : ∀ v L', D v L' → C v L')
    (ho : o.op = .call { callee := .value f, args := xs, argTypes := ats } := by exact rfl) (hf : evl l f = some (.func (.func k) #[] caps) := by exact rfl) (hfk : FK k := by exact inferInstance) (hx : evls l xs.toList = some vs := by exact rfl) (hu : vs ++ caps.toList = us := by exact rfl) (hp : Perms L L1 := by exact permsA) : AC o l L n C :=
  ac_call ho hf hfk hx hu ((hs.mono hi).pre hp)
/-- A call with a contract over all of memory. -/
theorem acW {f : Operand} {xs : Array Operand} {ats : Array TypeId} {k : FuncId} {caps : Array Value} {vs us : List Value} {D : Value → List Asn → Prop} (hs : Spec k us L D) (hi : ∀ v L', D v L' → C v L')
    (ho : o.op = .call { callee := .value f, args := xs, argTypes := ats } := by exact rfl) (hf : evl l f = some (.func (.func k) #[] caps) := by exact rfl) (hfk : FK k := by exact inferInstance) (hx : evls l xs.toList = some vs := by exact rfl) (hu : vs ++ caps.toList = us := by exact rfl) : AC o l L n C :=
  ac_call ho hf hfk hx hu (hs.mono hi)
theorem rt_min2 {xs : Array Operand} {ats : Array TypeId} (ho : o.op = .call { callee := .builtin .min, args := xs, argTypes := ats }) {k : IntKind} {x y r : Int} (hx : evls l xs.toList = some [.int k x, .int k y]) (hr : (if y < x then y else x) = r) : RT o l L n (.int k r) :=
  rt_min ho hx (by subst hr; simp [minL])
theorem rt_max2 {xs : Array Operand} {ats : Array TypeId} (ho : o.op = .call { callee := .builtin .max, args := xs, argTypes := ats }) {k : IntKind} {x y r : Int} (hx : evls l xs.toList = some [.int k x, .int k y]) (hr : (if y > x then y else x) = r) : RT o l L n (.int k r) :=
  rt_max ho hx (by subst hr; simp [maxL])
end
end Go.Proofs.YtaggjikjohamjaaGreatDoor
end
section
namespace Go.Proofs.YtaggjikjohamjaaGreatDoor
open Go.RowKit
set_option linter.unusedVariables false
set_option maxRecDepth 100000
set_option linter.unusedSimpArgs false
set_option maxHeartbeats 1000000
section
variable {o : Oper} {n : Nat} {l : List (Nat × Value)} {L : List Asn} {C : Value → List Asn → Prop}
/-- The rest of a slice from j on. -/
abbrev fromH (h : SlH) (j size : Nat) : SlH := ⟨if h.c = j then h.a else h.a.map (·.add (j * size)), h.n - j, h.c - j⟩
theorem own_h {w : World} {L : List Asn} {e : TypeId} {size m : Nat} {h : SlH} {xs : List Value} (M : Mem w (own e size (sl h) m xs :: L)) : h.n = m ∧ m ≤ h.c ∧ xs.length = m * size ∧ m ≤ maxLen := by
  obtain ⟨s, hs, _⟩ := M.head
  obtain ⟨h1, ⟨h2, h3, _⟩ | ⟨g, cap, cur, h2, _, _, h3, h4, _, _⟩⟩ := hs
  · obtain ⟨a, n, c⟩ := h
    simp only [sl, Value.slice.injEq] at h2
    obtain ⟨rfl, rfl, rfl⟩ := h2
    exact ⟨h3.symm, by omega, h1, by simp [h3]⟩
  · obtain ⟨a, n, c⟩ := h
    simp only [sl, Value.slice.injEq] at h2
    obtain ⟨rfl, rfl, rfl⟩ := h2
    exact ⟨rfl, h3, h1, by omega⟩
theorem rt_from {t : TypeId} {x y : Operand} (ho : o.op = .slice t x (some y) none none) {h : SlH} (hx : evl l x = some (sl h)) {k : IntKind} {j : Nat} (hy : evl l y = some (.int k (j : Int))) {e : TypeId} {z : Value} {size bytes : Nat} (ht : ST t e z size bytes) (h1 : j ≤ h.n) : RT o l L n (sl (fromH h j size)) := fun a w F M => by
  unfold execOp
  rw [ho]
  obtain ⟨hu, _⟩ := ht.k
  have e2 : Tryz.prog.elem t = e := by simp [Program.elem, hu]
  have ht' : Tryz.prog.underlying t = some (.slice (Tryz.prog.elem t)) := by rw [e2]; exact hu
  have hr := run_sliceAt_slice (P := Tryz.prog) w t (sl h) (some (.int k j)) none none ht'
  have hs := run_slice_l (P := Tryz.prog) w t h.a h.n h.c ht' k j (by omega) (by omega)
  rw [e2, st_size ht] at hs
  simp only [Result.andThen_ok, sliced, Int.toNat_natCast] at hs
  simp [F.eval hx, F.eval hy, hr, hs, sl]
theorem rt_to {t : TypeId} {x y : Operand} (ho : o.op = .slice t x none (some y) none) {h : SlH} (hx : evl l x = some (sl h)) {k : IntKind} {j : Nat} (hy : evl l y = some (.int k (j : Int))) {e : TypeId} {z : Value} {size bytes : Nat} (ht : ST t e z size bytes) (h1 : j ≤ h.c) : RT o l L n (sl ⟨h.a, j, h.c⟩) := fun a w F M => by
  unfold execOp
  rw [ho]
  obtain ⟨hu, _⟩ := ht.k
  have e2 : Tryz.prog.elem t = e := by simp [Program.elem, hu]
  have ht' : Tryz.prog.underlying t = some (.slice (Tryz.prog.elem t)) := by rw [e2]; exact hu
  have hr := run_sliceAt_slice (P := Tryz.prog) w t (sl h) none (some (.int k j)) none ht'
  have hs := run_slice_h (P := Tryz.prog) w t h.a h.n h.c ht' k j (by omega) (by omega)
  rw [e2, st_size ht] at hs
  simp only [Result.andThen_ok, sliced, Int.toNat_natCast] at hs
  have : (if h.c = 0 then h.a else h.a.map (·.add (0 * size))) = h.a := by
    split
    · rfl
    · cases h.a with
      | none => rfl
      | some q => obtain ⟨pb, po, pn⟩ := q; simp [Addr.add]
  rw [this] at hs
  simp [F.eval hx, F.eval hy, hr, hs, sl]
end
end Go.Proofs.YtaggjikjohamjaaGreatDoor
end
section
namespace Go.Proofs.YtaggjikjohamjaaGreatDoor
open Go.RowKit
set_option linter.unusedVariables false
set_option maxRecDepth 100000
set_option maxHeartbeats 1000000
section
variable {o : Oper} {n : Nat} {l : List (Nat × Value)} {L : List Asn} {C : Value → List Asn → Prop}
theorem ac_makeSlice {t : TypeId} {x y : Operand} (ho : o.op = .makeSlice t x y) {e : TypeId} {z : Value} {size bytes : Nat} (ht : ST t e z size bytes) {kl kc : IntKind} {m : Nat} (hx : evl l x = some (.int kl (m : Int))) (hy : evl l y = some (.int kc (m : Int))) (hb : bytes * m ≤ 281474976710656) (hm : m ≤ 140737488355328)
    (h : ∀ b, C (sl ⟨some ⟨b, 0, none⟩, m, m⟩) (own e size (sl ⟨some ⟨b, 0, none⟩, m, m⟩) m (madeCells z.cells (m * size)).toList :: L)) : AC o l L n C := fun G a w F M => by
  obtain ⟨i, hu, hi, hzi, hsz, hby, hzs, hpos⟩ := st_info ht
  have hb' : (i.bytes : Int) * (m : Int) ≤ 281474976710656 := by
    rw [hby]
    have h : ((bytes * m : Nat) : Int) ≤ 281474976710656 := by omega
    rwa [Int.natCast_mul] at h
  have hr := run_make (P := Tryz.prog) w t e i z hu hi hzi kl kc m m (by omega) (by omega) hb' (by omega)
  simp only [Int.toNat_natCast, hsz] at hr
  have : (execOp a.eval o).run Tryz.prog w = .ok (.value (sl ⟨some ⟨w.heap.size, 0, none⟩, m, m⟩)) (w.alloc (.cells (madeCells z.cells (m * size)) e)) := by
    unfold execOp
    rw [ho]
    simp [F.eval hx, F.eval hy, hr, sl]
  rw [this]
  refine ⟨_, h w.heap.size, ?_⟩
  have M1 := M.alloc (madeCells z.cells (m * size)).toList e
  simp only [Array.toArray_toList] at M1
  exact Mem.own_pt M1 (by rw [Array.length_toList, size_madeCells]) (by simp only [maxLen]; omega)
end
end Go.Proofs.YtaggjikjohamjaaGreatDoor
end
section
namespace Go.Proofs.YtaggjikjohamjaaGreatDoor
open Go.RowKit
set_option linter.unusedVariables false
set_option maxRecDepth 100000
set_option linter.unusedSimpArgs false
set_option maxHeartbeats 1000000
theorem SlR.from {w : World} {size : Nat} {h : SlH} {m : Nat} {xs : List Value} (hs : SlR w size (sl h) m xs) {j : Nat} (hj : j ≤ m) (hc : m ≤ h.c) : SlR w size (sl (fromH h j size)) (m - j) (xs.drop (j * size)) := by
  obtain ⟨hl, h2⟩ := hs
  obtain ⟨a, n, c⟩ := h
  refine ⟨by rw [List.length_drop, hl, Nat.mul_sub_right_distrib], ?_⟩
  rcases h2 with ⟨⟨p, q, h3⟩, h4⟩ | ⟨b, off, cap, h3, hb, hm, hcell⟩
  · simp only [sl, Value.slice.injEq] at h3
    obtain ⟨rfl, rfl, rfl⟩ := h3
    subst h4
    obtain rfl : j = 0 := by omega
    exact .inl ⟨⟨_, _, rfl⟩, rfl⟩
  · simp only [sl, Value.slice.injEq] at h3
    obtain ⟨rfl, rfl, rfl⟩ := h3
    by_cases hjm : j = n
    · subst hjm
      simp only [fromH, Nat.sub_self]
      exact .inl ⟨⟨_, _, rfl⟩, trivial⟩
    · have hcj : ¬ c = j := by simp only at hc; omega
      refine .inr ⟨b, off + j * size, c - j, ?_, hb, by omega, fun i u hu => ?_⟩
      · simp only [fromH, if_neg hcj, Option.map_some, add0]
      · rw [List.getElem?_drop] at hu
        have := hcell (j * size + i) u hu
        rw [Nat.add_assoc]; exact this
theorem SlR.to {w : World} {size : Nat} {h : SlH} {m : Nat} {xs : List Value} (hs : SlR w size (sl h) m xs) {j : Nat} (hj : j ≤ m) : SlR w size (sl ⟨h.a, j, h.c⟩) j (xs.take (j * size)) := by
  obtain ⟨hl, h2⟩ := hs
  obtain ⟨a, n, c⟩ := h
  have hle : j * size ≤ m * size := Nat.mul_le_mul_right _ hj
  refine ⟨by rw [List.length_take]; omega, ?_⟩
  rcases h2 with ⟨⟨p, q, h3⟩, h4⟩ | ⟨b, off, cap, h3, hb, hm, hcell⟩
  · subst h4
    obtain rfl : j = 0 := by omega
    exact .inl ⟨⟨_, _, rfl⟩, rfl⟩
  · simp only [sl, Value.slice.injEq] at h3
    obtain ⟨rfl, rfl, rfl⟩ := h3
    refine .inr ⟨b, off, c, rfl, hb, by omega, fun i u hu => ?_⟩
    rw [List.getElem?_take] at hu
    split at hu
    · exact hcell i u hu
    · cases hu
section
variable {o : Oper} {n : Nat} {l : List (Nat × Value)} {L : List Asn} {C : Value → List Asn → Prop}
theorem gs_from {L' : List Asn} {e : TypeId} {size m : Nat} {h : SlH} {xs : List Value} (hp : Pull L (own e size (sl h) m xs) L') {j : Nat} (hj : j ≤ m) : GS L size (sl (fromH h j size)) (m - j) (xs.drop (j * size)) := fun w M => by
  have M := M.pull hp
  obtain ⟨_, h2, _, _⟩ := own_h M
  exact (gs_own (L' := L') .here w M).from hj h2
theorem madeCells_get (z : Array Value) (n i : Nat) (hi : i < n) (hz : 0 < z.size) : (madeCells z n).toList[i]? = z.toList[i % z.size]? := by
  have := Nat.mod_lt i hz
  simp [madeCells, hi, getElem!_pos z (i % z.size) this, this]
theorem made_flat {α : Type} {f : α → List Value} {k : Nat} (he : EL f k) (z0 : α) (m : Nat) (hk : 0 < k) : (madeCells (f z0).toArray (m * k)).toList = (List.replicate m z0).flatMap f := by
  apply List.ext_getElem?
  intro i
  by_cases hi : i < m * k
  · have hd : i / k < m := (Nat.div_lt_iff_lt_mul hk).2 hi
    have hm := Nat.mod_lt i hk
    have e : i = i / k * k + i % k := by rw [Nat.mul_comm]; exact (Nat.div_add_mod i k).symm
    rw [madeCells_get _ _ _ hi (by simp [he.len, hk])]
    have h2 := flat_get he.len (List.replicate m z0) (i / k) (i % k) z0 (by simp [hd]) hm
    rw [← e] at h2
    rw [h2]
    simp [he.len]
  · have h1 : (madeCells (f z0).toArray (m * k)).toList.length = m * k := by rw [Array.length_toList, size_madeCells]
    have h2 := flat_lenE he (List.replicate m z0)
    rw [List.getElem?_eq_none (by omega), List.getElem?_eq_none (by rw [h2, List.length_replicate]; omega)]
/-- make of elements. -/
theorem ac_makeT {α : Type} {f : α → List Value} {k : Nat} (he : EL f k) (z0 : α) (hk : Nat.ble 1 k = true) {t : TypeId} {x y : Operand} (ho : o.op = .makeSlice t x y) {e : TypeId} {z : Value} {bytes : Nat} (ht : ST t e z k bytes) (hz : z.cells = (f z0).toArray) {kl kc : IntKind} {m : Nat} (hx : evl l x = some (.int kl (m : Int))) (hy : evl l y = some (.int kc (m : Int))) (hb : bytes * m ≤ 281474976710656) (hm : m ≤ 140737488355328)
    (h : ∀ b, C (sl ⟨some ⟨b, 0, none⟩, m, m⟩) (ownT e f k (sl ⟨some ⟨b, 0, none⟩, m, m⟩) (List.replicate m z0) :: L)) : AC o l L n C :=
  ac_makeSlice ho ht hx hy hb hm fun b => by
    have := h b
    rw [hz, made_flat he z0 m (Nat.le_of_ble_eq_true hk)]
    unfold ownT at this
    rw [List.length_replicate] at this
    exact this
end
end Go.Proofs.YtaggjikjohamjaaGreatDoor
end
section
namespace Go.Proofs.YtaggjikjohamjaaGreatDoor.DM
theorem split_y {y yn1 yn0 q u r un1 : Nat} (hy : y = yn1 * 4294967296 + yn0) (hq : q * yn1 + r = u) :
    q * y = (q * yn1) * 4294967296 + q * yn0 ∧ u * 4294967296 + un1 = (q * yn1) * 4294967296 + r * 4294967296 + un1 := by
  constructor
  · rw [hy, Nat.mul_add, Nat.mul_assoc]
  · rw [← hq, Nat.add_mul]
/-- What the loop keeps: the guess and its remainder. -/
def Inv (y yn1 u un1 q r : Nat) : Prop := q * yn1 + r = u ∧ (u * 4294967296 + un1) / y ≤ q ∧ q ≤ 4294967297 ∧ r < 4294967296
theorem quot_lt {y u un1 : Nat} (hu : u < y) (h1 : un1 < 4294967296) : (u * 4294967296 + un1) / y < 4294967296 := by
  rw [Nat.div_lt_iff_lt_mul (by omega)]
  have : (u + 1) * 4294967296 ≤ y * 4294967296 := Nat.mul_le_mul_right _ (by omega)
  rw [Nat.mul_comm 4294967296 y]
  omega
/-- The test of the loop. -/
theorem test_iff {y yn1 yn0 u un1 q r : Nat} (hy : y = yn1 * 4294967296 + yn0) (hq : q * yn1 + r = u) : (4294967296 * r + un1 < q * yn0) ↔ u * 4294967296 + un1 < q * y := by
  obtain ⟨h1, h2⟩ := split_y (un1 := un1) hy hq
  rw [h1, h2]
  omega
theorem over {y yn1 yn0 u un1 q r : Nat} (hy : y = yn1 * 4294967296 + yn0) (hu : u < y) (h1 : un1 < 4294967296) (hI : Inv y yn1 u un1 q r) (ht : 4294967296 ≤ q ∨ 4294967296 * r + un1 < q * yn0) :
    1 ≤ q ∧ (q - 1) * yn1 + (r + yn1) = u ∧ (u * 4294967296 + un1) / y ≤ q - 1 := by
  obtain ⟨e, hle, hq, hr⟩ := hI
  have hlt : (u * 4294967296 + un1) / y < q := by
    rcases ht with ht | ht
    · exact Nat.lt_of_lt_of_le (quot_lt hu h1) ht
    · rw [test_iff hy e] at ht
      rw [Nat.div_lt_iff_lt_mul (by omega)]
      exact ht
  have hq1 : 1 ≤ q := Nat.lt_of_le_of_lt (Nat.zero_le _) hlt
  refine ⟨hq1, ?_, Nat.le_sub_one_of_lt hlt⟩
  rw [Nat.sub_mul, Nat.one_mul]
  have : yn1 ≤ q * yn1 := Nat.le_mul_of_pos_left _ hq1
  omega
theorem or_add {a b s : Nat} (hb : b < 2 ^ s) : (a * 2 ^ s) ||| b = a * 2 ^ s + b := by
  rw [Nat.mul_comm, Nat.two_pow_add_eq_or_of_lt hb]
theorem parts (U L : Nat) : (U * 4294967296 + L / 4294967296) * 4294967296 + L % 4294967296 = U * 18446744073709551616 + L := by omega
section
variable {y yn1 yn0 u un1 q r : Int}
end
end Go.Proofs.YtaggjikjohamjaaGreatDoor.DM
end
