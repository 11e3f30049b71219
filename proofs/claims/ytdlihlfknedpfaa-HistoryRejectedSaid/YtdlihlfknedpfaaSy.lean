/- The steps: one theorem for each kind of operation. -/
import Derived.Test.YtdlihlfknedpfaaSx
namespace Go.Proofs.Ytdlihlfknedpfaa
open Go.RowKit
set_option linter.unusedVariables false
set_option maxRecDepth 100000
section
variable {ops : Array Oper} {Q : Exit → Act → World → Prop} {rest : List Oper} {o : Oper} {a : Act} {w : World} {n : Nat} {l : List (Nat × Value)} {L : List Asn}
def Wanted (o : Oper) (ops : Array Oper) (l : List (Nat × Value)) : Option Bool :=
  match o.guard with
  | none => some true
  | some (j, want) => match ((ops[j]?).bind (·.dst)).bind (look l) with
    | some (.bool b) => some (b == want)
    | some _ => some false
    | none => none
theorem Fr.wanted {x : Bool} (F : Fr a n l) (h : Wanted o ops l = some x) : Region.wanted o (yielded ops a.tmps) = x := by
  unfold Wanted at h
  unfold Region.wanted
  cases hg : o.guard with
  | none => rw [hg] at h; exact Option.some.inj h
  | some p =>
    obtain ⟨j, want⟩ := p
    rw [hg] at h
    simp only at h ⊢
    unfold yielded
    cases hj : (ops[j]?).bind (·.dst) with
    | none => rw [hj] at h; simp at h
    | some d =>
      rw [hj] at h
      simp only [Option.bind_some] at h ⊢
      cases hl : look l d with
      | none => rw [hl] at h; simp at h
      | some u =>
        rw [hl] at h
        obtain ⟨h1, h2⟩ := F.val d u hl
        have h3 : a.tmps[d]? = some u := by
          have hs : d < a.tmps.size := by rw [F.size]; exact h1
          have : a.tmps.getD d undef = a.tmps[d] := by simp [Array.getD, hs]
          rw [Array.getElem?_eq_getElem hs, ← this, h2]
        rw [h3]
        cases u <;> simp_all
theorem sx_val (F : Fr a n l) (hw : Wanted o ops l = some true) {d : Nat} (hd : o.dst = some d) (hn : Nat.ble (d + 1) n = true) {v : Value} {w' : World} (hr : (execOp a.eval o).run Try.prog w = .ok (.value v) w')
    (h : ∀ a', Fr a' n ((d, v) :: l) → wpList Try.prog ops Q rest a' w') : wpList Try.prog ops Q (o :: rest) a w := by
  unfold wpList
  rw [if_pos (F.wanted hw)]
  refine .inl ?_
  unfold Oper.wp
  rw [hr]
  unfold Oper.upon
  rw [hd]
  exact h _ (F.put d v hn)
theorem sx_unit (F : Fr a n l) (hw : Wanted o ops l = some true) (hd : o.dst = none) {w' : World} (hr : (execOp a.eval o).run Try.prog w = .ok .skip w')
    (h : wpList Try.prog ops Q rest a w') : wpList Try.prog ops Q (o :: rest) a w := by
  unfold wpList
  rw [if_pos (F.wanted hw)]
  refine .inl ?_
  unfold Oper.wp
  rw [hr]
  unfold Oper.upon
  rw [hd]
  exact h
theorem sx_skip (F : Fr a n l) (hw : Wanted o ops l = some false) {d : Nat} (hd : o.dst = some d) (hn : Nat.ble (d + 1) n = true)
    (h : ∀ a', Fr a' n ((d, undef) :: l) → wpList Try.prog ops Q rest a' w) : wpList Try.prog ops Q (o :: rest) a w := by
  unfold wpList
  rw [if_neg (by rw [F.wanted hw]; simp), hd]
  exact h _ (F.put d undef hn)
theorem sx_skip0 (F : Fr a n l) (hw : Wanted o ops l = some false) (hd : o.dst = none)
    (h : wpList Try.prog ops Q rest a w) : wpList Try.prog ops Q (o :: rest) a w := by
  unfold wpList
  rw [if_neg (by rw [F.wanted hw]; simp), hd]
  exact h
theorem sx_nil (h : Q .normal a w) : wpList Try.prog ops Q [] a w := h
/-! ### Operations that only compute -/
def pureBin (b : BinOp) (u v : Value) : Option Value :=
  match u, v with
  | .int k x, .int k' y => if k = k' then
      match b with
      | .eql => some (.bool (decide (x = y)))
      | .neq => some (.bool (decide (x ≠ y)))
      | .lss => some (.bool (decide (x < y)))
      | .leq => some (.bool (decide (x ≤ y)))
      | .gtr => some (.bool (decide (y < x)))
      | .geq => some (.bool (decide (y ≤ x)))
      | _ => none
    else none
  | .string x, .string y =>
    match b with
    | .eql => some (.bool (x.toList == y.toList))
    | .neq => some (.bool (!(x.toList == y.toList)))
    | _ => none
  | _, _ => none
def pureOp (op : Op) (l : List (Nat × Value)) : Option Value :=
  match op with
  | .move x => evl l x
  | .assign x => evl l x
  | .binOp b _ x y _ => match evl l x, evl l y with | some u, some v => pureBin b u v | _, _ => none
  | .unOp .not _ x => match evl l x with | some (.bool b) => some (.bool (!b)) | _ => none
  | .nilCheck x => match evl l x with | some (.pointer (some p)) => some (.pointer (some p)) | some (.func (.func f) u v) => some (.func (.func f) u v) | _ => none
  | .makeFunc f u v => match evls l u.toList, evls l v.toList with | some us, some vs => some (.func f us.toArray vs.toArray) | _, _ => none
  | .pick c x y => match evl l c with | some (.bool true) => evl l x | some (.bool false) => evl l y | _ => none
  | _ => none
theorem pureBin_run (b : BinOp) (t : TypeId) (x y : Operand) {u v r : Value} (h : pureBin b u v = some r) (w : World) : (do eqGuard b t x y u v; binOp b t u v : Sem Value).run Try.prog w = .ok r w := by
  unfold pureBin at h
  split at h
  · split at h
    · rename_i k x y k' x' y' hk
      subst hk
      cases b <;> simp only [reduceCtorEq] at h <;> (obtain rfl := Option.some.inj h) <;> simp [eqGuard, binOp, Op.intCmp] <;> rfl
    · cases h
  · cases b <;> simp only [reduceCtorEq] at h <;> (obtain rfl := Option.some.inj h) <;> simp [eqGuard, binOp, Op.stringOp]
  · cases h
theorem pure_run (F : Fr a n l) {v : Value} (h : pureOp o.op l = some v) : (execOp a.eval o).run Try.prog w = .ok (.value v) w := by
  unfold pureOp at h
  unfold execOp
  split at h
  · rename_i x e; rw [e]; simp [F.eval h]
  · rename_i x e; rw [e]; simp [F.eval h]
  · rename_i b t x y ty e
    rw [e]
    split at h
    · rename_i u v h1 h2
      simp only [F.eval h1, F.eval h2]
      have := pureBin_run b t x y h w
      rw [Sem.run_bind, this]; rfl
    · cases h
  · rename_i t x e
    rw [e]
    split at h
    · rename_i b h1
      obtain rfl := Option.some.inj h
      simp [F.eval h1, Op.unary]
    · cases h
  · rename_i x e
    rw [e]
    split at h
    · rename_i p h1
      obtain rfl := Option.some.inj h
      simp [F.eval h1]
    · rename_i p u v h1
      obtain rfl := Option.some.inj h
      simp [F.eval h1]
    · cases h
  · rename_i f u v e
    rw [e]
    split at h
    · rename_i us vs h1 h2
      obtain rfl := Option.some.inj h
      have e1 : u.map a.eval = us.toArray := by have := F.evals h1; apply Array.toList_inj.1; simpa using this
      have e2 : v.map a.eval = vs.toArray := by have := F.evals h2; apply Array.toList_inj.1; simpa using this
      simp [Instr.makeFunc, e1, e2]
    · cases h
  · rename_i c x y e
    rw [e]
    split at h
    · rename_i h1
      simp [F.eval h1, F.eval h, asBool]
    · rename_i h1
      simp [F.eval h1, F.eval h, asBool]
    · cases h
  · cases h
theorem sx_pure (F : Fr a n l) (hw : Wanted o ops l = some true) {d : Nat} (hd : o.dst = some d) (hn : Nat.ble (d + 1) n = true) {v : Value} (hp : pureOp o.op l = some v)
    (h : ∀ a', Fr a' n ((d, v) :: l) → wpList Try.prog ops Q rest a' w) : wpList Try.prog ops Q (o :: rest) a w := sx_val F hw hd hn (pure_run F hp) h
theorem sx_extract (F : Fr a n l) (hw : Wanted o ops l = some true) {d : Nat} (hd : o.dst = some d) (hn : Nat.ble (d + 1) n = true) {x : Operand} {i : Nat} (ho : o.op = .extract x i) {vs : List Value} (hx : evl l x = some (.tuple vs.toArray)) {v : Value} (hv : vs[i]? = some v)
    (h : ∀ a', Fr a' n ((d, v) :: l) → wpList Try.prog ops Q rest a' w) : wpList Try.prog ops Q (o :: rest) a w :=
  sx_val F hw hd hn (by
    unfold execOp
    rw [ho]
    simp [F.eval hx, Instr.extract, hv]) h
/-! ### Arithmetic -/
theorem bin_run (F : Fr a n l) {b : BinOp} {t ty : TypeId} {x y : Operand} (ho : o.op = .binOp b t x y ty) {k : IntKind} {m p : Int} (hx : evl l x = some (.int k m)) (hy : evl l y = some (.int k p)) {r : Value}
    (h : (binOp b t (.int k m) (.int k p)).run Try.prog w = .ok r w) : (execOp a.eval o).run Try.prog w = .ok (.value r) w := by
  unfold execOp
  rw [ho]
  have h1 : (eqGuard b t x y (.int k m) (.int k p)).run Try.prog w = .ok () w := by unfold eqGuard; cases b <;> simp [Sem.run_pure]
  simp only [F.eval hx, F.eval hy, Sem.run_bind, h1, Result.andThen_ok, h]
  rfl
theorem sx_add (F : Fr a n l) (hw : Wanted o ops l = some true) {d : Nat} (hd : o.dst = some d) (hn : Nat.ble (d + 1) n = true) {t ty : TypeId} {x y : Operand} (ho : o.op = .binOp .add t x y ty) {m p : Int} (hx : evl l x = some (.int .i64 m)) (hy : evl l y = some (.int .i64 p))
    (h1 : -9223372036854775808 ≤ m + p) (h2 : m + p ≤ 9223372036854775807) (h : ∀ a', Fr a' n ((d, (.int .i64 (m + p))) :: l) → wpList Try.prog ops Q rest a' w) : wpList Try.prog ops Q (o :: rest) a w :=
  sx_val F hw hd hn (bin_run F ho hx hy (by simp [binOp, Op.intArith, IntWalk.i64_in _ ⟨h1, h2⟩])) h
theorem sx_sub (F : Fr a n l) (hw : Wanted o ops l = some true) {d : Nat} (hd : o.dst = some d) (hn : Nat.ble (d + 1) n = true) {t ty : TypeId} {x y : Operand} (ho : o.op = .binOp .sub t x y ty) {m p : Int} (hx : evl l x = some (.int .i64 m)) (hy : evl l y = some (.int .i64 p))
    (h1 : -9223372036854775808 ≤ m - p) (h2 : m - p ≤ 9223372036854775807) (h : ∀ a', Fr a' n ((d, (.int .i64 (m - p))) :: l) → wpList Try.prog ops Q rest a' w) : wpList Try.prog ops Q (o :: rest) a w :=
  sx_val F hw hd hn (bin_run F ho hx hy (by simp [binOp, Op.intArith, IntWalk.i64_in _ ⟨h1, h2⟩])) h
theorem u64_in {x : Int} (h1 : 0 ≤ x) (h2 : x ≤ 18446744073709551615) : IntKind.u64.wrap x = x := by
  have := Int.emod_eq_of_lt h1 (show x < 18446744073709551616 by omega)
  first | simpa [IntKind.wrap, IntKind.signed, IntKind.bits] using this | (unfold IntKind.wrap; simp [IntKind.signed, IntKind.bits]; omega)
theorem sx_addu (F : Fr a n l) (hw : Wanted o ops l = some true) {d : Nat} (hd : o.dst = some d) (hn : Nat.ble (d + 1) n = true) {t ty : TypeId} {x y : Operand} (ho : o.op = .binOp .add t x y ty) {m p : Int} (hx : evl l x = some (.int .u64 m)) (hy : evl l y = some (.int .u64 p))
    (h1 : 0 ≤ m + p) (h2 : m + p ≤ 18446744073709551615) (h : ∀ a', Fr a' n ((d, (.int .u64 (m + p))) :: l) → wpList Try.prog ops Q rest a' w) : wpList Try.prog ops Q (o :: rest) a w :=
  sx_val F hw hd hn (bin_run F ho hx hy (by simp [binOp, Op.intArith, u64_in h1 h2])) h
theorem sx_subu (F : Fr a n l) (hw : Wanted o ops l = some true) {d : Nat} (hd : o.dst = some d) (hn : Nat.ble (d + 1) n = true) {t ty : TypeId} {x y : Operand} (ho : o.op = .binOp .sub t x y ty) {m p : Int} (hx : evl l x = some (.int .u64 m)) (hy : evl l y = some (.int .u64 p))
    (h1 : 0 ≤ m - p) (h2 : m - p ≤ 18446744073709551615) (h : ∀ a', Fr a' n ((d, (.int .u64 (m - p))) :: l) → wpList Try.prog ops Q rest a' w) : wpList Try.prog ops Q (o :: rest) a w :=
  sx_val F hw hd hn (bin_run F ho hx hy (by simp [binOp, Op.intArith, u64_in h1 h2])) h
theorem eq_run (F : Fr a n l) {t ty : TypeId} {x y : Operand} {neg : Bool} (ho : o.op = .binOp (if neg then .neq else .eql) t x y ty) {xs ys : List Value} (hx : evl l x = some (.agg xs.toArray)) (hy : evl l y = some (.agg ys.toArray)) {ks : List Sc} [he : EQ t ks] {r : Bool} (hr : cellsEq ks xs ys = some r) :
    (execOp a.eval o).run Try.prog w = .ok (.value (.bool (neg ^^ r))) w := by
  unfold execOp
  rw [ho]
  cases neg
  · simp only [Bool.false_eq_true, if_false, F.eval hx, F.eval hy, Sem.run_bind, run_eqGuard_agg w .eql t x y _ _ he.k.2, Result.andThen_ok, run_eql_struct w t, run_eq_flat hr]
    simp
  · simp only [if_true, F.eval hx, F.eval hy, Sem.run_bind, run_eqGuard_agg w .neq t x y _ _ he.k.2, Result.andThen_ok, run_neq_struct w t, run_eq_flat hr]
    simp
theorem sx_eql (F : Fr a n l) (hw : Wanted o ops l = some true) {d : Nat} (hd : o.dst = some d) (hn : Nat.ble (d + 1) n = true) {t ty : TypeId} {x y : Operand} (ho : o.op = .binOp .eql t x y ty) {xs ys : List Value} (hx : evl l x = some (.agg xs.toArray)) (hy : evl l y = some (.agg ys.toArray)) {ks : List Sc} [EQ t ks] {r : Bool} (hr : cellsEq ks xs ys = some r)
    (h : ∀ a', Fr a' n ((d, .bool r) :: l) → wpList Try.prog ops Q rest a' w) : wpList Try.prog ops Q (o :: rest) a w := by
  have := eq_run (w := w) (neg := false) F ho hx hy hr
  rw [Bool.false_xor] at this
  exact sx_val F hw hd hn this h
theorem sx_neq (F : Fr a n l) (hw : Wanted o ops l = some true) {d : Nat} (hd : o.dst = some d) (hn : Nat.ble (d + 1) n = true) {t ty : TypeId} {x y : Operand} (ho : o.op = .binOp .neq t x y ty) {xs ys : List Value} (hx : evl l x = some (.agg xs.toArray)) (hy : evl l y = some (.agg ys.toArray)) {ks : List Sc} [EQ t ks] {r : Bool} (hr : cellsEq ks xs ys = some r)
    (h : ∀ a', Fr a' n ((d, .bool (!r)) :: l) → wpList Try.prog ops Q rest a' w) : wpList Try.prog ops Q (o :: rest) a w := by
  have := eq_run (w := w) (neg := true) F ho hx hy hr
  rw [Bool.true_xor] at this
  exact sx_val F hw hd hn this h
theorem sx_eql1 (F : Fr a n l) (hw : Wanted o ops l = some true) {d : Nat} (hd : o.dst = some d) (hn : Nat.ble (d + 1) n = true) {t ty : TypeId} {x y : Operand} (ho : o.op = .binOp .eql t x y ty) {xs : List Value} (hx : evl l x = some (.agg xs.toArray)) (hy : evl l y = some (.agg xs.toArray)) {ks : List Sc} [EQ t ks] {r : Bool} (hr : cellsEq ks xs xs = some r)
    (h : ∀ a', Fr a' n ((d, .bool true) :: l) → wpList Try.prog ops Q rest a' w) : wpList Try.prog ops Q (o :: rest) a w :=
  sx_eql F hw hd hn ho hx hy hr (by rw [cellsEq_refl hr]; exact h)
theorem sx_neq1 (F : Fr a n l) (hw : Wanted o ops l = some true) {d : Nat} (hd : o.dst = some d) (hn : Nat.ble (d + 1) n = true) {t ty : TypeId} {x y : Operand} (ho : o.op = .binOp .neq t x y ty) {xs : List Value} (hx : evl l x = some (.agg xs.toArray)) (hy : evl l y = some (.agg xs.toArray)) {ks : List Sc} [EQ t ks] {r : Bool} (hr : cellsEq ks xs xs = some r)
    (h : ∀ a', Fr a' n ((d, .bool false) :: l) → wpList Try.prog ops Q rest a' w) : wpList Try.prog ops Q (o :: rest) a w :=
  sx_neq F hw hd hn ho hx hy hr (by rw [cellsEq_refl hr]; exact h)
def guardOf (o : Oper) (ops : Array Oper) (l : List (Nat × Value)) : Option Value := match o.guard with | some (j, _) => ((ops[j]?).bind (·.dst)).bind (look l) | none => none
theorem sx_guard (F : Fr a n l) {p : Prop} [Decidable p] (hg : guardOf o ops l = some (.bool (decide p))) (h1 : p → wpList Try.prog ops Q (o :: rest) a w) (h2 : ¬ p → wpList Try.prog ops Q (o :: rest) a w) : wpList Try.prog ops Q (o :: rest) a w := by
  by_cases h : p
  · exact h1 h
  · exact h2 h
theorem sx_guardb (F : Fr a n l) {b : Bool} (hg : guardOf o ops l = some (.bool b)) (h1 : b = true → wpList Try.prog ops Q (o :: rest) a w) (h2 : b = false → wpList Try.prog ops Q (o :: rest) a w) : wpList Try.prog ops Q (o :: rest) a w := by
  cases b
  · exact h2 rfl
  · exact h1 rfl
/-! ### Memory -/
theorem sx_boxA (F : Fr a n l) (M : Mem w L) (hw : Wanted o ops l = some true) {d : Nat} (hd : o.dst = some d) (hn : Nat.ble (d + 1) n = true) {t : TypeId} {x : Operand} (ho : o.op = .box t x) {cs : List Value} (hx : evl l x = some (.agg cs.toArray))
    (h : ∀ a' b w', Fr a' n ((d, (.pointer (some ⟨b, 0, none⟩))) :: l) → Mem w' (pt b cs t :: L) → wpList Try.prog ops Q rest a' w') : wpList Try.prog ops Q (o :: rest) a w :=
  sx_val (v := .pointer (some ⟨w.heap.size, 0, none⟩)) (w' := w.alloc (.cells cs.toArray t)) F hw hd hn (by
    unfold execOp
    rw [ho]
    simp [F.eval hx, Instr.box, newVar, newRow, newObj, Sem.run, Value.cells]) fun a' F' => h a' _ _ F' (M.alloc cs t)
theorem sx_box (F : Fr a n l) (M : Mem w L) (hw : Wanted o ops l = some true) {d : Nat} (hd : o.dst = some d) (hn : Nat.ble (d + 1) n = true) {t : TypeId} {x : Operand} (ho : o.op = .box t x) {v : Value} (hx : evl l x = some v) (hv : v.oneCell' = true)
    (h : ∀ a' b w', Fr a' n ((d, (.pointer (some ⟨b, 0, none⟩))) :: l) → Mem w' (pt b [v] t :: L) → wpList Try.prog ops Q rest a' w') : wpList Try.prog ops Q (o :: rest) a w :=
  sx_val (v := .pointer (some ⟨w.heap.size, 0, none⟩)) (w' := w.alloc (.cells [v].toArray t)) F hw hd hn (by
    have h1 : v.cells = #[v] := by cases v <;> simp_all [Value.oneCell', Value.cells]
    unfold execOp
    rw [ho]
    simp [F.eval hx, Instr.box, newVar, newRow, newObj, Sem.run, h1]) fun a' F' => h a' _ _ F' (M.alloc [v] t)
theorem sx_alloc (F : Fr a n l) (M : Mem w L) (hw : Wanted o ops l = some true) {d : Nat} (hd : o.dst = some d) (hn : Nat.ble (d + 1) n = true) {t : TypeId} (ho : o.op = .alloc t) {cs : List Value} [hz : ZT t cs]
    (h : ∀ a' b w', Fr a' n ((d, (.pointer (some ⟨b, 0, none⟩))) :: l) → Mem w' (pt b cs t :: L) → wpList Try.prog ops Q rest a' w') : wpList Try.prog ops Q (o :: rest) a w :=
  sx_val (v := .pointer (some ⟨w.heap.size, 0, none⟩)) (w' := w.alloc (.cells cs.toArray t)) F hw hd hn (by
    unfold execOp
    rw [ho]
    have h1 := hz.k
    cases hi : Try.prog.info? t with
    | none => rw [hi] at h1; cases h1
    | some i =>
      rw [hi] at h1
      have h2 : i.zero.map Value.cells = some cs.toArray := Option.some.inj h1
      cases hzz : i.zero with
      | none => rw [hzz] at h2; cases h2
      | some z =>
        rw [hzz] at h2
        have h3 : z.cells = cs.toArray := Option.some.inj h2
        simp [Instr.alloc, zeroValue, typeInfo, hi, hzz, newVar, newRow, newObj, Sem.run, h3]) fun a' F' => h a' _ _ F' (M.alloc cs t)
theorem sx_field (F : Fr a n l) (hw : Wanted o ops l = some true) {d : Nat} (hd : o.dst = some d) (hn : Nat.ble (d + 1) n = true) {t : TypeId} {x : Operand} {f off : Nat} (ho : o.op = .fieldAddr t x f) {b i : Nat} (hx : evl l x = some (.pointer (some ⟨b, i, none⟩))) [hf : FO t f off]
    (h : ∀ a', Fr a' n ((d, (.pointer (some ⟨b, i + off, none⟩))) :: l) → wpList Try.prog ops Q rest a' w) : wpList Try.prog ops Q (o :: rest) a w :=
  sx_val F hw hd hn (v := .pointer (some ⟨b, i + off, none⟩)) (by
    unfold execOp
    rw [ho]
    have h1 := hf.k
    split at h1
    · rename_i fs hu
      cases hfs : fs[f]? with
      | none => rw [hfs] at h1; cases h1
      | some fd =>
        rw [hfs] at h1
        have h2 := Option.some.inj h1
        simp only at h2
        cases hi : Try.prog.info? fd.type with
        | none => rw [hi] at h2; simp at h2
        | some i =>
          rw [hi] at h2
          simp only [Prod.mk.injEq] at h2
          obtain ⟨h2, h3⟩ := h2
          have h4 : ¬ i.size = 0 := by have := Nat.le_of_ble_eq_true h3; omega
          simp [F.eval hx, Instr.fieldAt, run_underlying hu w, hfs, Instr.sureAddr, fieldPlace, sizeOf, typeInfo, hi, h4, h2, add0]
    · cases h1) h
theorem cell_pt {L' : List Asn} {b i : Nat} {cs : List Value} {t' : TypeId} {v : Value} (M : Mem w L) (hp : Pull L (pt b cs t') L') (hv : cs[i]? = some v) : w.cell? ⟨b, i, none⟩ = some v := by
  have := M.pt hp
  simp [World.cell?, this, hv]
theorem free_pt {L' : List Asn} {b i : Nat} {cs : List Value} {t' : TypeId} (M : Mem w L) (hp : Pull L (pt b cs t') L') : w.frozen? ⟨b, i, none⟩ = false := by
  have := M.pt hp
  simp [World.frozen?, this]
theorem load_run1 (F : Fr a n l) (M : Mem w L) {t : TypeId} {x : Operand} (ho : o.op = .load t x) {b i : Nat} (hx : evl l x = some (.pointer (some ⟨b, i, none⟩))) (hkt : KT t none) {L' : List Asn} {cs : List Value} {t' : TypeId} (hp : Pull L (pt b cs t') L')
    {v : Value} (hv : cs[i]? = some v) : (execOp a.eval o).run Try.prog w = .ok (.value v) w := by
  unfold execOp
  rw [ho]
  simp [F.eval hx, Instr.loadAt, Instr.sureAddr, run_loadVar_one (cell_pt M hp hv)]
theorem load_runA (F : Fr a n l) (M : Mem w L) {t : TypeId} {x : Operand} (ho : o.op = .load t x) {b : Nat} (hx : evl l x = some (.pointer (some ⟨b, 0, none⟩))) {k : Nat} (hkt : KT t (some k)) {L' : List Asn} {cs : List Value} {t' : TypeId} (hp : Pull L (pt b cs t') L')
    (hk : cs.length = k) : (execOp a.eval o).run Try.prog w = .ok (.value (.agg cs.toArray)) w := by
  unfold execOp
  rw [ho]
  simp [F.eval hx, Instr.loadAt, Instr.sureAddr, run_loadVar_agg hk (fun j u hu => by rw [Nat.zero_add]; exact cell_pt M hp hu)]
theorem load_runS (F : Fr a n l) (M : Mem w L) {t : TypeId} {x : Operand} (ho : o.op = .load t x) {b i : Nat} (hx : evl l x = some (.pointer (some ⟨b, i, none⟩))) {k : Nat} (hkt : KT t (some k)) {L' : List Asn} {cs : List Value} {t' : TypeId} (hp : Pull L (pt b cs t') L')
    {ds : List Value} (hd : (cs.drop i).take k = ds) (hk : ds.length = k) : (execOp a.eval o).run Try.prog w = .ok (.value (.agg ds.toArray)) w := by
  unfold execOp
  rw [ho]
  simp only [F.eval hx, Instr.loadAt, Instr.sureAddr, Sem.run_bind, Sem.run_pure, Result.andThen_ok]
  rw [run_loadVar_agg hk (fun j u hu => cell_pt M hp (by
    rw [← hd] at hu
    rw [List.getElem?_take] at hu
    split at hu
    · rwa [List.getElem?_drop] at hu
    · cases hu))]
  rfl
theorem sx_load (F : Fr a n l) (M : Mem w L) (hw : Wanted o ops l = some true) {d : Nat} (hd : o.dst = some d) (hn : Nat.ble (d + 1) n = true) {t : TypeId} {x : Operand} (ho : o.op = .load t x) {b i : Nat} (hx : evl l x = some (.pointer (some ⟨b, i, none⟩))) (hkt : KT t none) {L' : List Asn} {cs : List Value} {t' : TypeId} (hp : Pull L (pt b cs t') L')
    {v : Value} (hv : cs[i]? = some v) (h : ∀ a', Fr a' n ((d, v) :: l) → wpList Try.prog ops Q rest a' w) : wpList Try.prog ops Q (o :: rest) a w := sx_val F hw hd hn (load_run1 F M ho hx hkt hp hv) h
theorem sx_loadA (F : Fr a n l) (M : Mem w L) (hw : Wanted o ops l = some true) {d : Nat} (hd : o.dst = some d) (hn : Nat.ble (d + 1) n = true) {t : TypeId} {x : Operand} (ho : o.op = .load t x) {b : Nat} (hx : evl l x = some (.pointer (some ⟨b, 0, none⟩))) {k : Nat} (hkt : KT t (some k)) {L' : List Asn} {cs : List Value} {t' : TypeId} (hp : Pull L (pt b cs t') L')
    (hk : cs.length = k) (h : ∀ a', Fr a' n ((d, (.agg cs.toArray)) :: l) → wpList Try.prog ops Q rest a' w) : wpList Try.prog ops Q (o :: rest) a w := sx_val F hw hd hn (load_runA F M ho hx hkt hp hk) h
theorem sx_loadS (F : Fr a n l) (M : Mem w L) (hw : Wanted o ops l = some true) {d : Nat} (hd : o.dst = some d) (hn : Nat.ble (d + 1) n = true) {t : TypeId} {x : Operand} (ho : o.op = .load t x) {b i : Nat} (hx : evl l x = some (.pointer (some ⟨b, i, none⟩))) {k : Nat} (hkt : KT t (some k)) {L' : List Asn} {cs : List Value} {t' : TypeId} (hp : Pull L (pt b cs t') L')
    {ds : List Value} (hds : (cs.drop i).take k = ds) (hk : ds.length = k) (h : ∀ a', Fr a' n ((d, (.agg ds.toArray)) :: l) → wpList Try.prog ops Q rest a' w) : wpList Try.prog ops Q (o :: rest) a w := sx_val F hw hd hn (load_runS F M ho hx hkt hp hds hk) h
theorem setCell_row {b i : Nat} {cs : List Value} {t : TypeId} {v : Value} (h : w.heap[b]? = some (.cells cs.toArray t (0, 0))) : w.setCell ⟨b, i, none⟩ v = w.setRow b (cs.set i v).toArray := by
  rw [setCell_eq_setRow w b i _ t (0, 0) v h]; simp
theorem sx_store (F : Fr a n l) (M : Mem w L) (hw : Wanted o ops l = some true) (hd : o.dst = none) {t : TypeId} {x y : Operand} (ho : o.op = .store t x y) {b i : Nat} (hx : evl l x = some (.pointer (some ⟨b, i, none⟩))) (hkt : KT t none) {v : Value} (hy : evl l y = some v) (hv : v.oneCell' = true)
    {L2 : List Asn} {cs cs' : List Value} {t' : TypeId} (hp : Rep L (pt b cs t') (pt b cs' t') L2) (hc : (cs[i]?).isSome = true) (hs : cs.set i v = cs')
    (h : ∀ w', Mem w' L2 → wpList Try.prog ops Q rest a w') : wpList Try.prog ops Q (o :: rest) a w := by
  obtain ⟨L', h1, _⟩ := hp.both
  subst hs
  obtain ⟨u, hu⟩ := Option.isSome_iff_exists.1 hc
  have h2 := cell_pt M h1 hu
  have h3 := free_pt (i := i) M h1
  refine sx_unit (w' := w.setCell ⟨b, i, none⟩ v) F hw hd ?_ (h _ ?_)
  · unfold execOp
    rw [ho]
    simp [F.eval hx, F.eval hy, Instr.storeAt, Instr.sureAddr, run_storeVar_one h2 h3 hv]
  · rw [setCell_row (M.pt h1)]
    exact M.setRow hp
theorem all_one {cs : List Value} (h : cs.all (·.oneCell') = true) : ∀ v ∈ cs, v.oneCell' = true := fun v hv => List.all_eq_true.1 h v hv
theorem sx_storeA (F : Fr a n l) (M : Mem w L) (hw : Wanted o ops l = some true) (hd : o.dst = none) {t : TypeId} {x y : Operand} (ho : o.op = .store t x y) {b i : Nat} (hx : evl l x = some (.pointer (some ⟨b, i, none⟩))) {k : Nat} (hkt : KT t (some k)) {vs : List Value} (hy : evl l y = some (.agg vs.toArray)) (hk : vs.length = k) (hv : vs.all (·.oneCell') = true)
    {L2 : List Asn} {cs cs' : List Value} {t' : TypeId} (hp : Rep L (pt b cs t') (pt b cs' t') L2) (hc : Nat.ble (i + k) cs.length = true) (hs : cs.take i ++ vs ++ cs.drop (i + k) = cs')
    (h : ∀ w', Mem w' L2 → wpList Try.prog ops Q rest a w') : wpList Try.prog ops Q (o :: rest) a w := by
  obtain ⟨L', h1, _⟩ := hp.both
  subst hs
  have h2 := M.pt h1
  have hle : i + k ≤ cs.length := Nat.le_of_ble_eq_true hc
  refine sx_unit (w' := w.setRow b (cs.take i ++ vs ++ cs.drop (i + k)).toArray) F hw hd ?_ (h _ (M.setRow hp))
  unfold execOp
  rw [ho]
  have h3 := run_storeCells_at (P := Try.prog) b i t' vs 0 cs.toArray w h2 (by simp; omega) (all_one hv)
  simp only [Nat.add_zero] at h3
  rw [hk] at h3
  have hsz : (Value.agg vs.toArray).cells.size = k := by simp [Value.cells, hk]
  simp only [F.eval hx, F.eval hy, Instr.storeAt, Instr.sureAddr, storeVar, Sem.run_bind, Sem.run_pure, Result.andThen_ok, (run_isAgg (t := t) w).2, hsz]
  simp [Value.cells, h3]
theorem sx_storeW (F : Fr a n l) (M : Mem w L) (hw : Wanted o ops l = some true) (hd : o.dst = none) {t : TypeId} {x y : Operand} (ho : o.op = .store t x y) {b : Nat} (hx : evl l x = some (.pointer (some ⟨b, 0, none⟩))) {k : Nat} (hkt : KT t (some k)) {vs : List Value} (hy : evl l y = some (.agg vs.toArray)) (hk : vs.length = k) (hv : vs.all (·.oneCell') = true)
    {L2 : List Asn} {cs : List Value} {t' : TypeId} (hp : Rep L (pt b cs t') (pt b vs t') L2) (hc : Nat.beq cs.length k = true)
    (h : ∀ w', Mem w' L2 → wpList Try.prog ops Q rest a w') : wpList Try.prog ops Q (o :: rest) a w := by
  have hc' : cs.length = k := Nat.eq_of_beq_eq_true hc
  exact sx_storeA F M hw hd ho hx hkt hy hk hv hp (by rw [hc', Nat.zero_add]; exact Nat.ble_eq_true_of_le (Nat.le_refl k)) (by simp [hc']) h
/-! ### Calls -/
theorem run_callFunc (f : FuncId) [hf : FK f] (vs : Array Value) (w : World) : (callFunc f vs).run Try.prog w = .ok (.enter f vs) w := by
  have h := hf.k
  unfold callFunc
  cases hq : Try.prog.funcs[f]? with
  | none => rw [hq] at h; cases h
  | some fn =>
    rw [hq] at h
    simp only [Bool.and_eq_true, Bool.not_eq_true'] at h
    obtain ⟨h1, h2⟩ := h
    have h3 : fn.body.isNone = false := by cases hb : fn.body <;> simp_all
    simp only [Sem.run_bind, program, Sem.run, Result.andThen_ok, hq, h1, h3, Bool.false_eq_true, if_false]
    rfl
theorem sx_call (F : Fr a n l) (hw : Wanted o ops l = some true) {d : Nat} (hd : o.dst = some d) (hn : Nat.ble (d + 1) n = true) {f : Operand} {xs : Array Operand} {ats : Array TypeId} (ho : o.op = .call { callee := .value f, args := xs, argTypes := ats }) {k : FuncId} {caps : Array Value} (hf : evl l f = some (.func (.func k) #[] caps)) (hfk : FK k)
    {vs us : List Value} (hx : evls l xs.toList = some vs) (hu : vs ++ caps.toList = us) {R : Ending → World → Prop} (hc : Calls Try.prog k us.toArray w R)
    (h : ∀ e w', R e w' → ∃ v, e = .returned v ∧ ∀ a', Fr a' n ((d, v) :: l) → wpList Try.prog ops Q rest a' w') : wpList Try.prog ops Q (o :: rest) a w := by
  unfold wpList
  rw [if_pos (F.wanted hw)]
  refine .inl ?_
  unfold Oper.wp execOp
  rw [ho]
  have e1 : xs.map a.eval = vs.toArray := by have := F.evals hx; apply Array.toList_inj.1; simpa using this
  have hrun : (do let d ← resolve a.eval { callee := .value f, args := xs, argTypes := ats } o.type; invoke d.target d.args : Sem Next).run Try.prog w = .ok (.enter k us.toArray) w := by
    rw [Sem.run_bind]
    simp only [resolve, F.eval hf, Deferred.ofValue, Sem.run_pure, Result.andThen_ok, invoke, e1]
    have : #[] ++ vs.toArray ++ caps = us.toArray := by rw [← hu]; simp
    first | rw [this] | (simp only [Array.empty_append] at this ⊢; rw [this])
    exact @run_callFunc k hfk _ w
  rw [hrun]
  exact hc.mono fun e w' hR => by
    obtain ⟨v, rfl, hv⟩ := h e w' hR
    rw [hd]
    exact hv _ (F.put d v hn)
theorem sx_call0 (F : Fr a n l) (hw : Wanted o ops l = some true) (hd : o.dst = none) {f : Operand} {xs : Array Operand} {ats : Array TypeId} (ho : o.op = .call { callee := .value f, args := xs, argTypes := ats }) {k : FuncId} {caps : Array Value} (hf : evl l f = some (.func (.func k) #[] caps)) (hfk : FK k)
    {vs us : List Value} (hx : evls l xs.toList = some vs) (hu : vs ++ caps.toList = us) {R : Ending → World → Prop} (hc : Calls Try.prog k us.toArray w R)
    (h : ∀ e w', R e w' → ∃ v, e = .returned v ∧ wpList Try.prog ops Q rest a w') : wpList Try.prog ops Q (o :: rest) a w := by
  unfold wpList
  rw [if_pos (F.wanted hw)]
  refine .inl ?_
  unfold Oper.wp execOp
  rw [ho]
  have e1 : xs.map a.eval = vs.toArray := by have := F.evals hx; apply Array.toList_inj.1; simpa using this
  have hrun : (do let d ← resolve a.eval { callee := .value f, args := xs, argTypes := ats } o.type; invoke d.target d.args : Sem Next).run Try.prog w = .ok (.enter k us.toArray) w := by
    rw [Sem.run_bind]
    simp only [resolve, F.eval hf, Deferred.ofValue, Sem.run_pure, Result.andThen_ok, invoke, e1]
    have : #[] ++ vs.toArray ++ caps = us.toArray := by rw [← hu]; simp
    first | rw [this] | (simp only [Array.empty_append] at this ⊢; rw [this])
    exact @run_callFunc k hfk _ w
  rw [hrun]
  exact hc.mono fun e w' hR => by
    obtain ⟨v, rfl, hv⟩ := h e w' hR
    rw [hd]
    exact hv
/-! ### Control -/
theorem sx_region {id : Nat} {os : List Oper} (h : wpList Try.prog os.toArray Q os a w) : (Code.region id os.toArray false).wp Try.prog Q a w := wp_region_lit h
section
variable {c : Operand} {x y : Code}
theorem sx_cond_t (F : Fr a n l) (hc : evl l c = some (.bool true)) (h : x.wp Try.prog Q a w) : (Code.cond c x y).wp Try.prog Q a w := wp_cond_true (F.eval hc) h
theorem sx_cond_f (F : Fr a n l) (hc : evl l c = some (.bool false)) (h : y.wp Try.prog Q a w) : (Code.cond c x y).wp Try.prog Q a w := wp_cond_false (F.eval hc) h
theorem sx_cond_d (F : Fr a n l) {p : Prop} [Decidable p] (hc : evl l c = some (.bool (decide p))) (h1 : p → x.wp Try.prog Q a w) (h2 : ¬ p → y.wp Try.prog Q a w) : (Code.cond c x y).wp Try.prog Q a w :=
  wp_cond_split (F.eval hc) (fun h => h1 (of_decide_eq_true h)) (fun h => h2 (of_decide_eq_false h))
theorem sx_cond_dt (F : Fr a n l) {p : Prop} [Decidable p] (hc : evl l c = some (.bool (decide p))) (hp : p) (h1 : x.wp Try.prog Q a w) : (Code.cond c x y).wp Try.prog Q a w := sx_cond_d F hc (fun _ => h1) fun h => absurd hp h
theorem sx_cond_df (F : Fr a n l) {p : Prop} [Decidable p] (hc : evl l c = some (.bool (decide p))) (hp : ¬ p) (h1 : y.wp Try.prog Q a w) : (Code.cond c x y).wp Try.prog Q a w := sx_cond_d F hc (fun h => absurd h hp) fun _ => h1
theorem sx_cond_n (F : Fr a n l) {b : Bool} (hc : evl l c = some (.bool (!b))) (h1 : b = false → x.wp Try.prog Q a w) (h2 : b = true → y.wp Try.prog Q a w) : (Code.cond c x y).wp Try.prog Q a w :=
  wp_cond_split (F.eval hc) (fun h => h1 (by simpa using h)) (fun h => h2 (by simpa using h))
theorem sx_cond_b (F : Fr a n l) {b : Bool} (hc : evl l c = some (.bool b)) (h1 : b = true → x.wp Try.prog Q a w) (h2 : b = false → y.wp Try.prog Q a w) : (Code.cond c x y).wp Try.prog Q a w := wp_cond_split (F.eval hc) h1 h2
end
/-! ### The end -/
inductive Res (L : List Asn) (l : List (Nat × Value)) : ResultVar → Value → Prop where
  | tmp {t : Tmp} {v : Value} : look l t = some v → Res L l (.tmp t) v
  | one {t : Tmp} {ty : TypeId} {b i : Nat} {L' : List Asn} {cs : List Value} {t' : TypeId} {v : Value} : look l t = some (.pointer (some ⟨b, i, none⟩)) → KT ty none → Pull L (pt b cs t') L' → cs[i]? = some v → Res L l (.cell t ty) v
  | agg {t : Tmp} {ty : TypeId} {b k : Nat} {L' : List Asn} {cs : List Value} {t' : TypeId} : look l t = some (.pointer (some ⟨b, 0, none⟩)) → KT ty (some k) → Pull L (pt b cs t') L' → cs.length = k → Res L l (.cell t ty) (.agg cs.toArray)
inductive Ress (L : List Asn) (l : List (Nat × Value)) : List ResultVar → List Value → Prop where
  | nil : Ress L l [] []
  | cons {r : ResultVar} {v : Value} {rs : List ResultVar} {vs : List Value} : Res L l r v → Ress L l rs vs → Ress L l (r :: rs) (v :: vs)
theorem run_mapM_list {α β : Type} (f : α → Sem β) (P : Program) (w : World) : ∀ (xs : List α) (ys : List β), xs.length = ys.length → (∀ (i : Nat) (x : α) (y : β), xs[i]? = some x → ys[i]? = some y → (f x).run P w = .ok y w) → (xs.mapM f).run P w = .ok ys w
  | [], [], _, _ => by simp
  | x :: xs, y :: ys, h, hf => by
    have h1 := hf 0 x y rfl rfl
    have h2 := run_mapM_list f P w xs ys (by simpa using h) fun i x y hx hy => hf (i + 1) x y (by simpa using hx) (by simpa using hy)
    simp [List.mapM_cons, h1, h2]
  | [], _ :: _, h, _ => by simp at h
  | _ :: _, [], h, _ => by simp at h
def tupOf : List Value → Value
  | [v] => v
  | vs => .tuple vs.toArray
def res1 (tmps : Array Value) (r : ResultVar) : Sem Value :=
  match r with
  | .tmp t => pure (tmps.getD t undef)
  | .cell p t => do loadVar t (← asAddr (tmps.getD p undef))
theorem Ress.run {fn : Func} {rs : List ResultVar} {vs : List Value} (F : Fr a n l) (M : Mem w L) (h : Ress L l rs vs) (hf : fn.results = rs.toArray) : (results fn a.tmps).run Try.prog w = .ok (tupOf vs) w := by
  have hlen : rs.length = vs.length := by
    clear hf; induction h with
    | nil => rfl
    | cons _ _ ih => simp [ih]
  have hev : ∀ (i : Nat) (r : ResultVar) (v : Value), rs[i]? = some r → vs[i]? = some v → (res1 a.tmps r).run Try.prog w = .ok v w := by
    clear hf hlen
    induction h with
    | nil => intro i r v h; simp at h
    | cons h1 _ ih =>
      intro i r v hr hv
      cases i with
      | succ i => exact ih i r v (by simpa using hr) (by simpa using hv)
      | zero =>
        simp at hr hv
        subst hr; subst hv
        cases h1 with
        | tmp h => simp only [res1, (F.val _ _ h).2, Sem.run_pure]
        | one h hk hp hc => simp only [res1, (F.val _ _ h).2, asAddr, Sem.run_bind, Sem.run_pure, Result.andThen_ok, run_loadVar_one (cell_pt M hp hc)]
        | agg h hk hp hc => simp only [res1, (F.val _ _ h).2, asAddr, Sem.run_bind, Sem.run_pure, Result.andThen_ok, run_loadVar_agg hc (fun j u hu => by rw [Nat.zero_add]; exact cell_pt M hp hu)]
  have hm := run_mapM_list (res1 a.tmps) Try.prog w rs vs hlen hev
  have e : results fn a.tmps = (do let vs ← rs.toArray.mapM (res1 a.tmps); pure (if h : vs.size = 1 then vs[0] else .tuple vs)) := by
    unfold results; rw [hf]; rfl
  rw [e, List.mapM_toArray, Sem.run_bind]
  have hm2 : (List.toArray <$> List.mapM (res1 a.tmps) rs).run Try.prog w = .ok vs.toArray w := by
    rw [Sem.run_map, hm]; rfl
  rw [hm2]
  simp only [Result.andThen_ok]
  match vs with
  | [] => simp [tupOf]
  | [v] => simp [tupOf]
  | v :: u :: r => simp [tupOf]
theorem sx_end {fn : Func} {R : Ending → World → Prop} {rs : List ResultVar} {vs : List Value} (F : Fr a n l) (M : Mem w L) (hf : fn.results = rs.toArray) (hr : Ress L l rs vs) {v : Value} (hv : tupOf vs = v) (hR : R (.returned v) w) : bodyPost Try.prog fn R .normal a w :=
  bodyPost_end (by rw [hr.run F M hf, hv]) F.ds hR
theorem sx_ret {fn : Func} {R : Ending → World → Prop} {rs : List ResultVar} {vs : List Value} (F : Fr a n l) (M : Mem w L) (hf : fn.results = rs.toArray) (hr : Ress L l rs vs) {v : Value} (hv : tupOf vs = v) (hR : R (.returned v) w) : bodyPost Try.prog fn R .ret a w :=
  bodyPost_ret (by rw [hr.run F M hf, hv]) F.ds hR
end
end Go.Proofs.Ytdlihlfknedpfaa
