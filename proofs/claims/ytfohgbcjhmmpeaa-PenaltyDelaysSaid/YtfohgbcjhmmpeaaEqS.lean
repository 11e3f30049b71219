/- Comparing two structs, whatever their fields. -/
import Derived.Test.YtfohgbcjhmmpeaaTypes
import Derived.Laws.StructEq
import Derived.ChangeKeysEq
import Derived.Laws.CopyOwn
namespace Go.Proofs.Ytfohgbcjhmmpeaa
open Go.RowKit
theorem BlockIs.back {w w' : World} {b : Nat} {c : Array Value} {t : TypeId} (hu : Below w.heap.size w w') (h : BlockIs w b c t) : BlockIs w' b c t := h.below hu h.lt
theorem Below.join2 {a b c : World} (k : Below b.heap.size b c) (h : Below a.heap.size a b) : Below a.heap.size a c := h.trans (k.mono h.size)
theorem Below.alloc2 {a b : World} (h : Below a.heap.size a b) (o : Obj) : Below a.heap.size a (b.alloc o) := h.alloc h.size o
theorem BlockIs.setRow {w : World} {g : Nat} {c c' : Array Value} {t : TypeId} (h : BlockIs w g c t) : BlockIs (w.setRow g c') g c' t := by
  unfold BlockIs at *
  simp [World.setRow, Array.getElem?_modify, h]
theorem BlockIs.setRow_other {w : World} {b g : Nat} {c c' : Array Value} {t : TypeId} (hne : b ≠ g) (h : BlockIs w b c t) : BlockIs (w.setRow g c') b c t := by
  unfold BlockIs at *
  simp [World.setRow, Array.getElem?_modify, h, Ne.symm hne]
theorem Below.setRow2 {a b : World} {g : Nat} {c : Array Value} (hg : a.heap.size ≤ g) (h : Below a.heap.size a b) : Below a.heap.size a (b.setRow g c) := below_setRow h hg c
theorem wpList_store_val' {ops : Array Oper} {rest : List Oper} {o : Oper} {a : Act} {w : World} {Q : Exit → Act → World → Prop} (x y : Operand) {g : Nat} {cells old : Array Value} {t : TypeId} (ho : o.op = .store 28 x y) (hgd : o.guard = none)
    (hx : a.eval x = .pointer (some ⟨g, 0, none⟩)) (hy : a.eval y = .agg cells) (hb : BlockIs w g old t) (hc : IsVal cells) (hold : IsVal old)
    (h : wpList Try.prog ops Q rest (a.put o.dst undef) (w.setRow g cells)) : wpList Try.prog ops Q (o :: rest) a w :=
  wpList_store_row hgd _ x y ho g cells hx hy t old hb (by rw [info_val, hc.1]) (by rw [hc.1, hold.1]) hc.2 h
def EqFs (P : Program) (d : Nat) (xs ys : Array Value) (w : World) : List Field → List Bool → Prop
  | [], [] => True
  | f :: fs, r :: rs => (f.name ≠ "_" ∧ P.plainKey f.type = true ∧ ∃ x y, xs[f.offset]? = some x ∧ ys[f.offset]? = some y ∧ (Op.equalIn d f.type x y).run P w = .ok r w) ∧ EqFs P d xs ys w fs rs
  | _, _ => False
theorem run_eqFields_all {P : Program} {d : Nat} {xs ys : Array Value} {w : World} : ∀ {fs : List Field} {rs : List Bool}, EqFs P d xs ys w fs rs → (Op.eqFields d xs ys fs).run P w = .ok (rs.all id) w
  | [], [], _ => by simp [Op.eqFields]
  | f :: fs, r :: rs, h => by
    obtain ⟨⟨hn, hp, x, y, hx, hy, he⟩, h2⟩ := h
    have ih := run_eqFields_all h2
    simp only [Op.eqFields, if_pos hn, Sem.run_bind, run_part_plain w hp hx, run_part_plain w hp hy, Result.andThen_ok, he]
    cases r
    · simp
    · simp only [Bool.not_true, Bool.false_eq_true, if_false, ih]
      simp
  | [], _ :: _, h => h.elim
  | _ :: _, [], h => h.elim
theorem run_equal_struct {P : Program} {d : Nat} {xs ys : Array Value} {w : World} {t : TypeId} {fs : Array Field} {rs : List Bool} (ht : P.underlying t = some (.struct fs)) (hp : P.stoodInHeld t = false) (h : EqFs P d xs ys w fs.toList rs) :
    (Op.equalIn (d + 1) t (.agg xs) (.agg ys)).run P w = .ok (rs.all id) w := by
  have hf : P.fieldsOf t = fs := by simp [Program.fieldsOf, ht]
  rw [run_equalIn_struct w d t xs ys (by rw [hf]; exact ht) hp, hf]
  exact run_eqFields_all h
/-- '==' and '!=' of two structs, as operations. -/
theorem wpList_eql_agg {P : Program} {ops : Array Oper} {rest : List Oper} {o : Oper} {a : Act} {w : World} {Q : Exit → Act → World → Prop} (x y : Operand) (t ty : TypeId) (r : Bool) {cs ds : Array Value}
    (ho : o.op = .binOp .eql t x y ty) (hw : Region.wanted o (yielded ops a.tmps) = true)
    (hx : a.eval x = .agg cs) (hy : a.eval y = .agg ds) (hm : P.eqGuardType P.depth t = false) (hr : (Op.equalIn 10000 t (.agg cs) (.agg ds)).run P w = .ok r w)
    (h : wpList P ops Q rest (a.put o.dst (.bool r)) w) : wpList P ops Q (o :: rest) a w :=
  BigFrame.wpList_want hw fun _ hK => by
    unfold Oper.wp execOp
    simp only [ho, hx, hy, Sem.run_bind, run_eqGuard_agg w .eql t x y cs ds hm, Result.andThen_ok, run_eql_struct w t cs ds, hr, Sem.run_pure]
    exact hK _ _ h
theorem wpList_neq_agg {P : Program} {ops : Array Oper} {rest : List Oper} {o : Oper} {a : Act} {w : World} {Q : Exit → Act → World → Prop} (x y : Operand) (t ty : TypeId) (r : Bool) {cs ds : Array Value}
    (ho : o.op = .binOp .neq t x y ty) (hw : Region.wanted o (yielded ops a.tmps) = true)
    (hx : a.eval x = .agg cs) (hy : a.eval y = .agg ds) (hm : P.eqGuardType P.depth t = false) (hr : (Op.equalIn 10000 t (.agg cs) (.agg ds)).run P w = .ok r w)
    (h : wpList P ops Q rest (a.put o.dst (.bool (!r))) w) : wpList P ops Q (o :: rest) a w :=
  BigFrame.wpList_want hw fun _ hK => by
    unfold Oper.wp execOp
    simp only [ho, hx, hy, Sem.run_bind, run_eqGuard_agg w .neq t x y cs ds hm, Result.andThen_ok, run_neq_struct w t cs ds, hr, Sem.run_pure]
    exact hK _ _ h
def veq (v u : Val) : Bool := [v.bal == u.bal, v.st == u.st, v.sl == u.sl, v.rq == u.rq, v.ex == u.ex, v.wd == u.wd, v.dl == u.dl].all id
theorem veq_refl (v : Val) : veq v v = true := by simp [veq]
theorem eqs_int {d : Nat} {t : TypeId} {k : IntKind} {xs ys : Array Value} {w : World} {n : Nat} {a b : Int} (h : Try.prog.underlying t = some (.int k)) (hx : xs[n]? = some (.int k a)) (hy : ys[n]? = some (.int k b)) :
    ∃ x y, xs[n]? = some x ∧ ys[n]? = some y ∧ (Op.equalIn (d + 1) t x y).run Try.prog w = .ok (a == b) w := ⟨_, _, hx, hy, run_equalIn_int w d t k k a b h⟩
theorem eqs_bool {d : Nat} {t : TypeId} {xs ys : Array Value} {w : World} {n : Nat} {a b : Bool} (h : Try.prog.underlying t = some .bool) (hx : xs[n]? = some (.bool a)) (hy : ys[n]? = some (.bool b)) :
    ∃ x y, xs[n]? = some x ∧ ys[n]? = some y ∧ (Op.equalIn (d + 1) t x y).run Try.prog w = .ok (a == b) w := ⟨_, _, hx, hy, run_equalIn_bool' w d t a b h⟩
theorem run_equalIn_val (v u : Val) (w : World) : (Op.equalIn 10000 28 (.agg v.cells) (.agg u.cells)).run Try.prog w = .ok (veq v u) w := by
  obtain ⟨a1, a2, a3, a4, a5, a6, a7⟩ := v
  obtain ⟨b1, b2, b3, b4, b5, b6, b7⟩ := u
  refine run_equal_struct (d := 9999) Try.underlying28 (by kernel_rfl) ?_
  exact ⟨⟨by decide, by kernel_rfl, eqs_int Try.underlying22 rfl rfl⟩, ⟨by decide, by kernel_rfl, eqs_int Try.underlying3 rfl rfl⟩, ⟨by decide, by kernel_rfl, eqs_bool Try.underlying4 rfl rfl⟩, ⟨by decide, by kernel_rfl, eqs_int Try.underlying3 rfl rfl⟩, ⟨by decide, by kernel_rfl, eqs_int Try.underlying3 rfl rfl⟩, ⟨by decide, by kernel_rfl, eqs_int Try.underlying3 rfl rfl⟩, ⟨by decide, by kernel_rfl, eqs_int Try.underlying3 rfl rfl⟩, trivial⟩
theorem guard_val : Try.prog.eqGuardType Try.prog.depth 28 = false := by kernel_rfl
end Go.Proofs.Ytfohgbcjhmmpeaa
