/- Validators and configurations as values, and in memory. -/
import Derived.Test.YtfohgbcjhmmpeaaBase
import Derived.Deep.WholeRow
import Derived.BigFrame
namespace Go.Proofs.Ytfohgbcjhmmpeaa
open Go.RowKit
/-- A validator. -/
structure Val where
  bal : Int
  st : Int
  sl : Bool
  rq : Int
  ex : Int
  wd : Int
  dl : Int
def Val.cells (v : Val) : Array Value := #[.int .u64 v.bal, .int .i64 v.st, .bool v.sl, .int .i64 v.rq, .int .i64 v.ex, .int .i64 v.wd, .int .i64 v.dl]
def Val.zero : Val := ⟨0, 0, false, 0, 0, 0, 0⟩
def Val.wf (v : Val) : Prop := (0 ≤ v.bal ∧ v.bal ≤ 18446744073709551615) ∧ (Lit.int .i64 v.st).wf = true ∧ (Lit.int .i64 v.rq).wf = true ∧ (Lit.int .i64 v.ex).wf = true ∧ (Lit.int .i64 v.wd).wf = true ∧ (Lit.int .i64 v.dl).wf = true
/-- The cells of a validator in block b, and that they may be written. -/
def VFacts (w : World) (b : Nat) (bal st rq ex wd dl : Int) (sl : Bool) : Prop :=
  w.cell? ⟨b, 0, none⟩ = some (.int .u64 bal) ∧ w.cell? ⟨b, 1, none⟩ = some (.int .i64 st) ∧ w.cell? ⟨b, 2, none⟩ = some (.bool sl) ∧ w.cell? ⟨b, 3, none⟩ = some (.int .i64 rq) ∧ w.cell? ⟨b, 4, none⟩ = some (.int .i64 ex) ∧ w.cell? ⟨b, 5, none⟩ = some (.int .i64 wd) ∧ w.cell? ⟨b, 6, none⟩ = some (.int .i64 dl) ∧
  w.frozen? ⟨b, 0, none⟩ = false ∧ w.frozen? ⟨b, 1, none⟩ = false ∧ w.frozen? ⟨b, 2, none⟩ = false ∧ w.frozen? ⟨b, 3, none⟩ = false ∧ w.frozen? ⟨b, 4, none⟩ = false ∧ w.frozen? ⟨b, 5, none⟩ = false ∧ w.frozen? ⟨b, 6, none⟩ = false
theorem vfacts {w : World} {b : Nat} {bal st rq ex wd dl : Int} {sl : Bool} (h : BlockIs w b (Val.cells ⟨bal, st, sl, rq, ex, wd, dl⟩) 28) : VFacts w b bal st rq ex wd dl sl :=
  ⟨h.cell (i := 0) rfl, h.cell (i := 1) rfl, h.cell (i := 2) rfl, h.cell (i := 3) rfl, h.cell (i := 4) rfl, h.cell (i := 5) rfl, h.cell (i := 6) rfl, h.free 0, h.free 1, h.free 2, h.free 3, h.free 4, h.free 5, h.free 6⟩
theorem Upd.drew {S : List Nat} {a w : World} (h : Upd S a w) : Upd S a w.drew := ⟨h.os, h.tape, h.output, h.size, h.block⟩
theorem BlockIs.drew {w : World} {b : Nat} {c : Array Value} {t : TypeId} (h : BlockIs w b c t) : BlockIs w.drew b c t := h
theorem BlockIs.other {w : World} {b : Nat} {c : Array Value} {t : TypeId} (h : BlockIs w b c t) {b' : Nat} (hne : b ≠ b') (i : Nat) (v : Value) : BlockIs (w.setCell ⟨b', i, none⟩ v) b c t :=
  h.of (Below.heap_setCell _ _ _ _ hne)
theorem BlockIs.new' {w : World} {n : Nat} {c : Array Value} {t : TypeId} (h : n = w.heap.size) : BlockIs (w.alloc (.cells c t)) n c t := by subst h; exact BlockIs.new w c t
/-- A configuration. -/
structure Cfg where
  capacity : Int
  queueSize : Int
  minDeposit : Int
  maxDeposit : Int
  supplyCap : Int
  minBalance : Int
  maxBalance : Int
  minChurn : Int
  quotient : Int
  forcedCap : Int
  unbonding : Int
  slashDelay : Int
  ringLen : Int
  epochLen : Int
  visits : Int
  payments : Int
  partials : Int
  merges : Int
  penNum : Int
  penDen : Int
def Cfg.cells (c : Cfg) : Array Value := #[.int .i64 c.capacity, .int .i64 c.queueSize, .int .u64 c.minDeposit, .int .u64 c.maxDeposit, .int .u64 c.supplyCap, .int .u64 c.minBalance, .int .u64 c.maxBalance, .int .u64 c.minChurn, .int .u64 c.quotient, .int .u64 c.forcedCap,
  .int .i64 c.unbonding, .int .i64 c.slashDelay, .int .i64 c.ringLen, .int .i64 c.epochLen, .int .i64 c.visits, .int .i64 c.payments, .int .i64 c.partials, .int .i64 c.merges, .int .u64 c.penNum, .int .u64 c.penDen]
def Cfg.ints (c : Cfg) : List Int := [c.capacity, c.queueSize, c.unbonding, c.slashDelay, c.ringLen, c.epochLen, c.visits, c.payments, c.partials, c.merges]
def Cfg.amounts (c : Cfg) : List Int := [c.minDeposit, c.maxDeposit, c.supplyCap, c.minBalance, c.maxBalance, c.minChurn, c.quotient, c.forcedCap, c.penNum, c.penDen]
def Cfg.wf (c : Cfg) : Prop := (∀ x ∈ c.ints, (Lit.int .i64 x).wf = true) ∧ ∀ x ∈ c.amounts, 0 ≤ x ∧ x ≤ 18446744073709551615
/-! ### Whole rows -/
theorem BlockIs.below_all {w w' : World} {b : Nat} {c : Array Value} {t : TypeId} (h : BlockIs w b c t) (hu : Below w.heap.size w w') : BlockIs w' b c t := h.below hu h.lt
theorem Below.join {a b c : World} (h : Below a.heap.size a b) (k : Below b.heap.size b c) : Below a.heap.size a c := h.trans (k.mono h.size)
theorem wpList_store_new {P : Program} {ops : Array Oper} {rest : List Oper} {o : Oper} {a : Act} {w : World} {Q : Exit → Act → World → Prop} (hgd : o.guard = none) (ty : TypeId) (x y : Operand) (ho : o.op = .store ty x y)
    {g : Nat} {cells old : Array Value} {t : TypeId} (hx : a.eval x = .pointer (some ⟨g, 0, none⟩)) (hy : a.eval y = .agg cells) (hg : g = w.heap.size) (hi : (P.info? ty).map (·.size) = some cells.size)
    (hold : old.size = cells.size) (h1 : cells.all (·.oneCell') = true) (h : wpList P ops Q rest (a.put o.dst undef) (w.alloc (.cells cells t))) : wpList P ops Q (o :: rest) a (w.alloc (.cells old t)) :=
  wpList_store_row hgd ty x y ho g cells hx hy t old (by rw [hg]; exact heap_alloc_last w _) hi hold h1 (by rw [hg, World.setRow_alloc_new]; exact h)
/-- The cells of a validator. -/
def IsVal (c : Array Value) : Prop := c.size = 7 ∧ c.all (·.oneCell') = true
theorem isVal (v : Val) : IsVal v.cells := ⟨rfl, by simp [Val.cells, Value.oneCell']⟩
theorem isVal_lit (x1 x2 x4 x5 x6 x7 : Int) (x3 : Bool) : IsVal #[.int .u64 x1, .int .i64 x2, .bool x3, .int .i64 x4, .int .i64 x5, .int .i64 x6, .int .i64 x7] := ⟨rfl, by simp [Value.oneCell']⟩
theorem info_val : (Try.prog.info? 28).map (·.size) = some 7 := by kernel_rfl
theorem wpList_store_val {ops : Array Oper} {rest : List Oper} {o : Oper} {a : Act} {w : World} {Q : Exit → Act → World → Prop} (x y : Operand) (ho : o.op = .store 28 x y) (hgd : o.guard = none)
    {g : Nat} {cells old : Array Value} {t : TypeId} (hx : a.eval x = .pointer (some ⟨g, 0, none⟩)) (hy : a.eval y = .agg cells) (hg : g = w.heap.size) (hc : IsVal cells) (hold : IsVal old)
    (h : wpList Try.prog ops Q rest (a.put o.dst undef) (w.alloc (.cells cells t))) : wpList Try.prog ops Q (o :: rest) a (w.alloc (.cells old t)) :=
  wpList_store_new hgd _ x y ho hx hy hg (by rw [info_val, hc.1]) (by rw [hc.1, hold.1]) hc.2 h
theorem wpList_load_val {ops : Array Oper} {rest : List Oper} {o : Oper} {a : Act} {w : World} {Q : Exit → Act → World → Prop} (x : Operand) (ho : o.op = .load 28 x) (hw : Region.wanted o (yielded ops a.tmps) = true)
    {g : Nat} {cells : Array Value} {t : TypeId} (hx : a.eval x = .pointer (some ⟨g, 0, none⟩)) (hb : BlockIs w g cells t) (hc : IsVal cells)
    (h : wpList Try.prog ops Q rest (a.put o.dst (.agg cells)) w) : wpList Try.prog ops Q (o :: rest) a w :=
  BigFrame.wpList_want hw fun _ hK => wp_load_row _ x ho g hx t cells (0, 0) _ hb Try.underlying28 rfl (by rw [info_val, hc.1]) (hK _ _ h)
def IsCfg (c : Array Value) : Prop := c.size = 20 ∧ c.all (·.oneCell') = true
theorem isCfg (c : Cfg) : IsCfg c.cells := ⟨rfl, by simp [Cfg.cells, Value.oneCell']⟩
theorem info_cfg : (Try.prog.info? 30).map (·.size) = some 20 := by kernel_rfl
theorem wpList_load_cfg {ops : Array Oper} {rest : List Oper} {o : Oper} {a : Act} {w : World} {Q : Exit → Act → World → Prop} (x : Operand) (ho : o.op = .load 30 x) (hgd : o.guard = none)
    {g : Nat} {cells : Array Value} {t : TypeId} (hx : a.eval x = .pointer (some ⟨g, 0, none⟩)) (hb : BlockIs w g cells t) (hc : IsCfg cells)
    (h : wpList Try.prog ops Q rest (a.put o.dst (.agg cells)) w) : wpList Try.prog ops Q (o :: rest) a w :=
  wpList_load_row hgd _ x ho g hx t cells (0, 0) _ hb Try.underlying30 rfl (by rw [info_cfg, hc.1]) h
end Go.Proofs.Ytfohgbcjhmmpeaa
