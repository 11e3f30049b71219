/- config.Default. -/
import Derived.Test.YtfohgbcjhmmpeaaTypes
import Derived.Deep.WholeRow
namespace Go.Proofs.Ytfohgbcjhmmpeaa
open Go.RowKit
set_option linter.unusedVariables false
def Cfg.deflt : Cfg := ⟨16, 8, 16, 64, 1024, 8, 128, 32, 4, 64, 2, 5, 4, 4, 6, 4, 2, 2, 1, 4⟩
theorem built_cfg (k1 k2 k3 k4 k5 k6 k7 k8 k9 k10 k11 k12 k13 k14 k15 k16 k17 k18 k19 k20 : Int) : Try.prog.built 30 [(0, .int .i64 k1), (1, .int .i64 k2), (2, .int .u64 k3), (3, .int .u64 k4), (4, .int .u64 k5), (5, .int .u64 k6), (6, .int .u64 k7), (7, .int .u64 k8), (8, .int .u64 k9), (9, .int .u64 k10), (10, .int .i64 k11), (11, .int .i64 k12), (12, .int .i64 k13), (13, .int .i64 k14), (14, .int .i64 k15), (15, .int .i64 k16), (16, .int .i64 k17), (17, .int .i64 k18), (18, .int .u64 k19), (19, .int .u64 k20)] = some (Cfg.cells ⟨k1, k2, k3, k4, k5, k6, k7, k8, k9, k10, k11, k12, k13, k14, k15, k16, k17, k18, k19, k20⟩) := by kernel_rfl
theorem wpList_build' {P : Program} {ops : Array Oper} {rest : List Oper} {o : Oper} {a : Act} {w : World} {Q : Exit → Act → World → Prop} (hg : o.guard = none) (t : TypeId) (parts : Array (Nat × Operand)) (ho : o.op = .build t parts)
    (vs : List (Nat × Value)) (hv : (parts.map fun (i, x) => (i, a.eval x)).toList = vs) (cells : Array Value) (hf : P.built t vs = some cells) (h : wpList P ops Q rest (a.put o.dst (.agg cells)) w) : wpList P ops Q (o :: rest) a w :=
  wpList_build hg t parts ho (by rw [hv, hf]; rfl) (by rw [hv, hf]; exact h)
theorem cfg_size (c : Cfg) : (Try.prog.info? 30).map (·.size) = some c.cells.size := by
  have h : (Try.prog.info? 30).map (·.size) = some 20 := by kernel_rfl
  rw [h]; rfl
theorem cfg_one (c : Cfg) : c.cells.all (·.oneCell') = true := by simp [Cfg.cells, Value.oneCell']
theorem cfg_len (c : Cfg) : c.cells.size = 20 := rfl
set_option maxHeartbeats 1000000 in
theorem default_any (w : World) : Calls Try.prog 23 #[] w fun r w' => r = .returned (.agg Cfg.deflt.cells) ∧ Below w.heap.size w w' := by
  have HZ := Lib.hid (cfg_size Cfg.deflt)
  have H1 := Lib.hid (cfg_one Cfg.deflt)
  have HB := Lib.hid (built_cfg 16 8 16 64 1024 8 128 32 4 64 2 5 4 4 6 4 2 2 1 4)
  go_enter Try.func23, Try.ntmps23
  go_step
  go_step
  go_step
  go_step
  go_step
  go_step
  go_step
  go_step
  go_step
  go_step
  go_step
  refine wpList_build' rfl 30 _ rfl [(0, .int .i64 16), (1, .int .i64 8), (2, .int .u64 16), (3, .int .u64 64), (4, .int .u64 1024), (5, .int .u64 8), (6, .int .u64 128), (7, .int .u64 32), (8, .int .u64 4), (9, .int .u64 64), (10, .int .i64 2), (11, .int .i64 5), (12, .int .i64 4), (13, .int .i64 4), (14, .int .i64 6), (15, .int .i64 4), (16, .int .i64 2), (17, .int .i64 2), (18, .int .u64 1), (19, .int .u64 4)] ?_ Cfg.deflt.cells HB.out ?_
  · simp [Act.eval]
  refine wpList_store_row ?_ 30 (.tmp 0) (.tmp 1) ?_ w.heap.size Cfg.deflt.cells ?_ ?_ 30 ?old ?_ HZ.out ?_ H1.out ?_
  case old => exact Cfg.cells ⟨0, 0, 0, 0, 0, 0, 0, 0, 0, 0, 0, 0, 0, 0, 0, 0, 0, 0, 0, 0⟩
  · rfl
  · rfl
  · rfl
  · rfl
  · exact heap_alloc_last w _
  · rfl
  rw [World.setRow_alloc_new]
  go_wp2
  refine bodyPost_ret (v := .agg Cfg.deflt.cells) (results_cell_row rfl _ _ w.heap.size 30 _ (0, 0) _ rfl (heap_alloc_last w _) Try.underlying30 rfl HZ.out) rfl ⟨rfl, ?_⟩
  exact (Below.refl _ _).alloc (Nat.le_refl _) _
end Go.Proofs.Ytfohgbcjhmmpeaa
