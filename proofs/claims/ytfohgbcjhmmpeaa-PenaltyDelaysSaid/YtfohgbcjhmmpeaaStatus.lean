/- Contracts of package status. -/
import Derived.Test.YtfohgbcjhmmpeaaMapLaw
namespace Go.Proofs.Ytfohgbcjhmmpeaa
open Go.RowKit Go.Maps
theorem laidOutP : laidOutB Try.prog = true := by kernel_rfl
theorem stepKeyed : Keyed Try.prog 83 := Keyed.of_law (deep_law_laid laidOutP (m := 3) (by decide) (of_decide_eq_true (by kernel_rfl)) (by kernel_rfl) (by kernel_rfl))
def stepV (a b : Int) : Value := .agg #[.int .i64 a, .int .i64 b]
theorem stepKey (a b : Int) (ha : (Lit.int .i64 a).wf = true) (hb : (Lit.int .i64 b).wf = true) : ∃ l, keyOf Try.prog 83 (stepV a b) = some l := by
  have h1 : Program.keyType Try.prog 83 = true := by kernel_rfl
  have h2 : (stepV a b).formed Try.prog 83 = true := by kernel_rfl
  have h3 : Try.prog.keyLits (Try.prog.types.size + 1) 83 (stepV a b).cells.toList = some [.int .i64 a, .int .i64 b] := by
    have c1 : Try.prog.cellsOf 83 = 2 := by kernel_rfl
    have c2 : Try.prog.cellsOf 3 = 1 := by kernel_rfl
    have fuel : ∃ n, Try.prog.types.size + 1 = n + 2 := ⟨Try.prog.types.size - 1, by have : Try.prog.types.size ≠ 0 := (by decide +kernel : Try.prog.types.size ≠ 0); omega⟩
    obtain ⟨n, hn⟩ := fuel
    rw [hn]
    simp [Program.keyLits, Try.underlying83, Try.underlying3, stepV, Value.cells, c1, c2, ha, hb, List.mapM_cons]
  refine ⟨.string (keyBytes [.int .i64 a, .int .i64 b]), ?_⟩
  unfold keyOf
  rw [Try.underlying83]
  simp only [h1, h2, h3, Bool.and_self, if_true, Option.map_some]
theorem wf_small (n : Int) (h0 : 0 ≤ n) (h1 : n ≤ 100) : (Lit.int .i64 n).wf = true := WalkArith.wf_i64 (by omega)
theorem run_build_step (A : Act) (o : Oper) (a b : Int) (ho : o.op = .build 83 #[(0, .const (.int .i64 a)), (1, .const (.int .i64 b))]) (w' : World) : (execOp A.eval o).run Try.prog w' = .ok (.value (stepV a b)) w' := by
  have hb : Try.prog.built 83 [(0, .int .i64 a), (1, .int .i64 b)] = some #[.int .i64 a, .int .i64 b] := by kernel_rfl
  unfold execOp
  simp only [ho]
  simp [Act.eval, run_build w' _ _ _ hb, stepV]
def stepMap : List (Value × Value) := [(stepV 1 1, .int .i64 2), (stepV 2 2, .int .i64 3), (stepV 3 3, .int .i64 4), (stepV 4 4, .int .i64 5), (stepV 5 5, .int .i64 6), (stepV 2 6, .int .i64 7), (stepV 2 7, .int .i64 3), (stepV 3 7, .int .i64 3), (stepV 4 7, .int .i64 4), (stepV 5 7, .int .i64 4)]
def stepKs : List Lk := .make :: (stepMap.flatMap fun p => [.val, .ins p.1 p.2]) ++ [.val, .val]
set_option maxHeartbeats 1000000 in
theorem table_any (w : World) :
    Calls Try.prog 49 #[] w fun e w' => e = .returned (.map (some w.heap.size)) ∧ Below w.heap.size w w' ∧ MapIs Try.prog 83 w' w.heap.size stepMap := by
  go_enter Try.func49, Try.ntmps49
  go_wp2_with fail
  refine wp_region_map Try.underlying80 stepKeyed 1 0 stepKs #[.map (some w.heap.size), .map (some w.heap.size), stepV 1 1, stepV 2 2, stepV 3 3, stepV 4 4, stepV 5 5, stepV 2 6, stepV 2 7, stepV 3 7, stepV 4 7, stepV 5 7, .map (some w.heap.size)] (by kernel_rfl) (by kernel_rfl) (by kernel_rfl) rfl ?_ rfl ?_ ?_ (by decide) ?_
  · exact rest_of [(0, .map (some w.heap.size)), (1, .map (some w.heap.size)), (2, stepV 1 1), (3, stepV 2 2), (4, stepV 3 3), (5, stepV 4 4), (6, stepV 5 5), (7, stepV 2 6), (8, stepV 2 7), (9, stepV 3 7), (10, stepV 4 7), (11, stepV 5 7), (12, .map (some w.heap.size))] (by kernel_rfl) [0, 1, 2, 3, 4, 5, 6, 7, 8, 9, 10, 11, 12] rfl (by kernel_rfl)
  · have val : ∀ {o : Oper} {v : Value} {d : Tmp} {A : Act} {i : Nat}, o.guard = none → o.dst = some d → v = A.tmps.getD d undef → (∀ w', (execOp A.eval o).run Try.prog w' = .ok (.value v) w') → i ≠ 0 → LitOp Try.prog A 1 80 83 0 o .val ∧ (Lk.val = .make ↔ i = 0) :=
      fun h1 h2 h3 h4 h5 => ⟨⟨h1, _, fun d hd => (by rw [h2] at hd; cases hd; exact h3), h4⟩, by simp [h5]⟩
    have ins : ∀ {o : Oper} {k v : Value} {kx vx : Operand} {A : Act} {i : Nat}, o.op = .insert 80 (.tmp 1) kx vx → o.dst = none → o.guard = none → A.eval kx = k → A.eval vx = v → (o.after.toList.any fun e => Region.binds .any e && e.on == 0) = true → (∃ l, keyOf Try.prog 83 k = some l) → i ≠ 0 →
        LitOp Try.prog A 1 80 83 0 o (.ins k v) ∧ (Lk.ins k v = .make ↔ i = 0) := fun h1 h2 h3 h4 h5 h6 h7 h8 => ⟨⟨_, _, h1, h2, h3, h4, h5, h6, h7⟩, by simp [h8]⟩
    refine ⟨⟨⟨rfl, rfl, rfl⟩, by simp⟩, ?_⟩
    iterate 10 refine ⟨val rfl rfl rfl (run_build_step _ _ _ _ rfl) (by omega), ⟨ins rfl rfl rfl rfl rfl (by kernel_rfl) (stepKey _ _ (wf_small _ (by omega) (by omega)) (wf_small _ (by omega) (by omega))) (by omega), ?_⟩⟩
    exact ⟨val rfl rfl rfl (fun w' => rfl) (by omega), ⟨val rfl rfl rfl (fun w' => rfl) (by omega), trivial⟩⟩
  · show (stepMap.map (·.1)).Nodup
    simp [stepMap, stepV]
  · intro w' hb hs hM
    go_wp2
    go_ret
    exact ⟨rfl, hb, hM⟩
/-- The status after an event, or 0. -/
def nextF (s e : Int) : Int :=
  if e = 7 then (if s = 2 ∨ s = 3 then 3 else if s = 4 ∨ s = 5 then 4 else 0)
  else if e = 6 ∧ s = 2 then 7
  else if 1 ≤ e ∧ e ≤ 5 ∧ s = e then s + 1 else 0
theorem step_in {s e : Int} (h : nextF s e ≠ 0) : (stepV s e, .int .i64 (nextF s e)) ∈ stepMap := by
  unfold nextF at *
  by_cases h7 : e = 7
  · subst h7
    rw [if_pos rfl] at *
    by_cases h1 : s = 2 ∨ s = 3
    · rw [if_pos h1]; rcases h1 with rfl | rfl <;> simp [stepMap]
    · rw [if_neg h1] at *
      by_cases h2 : s = 4 ∨ s = 5
      · rw [if_pos h2]; rcases h2 with rfl | rfl <;> simp [stepMap]
      · rw [if_neg h2] at h; exact absurd rfl h
  · rw [if_neg h7] at *
    by_cases h6 : e = 6 ∧ s = 2
    · rw [if_pos h6]; obtain ⟨rfl, rfl⟩ := h6; simp [stepMap]
    · rw [if_neg h6] at *
      by_cases h5 : 1 ≤ e ∧ e ≤ 5 ∧ s = e
      · rw [if_pos h5]
        obtain ⟨h1, h2, rfl⟩ := h5
        have : s = 1 ∨ s = 2 ∨ s = 3 ∨ s = 4 ∨ s = 5 := by omega
        rcases this with rfl | rfl | rfl | rfl | rfl <;> simp [stepMap]
      · rw [if_neg h5] at h; exact absurd rfl h
theorem step_out {s e : Int} (h : nextF s e = 0) : ∀ p ∈ stepMap, p.1 ≠ stepV s e := by
  intro p hp hk
  have hcase : (s = 1 ∧ e = 1) ∨ (s = 2 ∧ e = 2) ∨ (s = 3 ∧ e = 3) ∨ (s = 4 ∧ e = 4) ∨ (s = 5 ∧ e = 5) ∨ (s = 2 ∧ e = 6) ∨ (s = 2 ∧ e = 7) ∨ (s = 3 ∧ e = 7) ∨ (s = 4 ∧ e = 7) ∨ (s = 5 ∧ e = 7) := by
    simp only [stepMap, List.mem_cons, List.not_mem_nil, or_false] at hp
    rcases hp with rfl | rfl | rfl | rfl | rfl | rfl | rfl | rfl | rfl | rfl <;> simp [stepV] at hk <;> omega
  rcases hcase with ⟨rfl, rfl⟩ | ⟨rfl, rfl⟩ | ⟨rfl, rfl⟩ | ⟨rfl, rfl⟩ | ⟨rfl, rfl⟩ | ⟨rfl, rfl⟩ | ⟨rfl, rfl⟩ | ⟨rfl, rfl⟩ | ⟨rfl, rfl⟩ | ⟨rfl, rfl⟩ <;> simp [nextF] at h
set_option maxHeartbeats 1000000 in
theorem next_status (s e : Int) (hs : (Lit.int .i64 s).wf = true) (he : (Lit.int .i64 e).wf = true) (w : World) :
    Calls Try.prog 43 #[.int .i64 s, .int .i64 e] w fun r w' => r = .returned (.tuple #[.int .i64 (nextF s e), .bool (nextF s e != 0)]) ∧ Below w.heap.size w w' := by
  obtain ⟨l, hl⟩ := stepKey s e hs he
  have HLK : Hid (∀ w1 b, MapIs Try.prog 83 w1 b stepMap → (Instr.lookup 80 (.map (some b)) (.agg #[.int .i64 s, .int .i64 e]) true).run Try.prog w1 = .ok (.tuple #[.int .i64 (nextF s e), .bool (nextF s e != 0)]) w1) := fun w1 b hM => by
    by_cases h : nextF s e = 0
    · have := run_lookup_miss (z := .int .i64 0) Try.underlying80 stepKeyed hl hM (step_out h) (by kernel_rfl) true
      rw [h]; exact this
    · have := run_lookup_hit Try.underlying80 stepKeyed hl hM (step_in h) true
      rw [show (nextF s e != 0) = true by simpa using h]; exact this
  generalize nextF s e = x at *
  clear hl hs he
  go_enter Try.func43, Try.ntmps43
  go_wp2_with fail
  refine (table_any _).mono ?_
  rintro r w1 ⟨rfl, hb, hM⟩
  have hlk := HLK.out w1 _ hM
  go_wp2_with fail
  go_ret2
  exact ⟨rfl, hb⟩
end Go.Proofs.Ytfohgbcjhmmpeaa
