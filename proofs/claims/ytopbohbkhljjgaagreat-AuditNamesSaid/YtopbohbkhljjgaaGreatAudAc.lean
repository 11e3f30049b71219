import Derived.Test.YtopbohbkhljjgaaGreatAudAb
section
namespace Go.Proofs.YtopbohbkhljjgaaGreat
open Go.RowKit
set_option linter.unusedVariables false
def bt (n lo hi : Int) : Bool := decide (lo ≤ n) && decide (n ≤ hi)
theorem ret_b {p q : Bool} (h : p = q) : Ending.returned (.bool p) = .returned (.bool q) := by rw [h]
set_option maxHeartbeats 1000000 in
theorem between_any (n lo hi : Int) (w : World) : Calls Tryz.prog 103 #[.int .i64 n, .int .i64 lo, .int .i64 hi] w fun r w' => r = .returned (.bool (bt n lo hi)) ∧ w = w' := by
  by_cases h : lo ≤ n
  · have HI : Hid (bt n lo hi = decide (n ≤ hi)) := by simp [Hid, bt, h]
    have hd : decide (lo ≤ n) = true := by simpa using h
    go_enter Tryz.func103, Tryz.ntmps103
    go_wp2
    go_ret
    exact ⟨ret_b HI.out.symm, rfl⟩
  · have HI : Hid (bt n lo hi = false) := by simp [Hid, bt, h]
    have hd : decide (lo ≤ n) = false := by simpa using h
    go_enter Tryz.func103, Tryz.ntmps103
    go_wp2
    go_ret
    exact ⟨ret_b HI.out.symm, rfl⟩
def fieldB (c : Cfg) : Nat → Bool
  | 1 => bt c.capacity 1 4096
  | 2 => bt c.queueSize 1 4096
  | 3 => decide (1 ≤ c.minDeposit)
  | 4 => decide (c.minDeposit ≤ c.maxDeposit)
  | 5 => decide (c.maxDeposit ≤ c.supplyCap) && decide (c.supplyCap ≤ 1152921504606846976)
  | 6 => decide (1 ≤ c.minBalance) && decide (c.minBalance ≤ c.minDeposit)
  | 7 => decide (c.maxDeposit ≤ c.maxBalance) && decide (c.maxBalance ≤ c.supplyCap)
  | 8 => decide (1 ≤ c.minChurn) && decide (c.minChurn ≤ 1152921504606846976)
  | 9 => decide (1 ≤ c.quotient)
  | 10 => decide (c.forcedCap ≤ 1152921504606846976)
  | 11 => bt c.unbonding 1 1048576
  | 12 => decide (c.unbonding < c.slashDelay) && decide (c.slashDelay ≤ 1048576)
  | 13 => bt c.ringLen 1 4096
  | 14 => bt c.epochLen 1 4096
  | 15 => bt c.visits 1 4096
  | 16 => bt c.payments 1 4096
  | 17 => decide (0 ≤ c.partials) && decide (c.partials < c.visits) && decide (c.partials < c.payments)
  | 18 => bt c.merges 0 4096
  | 19 => decide (c.penNum ≤ c.penDen)
  | 20 => decide (1 ≤ c.penDen) && decide (c.penDen ≤ 4294967296)
  | _ => true
set_option maxHeartbeats 1000000
set_option maxRecDepth 100000
theorem right_1 (c : Cfg) (w : World) : Calls Tryz.prog 48 #[.agg c.cells, .int .i64 1] w fun r w' => r = .returned (.bool (fieldB c 1)) ∧ Below w.heap.size w w' := by
  have HI : Hid (fieldB c 1 = bt c.capacity 1 4096) := rfl; obtain ⟨k1, k2, k3, k4, k5, k6, k7, k8, k9, k10, k11, k12, k13, k14, k15, k16, k17, k18, k19, k20⟩ := c; unfold Cfg.cells; (try simp only [] at *); go_enter Tryz.func48, Tryz.ntmps48; go_wp2_with (go_at_call 103; refine (between_any _ _ _ _).mono ?_; rintro r w1 ⟨rfl, rfl⟩); go_ret; exact ⟨ret_b HI.out.symm, by (repeat (with_reducible first | exact Below.refl _ _ | refine Below.drew ?_ | refine Below.alloc ?_ (by first | omega | (simp <;> omega)) _))⟩
theorem right_2 (c : Cfg) (w : World) : Calls Tryz.prog 48 #[.agg c.cells, .int .i64 2] w fun r w' => r = .returned (.bool (fieldB c 2)) ∧ Below w.heap.size w w' := by
  have HI : Hid (fieldB c 2 = bt c.queueSize 1 4096) := rfl; obtain ⟨k1, k2, k3, k4, k5, k6, k7, k8, k9, k10, k11, k12, k13, k14, k15, k16, k17, k18, k19, k20⟩ := c; unfold Cfg.cells; (try simp only [] at *); go_enter Tryz.func48, Tryz.ntmps48; go_wp2_with (go_at_call 103; refine (between_any _ _ _ _).mono ?_; rintro r w1 ⟨rfl, rfl⟩); go_ret; exact ⟨ret_b HI.out.symm, by (repeat (with_reducible first | exact Below.refl _ _ | refine Below.drew ?_ | refine Below.alloc ?_ (by first | omega | (simp <;> omega)) _))⟩
theorem right_3 (c : Cfg) (w : World) : Calls Tryz.prog 48 #[.agg c.cells, .int .i64 3] w fun r w' => r = .returned (.bool (fieldB c 3)) ∧ Below w.heap.size w w' := by
  have HI : Hid (fieldB c 3 = decide (1 ≤ c.minDeposit)) := rfl; obtain ⟨k1, k2, k3, k4, k5, k6, k7, k8, k9, k10, k11, k12, k13, k14, k15, k16, k17, k18, k19, k20⟩ := c; unfold Cfg.cells; (try simp only [] at *); go_enter Tryz.func48, Tryz.ntmps48; go_wp2_with (go_at_call 103; refine (between_any _ _ _ _).mono ?_; rintro r w1 ⟨rfl, rfl⟩); go_ret; exact ⟨ret_b HI.out.symm, by (repeat (with_reducible first | exact Below.refl _ _ | refine Below.drew ?_ | refine Below.alloc ?_ (by first | omega | (simp <;> omega)) _))⟩
theorem right_4 (c : Cfg) (w : World) : Calls Tryz.prog 48 #[.agg c.cells, .int .i64 4] w fun r w' => r = .returned (.bool (fieldB c 4)) ∧ Below w.heap.size w w' := by
  have HI : Hid (fieldB c 4 = decide (c.minDeposit ≤ c.maxDeposit)) := rfl; obtain ⟨k1, k2, k3, k4, k5, k6, k7, k8, k9, k10, k11, k12, k13, k14, k15, k16, k17, k18, k19, k20⟩ := c; unfold Cfg.cells; (try simp only [] at *); go_enter Tryz.func48, Tryz.ntmps48; go_wp2_with (go_at_call 103; refine (between_any _ _ _ _).mono ?_; rintro r w1 ⟨rfl, rfl⟩); go_ret; exact ⟨ret_b HI.out.symm, by (repeat (with_reducible first | exact Below.refl _ _ | refine Below.drew ?_ | refine Below.alloc ?_ (by first | omega | (simp <;> omega)) _))⟩
theorem right_5 (c : Cfg) (w : World) : Calls Tryz.prog 48 #[.agg c.cells, .int .i64 5] w fun r w' => r = .returned (.bool (fieldB c 5)) ∧ Below w.heap.size w w' := by
  by_cases h : c.maxDeposit ≤ c.supplyCap; (focus (have HI : Hid (fieldB c 5 = decide (c.supplyCap ≤ 1152921504606846976)) := (by simp [Hid, fieldB, h]); have hd : decide (c.maxDeposit ≤ c.supplyCap) = true := (by simpa using h); clear h; obtain ⟨k1, k2, k3, k4, k5, k6, k7, k8, k9, k10, k11, k12, k13, k14, k15, k16, k17, k18, k19, k20⟩ := c; unfold Cfg.cells; (try simp only [] at *); go_enter Tryz.func48, Tryz.ntmps48; go_wp2_with (go_at_call 103; refine (between_any _ _ _ _).mono ?_; rintro r w1 ⟨rfl, rfl⟩); go_ret; exact ⟨ret_b HI.out.symm, by (repeat (with_reducible first | exact Below.refl _ _ | refine Below.drew ?_ | refine Below.alloc ?_ (by first | omega | (simp <;> omega)) _))⟩)); (focus (have HI : Hid (fieldB c 5 = false) := (by simp [Hid, fieldB, h]); have hd : decide (c.maxDeposit ≤ c.supplyCap) = false := (by simpa using h); clear h; obtain ⟨k1, k2, k3, k4, k5, k6, k7, k8, k9, k10, k11, k12, k13, k14, k15, k16, k17, k18, k19, k20⟩ := c; unfold Cfg.cells; (try simp only [] at *); go_enter Tryz.func48, Tryz.ntmps48; go_wp2_with (go_at_call 103; refine (between_any _ _ _ _).mono ?_; rintro r w1 ⟨rfl, rfl⟩); go_ret; exact ⟨ret_b HI.out.symm, by (repeat (with_reducible first | exact Below.refl _ _ | refine Below.drew ?_ | refine Below.alloc ?_ (by first | omega | (simp <;> omega)) _))⟩))
theorem right_6 (c : Cfg) (w : World) : Calls Tryz.prog 48 #[.agg c.cells, .int .i64 6] w fun r w' => r = .returned (.bool (fieldB c 6)) ∧ Below w.heap.size w w' := by
  by_cases h : 1 ≤ c.minBalance; (focus (have HI : Hid (fieldB c 6 = decide (c.minBalance ≤ c.minDeposit)) := (by simp [Hid, fieldB, h]); have hd : decide (1 ≤ c.minBalance) = true := (by simpa using h); clear h; obtain ⟨k1, k2, k3, k4, k5, k6, k7, k8, k9, k10, k11, k12, k13, k14, k15, k16, k17, k18, k19, k20⟩ := c; unfold Cfg.cells; (try simp only [] at *); go_enter Tryz.func48, Tryz.ntmps48; go_wp2_with (go_at_call 103; refine (between_any _ _ _ _).mono ?_; rintro r w1 ⟨rfl, rfl⟩); go_ret; exact ⟨ret_b HI.out.symm, by (repeat (with_reducible first | exact Below.refl _ _ | refine Below.drew ?_ | refine Below.alloc ?_ (by first | omega | (simp <;> omega)) _))⟩)); (focus (have HI : Hid (fieldB c 6 = false) := (by simp [Hid, fieldB, h]); have hd : decide (1 ≤ c.minBalance) = false := (by simpa using h); clear h; obtain ⟨k1, k2, k3, k4, k5, k6, k7, k8, k9, k10, k11, k12, k13, k14, k15, k16, k17, k18, k19, k20⟩ := c; unfold Cfg.cells; (try simp only [] at *); go_enter Tryz.func48, Tryz.ntmps48; go_wp2_with (go_at_call 103; refine (between_any _ _ _ _).mono ?_; rintro r w1 ⟨rfl, rfl⟩); go_ret; exact ⟨ret_b HI.out.symm, by (repeat (with_reducible first | exact Below.refl _ _ | refine Below.drew ?_ | refine Below.alloc ?_ (by first | omega | (simp <;> omega)) _))⟩))
theorem right_7 (c : Cfg) (w : World) : Calls Tryz.prog 48 #[.agg c.cells, .int .i64 7] w fun r w' => r = .returned (.bool (fieldB c 7)) ∧ Below w.heap.size w w' := by
  by_cases h : c.maxDeposit ≤ c.maxBalance; (focus (have HI : Hid (fieldB c 7 = decide (c.maxBalance ≤ c.supplyCap)) := (by simp [Hid, fieldB, h]); have hd : decide (c.maxDeposit ≤ c.maxBalance) = true := (by simpa using h); clear h; obtain ⟨k1, k2, k3, k4, k5, k6, k7, k8, k9, k10, k11, k12, k13, k14, k15, k16, k17, k18, k19, k20⟩ := c; unfold Cfg.cells; (try simp only [] at *); go_enter Tryz.func48, Tryz.ntmps48; go_wp2_with (go_at_call 103; refine (between_any _ _ _ _).mono ?_; rintro r w1 ⟨rfl, rfl⟩); go_ret; exact ⟨ret_b HI.out.symm, by (repeat (with_reducible first | exact Below.refl _ _ | refine Below.drew ?_ | refine Below.alloc ?_ (by first | omega | (simp <;> omega)) _))⟩)); (focus (have HI : Hid (fieldB c 7 = false) := (by simp [Hid, fieldB, h]); have hd : decide (c.maxDeposit ≤ c.maxBalance) = false := (by simpa using h); clear h; obtain ⟨k1, k2, k3, k4, k5, k6, k7, k8, k9, k10, k11, k12, k13, k14, k15, k16, k17, k18, k19, k20⟩ := c; unfold Cfg.cells; (try simp only [] at *); go_enter Tryz.func48, Tryz.ntmps48; go_wp2_with (go_at_call 103; refine (between_any _ _ _ _).mono ?_; rintro r w1 ⟨rfl, rfl⟩); go_ret; exact ⟨ret_b HI.out.symm, by (repeat (with_reducible first | exact Below.refl _ _ | refine Below.drew ?_ | refine Below.alloc ?_ (by first | omega | (simp <;> omega)) _))⟩))
theorem right_8 (c : Cfg) (w : World) : Calls Tryz.prog 48 #[.agg c.cells, .int .i64 8] w fun r w' => r = .returned (.bool (fieldB c 8)) ∧ Below w.heap.size w w' := by
  by_cases h : 1 ≤ c.minChurn; (focus (have HI : Hid (fieldB c 8 = decide (c.minChurn ≤ 1152921504606846976)) := (by simp [Hid, fieldB, h]); have hd : decide (1 ≤ c.minChurn) = true := (by simpa using h); clear h; obtain ⟨k1, k2, k3, k4, k5, k6, k7, k8, k9, k10, k11, k12, k13, k14, k15, k16, k17, k18, k19, k20⟩ := c; unfold Cfg.cells; (try simp only [] at *); go_enter Tryz.func48, Tryz.ntmps48; go_wp2_with (go_at_call 103; refine (between_any _ _ _ _).mono ?_; rintro r w1 ⟨rfl, rfl⟩); go_ret; exact ⟨ret_b HI.out.symm, by (repeat (with_reducible first | exact Below.refl _ _ | refine Below.drew ?_ | refine Below.alloc ?_ (by first | omega | (simp <;> omega)) _))⟩)); (focus (have HI : Hid (fieldB c 8 = false) := (by simp [Hid, fieldB, h]); have hd : decide (1 ≤ c.minChurn) = false := (by simpa using h); clear h; obtain ⟨k1, k2, k3, k4, k5, k6, k7, k8, k9, k10, k11, k12, k13, k14, k15, k16, k17, k18, k19, k20⟩ := c; unfold Cfg.cells; (try simp only [] at *); go_enter Tryz.func48, Tryz.ntmps48; go_wp2_with (go_at_call 103; refine (between_any _ _ _ _).mono ?_; rintro r w1 ⟨rfl, rfl⟩); go_ret; exact ⟨ret_b HI.out.symm, by (repeat (with_reducible first | exact Below.refl _ _ | refine Below.drew ?_ | refine Below.alloc ?_ (by first | omega | (simp <;> omega)) _))⟩))
theorem right_9 (c : Cfg) (w : World) : Calls Tryz.prog 48 #[.agg c.cells, .int .i64 9] w fun r w' => r = .returned (.bool (fieldB c 9)) ∧ Below w.heap.size w w' := by
  have HI : Hid (fieldB c 9 = decide (1 ≤ c.quotient)) := rfl; obtain ⟨k1, k2, k3, k4, k5, k6, k7, k8, k9, k10, k11, k12, k13, k14, k15, k16, k17, k18, k19, k20⟩ := c; unfold Cfg.cells; (try simp only [] at *); go_enter Tryz.func48, Tryz.ntmps48; go_wp2_with (go_at_call 103; refine (between_any _ _ _ _).mono ?_; rintro r w1 ⟨rfl, rfl⟩); go_ret; exact ⟨ret_b HI.out.symm, by (repeat (with_reducible first | exact Below.refl _ _ | refine Below.drew ?_ | refine Below.alloc ?_ (by first | omega | (simp <;> omega)) _))⟩
theorem right_10 (c : Cfg) (w : World) : Calls Tryz.prog 48 #[.agg c.cells, .int .i64 10] w fun r w' => r = .returned (.bool (fieldB c 10)) ∧ Below w.heap.size w w' := by
  have HI : Hid (fieldB c 10 = decide (c.forcedCap ≤ 1152921504606846976)) := rfl; obtain ⟨k1, k2, k3, k4, k5, k6, k7, k8, k9, k10, k11, k12, k13, k14, k15, k16, k17, k18, k19, k20⟩ := c; unfold Cfg.cells; (try simp only [] at *); go_enter Tryz.func48, Tryz.ntmps48; go_wp2_with (go_at_call 103; refine (between_any _ _ _ _).mono ?_; rintro r w1 ⟨rfl, rfl⟩); go_ret; exact ⟨ret_b HI.out.symm, by (repeat (with_reducible first | exact Below.refl _ _ | refine Below.drew ?_ | refine Below.alloc ?_ (by first | omega | (simp <;> omega)) _))⟩
theorem right_11 (c : Cfg) (w : World) : Calls Tryz.prog 48 #[.agg c.cells, .int .i64 11] w fun r w' => r = .returned (.bool (fieldB c 11)) ∧ Below w.heap.size w w' := by
  have HI : Hid (fieldB c 11 = bt c.unbonding 1 1048576) := rfl; obtain ⟨k1, k2, k3, k4, k5, k6, k7, k8, k9, k10, k11, k12, k13, k14, k15, k16, k17, k18, k19, k20⟩ := c; unfold Cfg.cells; (try simp only [] at *); go_enter Tryz.func48, Tryz.ntmps48; go_wp2_with (go_at_call 103; refine (between_any _ _ _ _).mono ?_; rintro r w1 ⟨rfl, rfl⟩); go_ret; exact ⟨ret_b HI.out.symm, by (repeat (with_reducible first | exact Below.refl _ _ | refine Below.drew ?_ | refine Below.alloc ?_ (by first | omega | (simp <;> omega)) _))⟩
theorem right_12 (c : Cfg) (w : World) : Calls Tryz.prog 48 #[.agg c.cells, .int .i64 12] w fun r w' => r = .returned (.bool (fieldB c 12)) ∧ Below w.heap.size w w' := by
  by_cases h : c.unbonding < c.slashDelay; (focus (have HI : Hid (fieldB c 12 = decide (c.slashDelay ≤ 1048576)) := (by simp [Hid, fieldB, h]); have hd : decide (c.unbonding < c.slashDelay) = true := (by simpa using h); clear h; obtain ⟨k1, k2, k3, k4, k5, k6, k7, k8, k9, k10, k11, k12, k13, k14, k15, k16, k17, k18, k19, k20⟩ := c; unfold Cfg.cells; (try simp only [] at *); go_enter Tryz.func48, Tryz.ntmps48; go_wp2_with (go_at_call 103; refine (between_any _ _ _ _).mono ?_; rintro r w1 ⟨rfl, rfl⟩); go_ret; exact ⟨ret_b HI.out.symm, by (repeat (with_reducible first | exact Below.refl _ _ | refine Below.drew ?_ | refine Below.alloc ?_ (by first | omega | (simp <;> omega)) _))⟩)); (focus (have HI : Hid (fieldB c 12 = false) := (by simp [Hid, fieldB, h]); have hd : decide (c.unbonding < c.slashDelay) = false := (by simpa using h); clear h; obtain ⟨k1, k2, k3, k4, k5, k6, k7, k8, k9, k10, k11, k12, k13, k14, k15, k16, k17, k18, k19, k20⟩ := c; unfold Cfg.cells; (try simp only [] at *); go_enter Tryz.func48, Tryz.ntmps48; go_wp2_with (go_at_call 103; refine (between_any _ _ _ _).mono ?_; rintro r w1 ⟨rfl, rfl⟩); go_ret; exact ⟨ret_b HI.out.symm, by (repeat (with_reducible first | exact Below.refl _ _ | refine Below.drew ?_ | refine Below.alloc ?_ (by first | omega | (simp <;> omega)) _))⟩))
theorem right_13 (c : Cfg) (w : World) : Calls Tryz.prog 48 #[.agg c.cells, .int .i64 13] w fun r w' => r = .returned (.bool (fieldB c 13)) ∧ Below w.heap.size w w' := by
  have HI : Hid (fieldB c 13 = bt c.ringLen 1 4096) := rfl; obtain ⟨k1, k2, k3, k4, k5, k6, k7, k8, k9, k10, k11, k12, k13, k14, k15, k16, k17, k18, k19, k20⟩ := c; unfold Cfg.cells; (try simp only [] at *); go_enter Tryz.func48, Tryz.ntmps48; go_wp2_with (go_at_call 103; refine (between_any _ _ _ _).mono ?_; rintro r w1 ⟨rfl, rfl⟩); go_ret; exact ⟨ret_b HI.out.symm, by (repeat (with_reducible first | exact Below.refl _ _ | refine Below.drew ?_ | refine Below.alloc ?_ (by first | omega | (simp <;> omega)) _))⟩
theorem right_14 (c : Cfg) (w : World) : Calls Tryz.prog 48 #[.agg c.cells, .int .i64 14] w fun r w' => r = .returned (.bool (fieldB c 14)) ∧ Below w.heap.size w w' := by
  have HI : Hid (fieldB c 14 = bt c.epochLen 1 4096) := rfl; obtain ⟨k1, k2, k3, k4, k5, k6, k7, k8, k9, k10, k11, k12, k13, k14, k15, k16, k17, k18, k19, k20⟩ := c; unfold Cfg.cells; (try simp only [] at *); go_enter Tryz.func48, Tryz.ntmps48; go_wp2_with (go_at_call 103; refine (between_any _ _ _ _).mono ?_; rintro r w1 ⟨rfl, rfl⟩); go_ret; exact ⟨ret_b HI.out.symm, by (repeat (with_reducible first | exact Below.refl _ _ | refine Below.drew ?_ | refine Below.alloc ?_ (by first | omega | (simp <;> omega)) _))⟩
theorem right_15 (c : Cfg) (w : World) : Calls Tryz.prog 48 #[.agg c.cells, .int .i64 15] w fun r w' => r = .returned (.bool (fieldB c 15)) ∧ Below w.heap.size w w' := by
  have HI : Hid (fieldB c 15 = bt c.visits 1 4096) := rfl; obtain ⟨k1, k2, k3, k4, k5, k6, k7, k8, k9, k10, k11, k12, k13, k14, k15, k16, k17, k18, k19, k20⟩ := c; unfold Cfg.cells; (try simp only [] at *); go_enter Tryz.func48, Tryz.ntmps48; go_wp2_with (go_at_call 103; refine (between_any _ _ _ _).mono ?_; rintro r w1 ⟨rfl, rfl⟩); go_ret; exact ⟨ret_b HI.out.symm, by (repeat (with_reducible first | exact Below.refl _ _ | refine Below.drew ?_ | refine Below.alloc ?_ (by first | omega | (simp <;> omega)) _))⟩
theorem right_16 (c : Cfg) (w : World) : Calls Tryz.prog 48 #[.agg c.cells, .int .i64 16] w fun r w' => r = .returned (.bool (fieldB c 16)) ∧ Below w.heap.size w w' := by
  have HI : Hid (fieldB c 16 = bt c.payments 1 4096) := rfl; obtain ⟨k1, k2, k3, k4, k5, k6, k7, k8, k9, k10, k11, k12, k13, k14, k15, k16, k17, k18, k19, k20⟩ := c; unfold Cfg.cells; (try simp only [] at *); go_enter Tryz.func48, Tryz.ntmps48; go_wp2_with (go_at_call 103; refine (between_any _ _ _ _).mono ?_; rintro r w1 ⟨rfl, rfl⟩); go_ret; exact ⟨ret_b HI.out.symm, by (repeat (with_reducible first | exact Below.refl _ _ | refine Below.drew ?_ | refine Below.alloc ?_ (by first | omega | (simp <;> omega)) _))⟩
theorem right_18 (c : Cfg) (w : World) : Calls Tryz.prog 48 #[.agg c.cells, .int .i64 18] w fun r w' => r = .returned (.bool (fieldB c 18)) ∧ Below w.heap.size w w' := by
  have HI : Hid (fieldB c 18 = bt c.merges 0 4096) := rfl; obtain ⟨k1, k2, k3, k4, k5, k6, k7, k8, k9, k10, k11, k12, k13, k14, k15, k16, k17, k18, k19, k20⟩ := c; unfold Cfg.cells; (try simp only [] at *); go_enter Tryz.func48, Tryz.ntmps48; go_wp2_with (go_at_call 103; refine (between_any _ _ _ _).mono ?_; rintro r w1 ⟨rfl, rfl⟩); go_ret; exact ⟨ret_b HI.out.symm, by (repeat (with_reducible first | exact Below.refl _ _ | refine Below.drew ?_ | refine Below.alloc ?_ (by first | omega | (simp <;> omega)) _))⟩
theorem right_19 (c : Cfg) (w : World) : Calls Tryz.prog 48 #[.agg c.cells, .int .i64 19] w fun r w' => r = .returned (.bool (fieldB c 19)) ∧ Below w.heap.size w w' := by
  have HI : Hid (fieldB c 19 = decide (c.penNum ≤ c.penDen)) := rfl; obtain ⟨k1, k2, k3, k4, k5, k6, k7, k8, k9, k10, k11, k12, k13, k14, k15, k16, k17, k18, k19, k20⟩ := c; unfold Cfg.cells; (try simp only [] at *); go_enter Tryz.func48, Tryz.ntmps48; go_wp2_with (go_at_call 103; refine (between_any _ _ _ _).mono ?_; rintro r w1 ⟨rfl, rfl⟩); go_ret; exact ⟨ret_b HI.out.symm, by (repeat (with_reducible first | exact Below.refl _ _ | refine Below.drew ?_ | refine Below.alloc ?_ (by first | omega | (simp <;> omega)) _))⟩
theorem right_20 (c : Cfg) (w : World) : Calls Tryz.prog 48 #[.agg c.cells, .int .i64 20] w fun r w' => r = .returned (.bool (fieldB c 20)) ∧ Below w.heap.size w w' := by
  by_cases h : 1 ≤ c.penDen; (focus (have HI : Hid (fieldB c 20 = decide (c.penDen ≤ 4294967296)) := (by simp [Hid, fieldB, h]); have hd : decide (1 ≤ c.penDen) = true := (by simpa using h); clear h; obtain ⟨k1, k2, k3, k4, k5, k6, k7, k8, k9, k10, k11, k12, k13, k14, k15, k16, k17, k18, k19, k20⟩ := c; unfold Cfg.cells; (try simp only [] at *); go_enter Tryz.func48, Tryz.ntmps48; go_wp2_with (go_at_call 103; refine (between_any _ _ _ _).mono ?_; rintro r w1 ⟨rfl, rfl⟩); go_ret; exact ⟨ret_b HI.out.symm, by (repeat (with_reducible first | exact Below.refl _ _ | refine Below.drew ?_ | refine Below.alloc ?_ (by first | omega | (simp <;> omega)) _))⟩)); (focus (have HI : Hid (fieldB c 20 = false) := (by simp [Hid, fieldB, h]); have hd : decide (1 ≤ c.penDen) = false := (by simpa using h); clear h; obtain ⟨k1, k2, k3, k4, k5, k6, k7, k8, k9, k10, k11, k12, k13, k14, k15, k16, k17, k18, k19, k20⟩ := c; unfold Cfg.cells; (try simp only [] at *); go_enter Tryz.func48, Tryz.ntmps48; go_wp2_with (go_at_call 103; refine (between_any _ _ _ _).mono ?_; rintro r w1 ⟨rfl, rfl⟩); go_ret; exact ⟨ret_b HI.out.symm, by (repeat (with_reducible first | exact Below.refl _ _ | refine Below.drew ?_ | refine Below.alloc ?_ (by first | omega | (simp <;> omega)) _))⟩))
theorem right_17 (c : Cfg) (w : World) : Calls Tryz.prog 48 #[.agg c.cells, .int .i64 17] w fun r w' => r = .returned (.bool (fieldB c 17)) ∧ Below w.heap.size w w' := by
  by_cases h : 0 ≤ c.partials
  · by_cases h2 : c.partials < c.visits
    · have HI : Hid (fieldB c 17 = decide (c.partials < c.payments)) := by simp [Hid, fieldB, h, h2]
      have hd : decide (0 ≤ c.partials) = true := by simpa using h
      have hd2 : decide (c.partials < c.visits) = true := by simpa using h2
      clear h h2
      obtain ⟨k1, k2, k3, k4, k5, k6, k7, k8, k9, k10, k11, k12, k13, k14, k15, k16, k17, k18, k19, k20⟩ := c; unfold Cfg.cells; (try simp only [] at *); go_enter Tryz.func48, Tryz.ntmps48; go_wp2_with (go_at_call 103; refine (between_any _ _ _ _).mono ?_; rintro r w1 ⟨rfl, rfl⟩)
      go_ret; exact ⟨ret_b HI.out.symm, by (repeat (with_reducible first | exact Below.refl _ _ | refine Below.drew ?_ | refine Below.alloc ?_ (by first | omega | (simp <;> omega)) _))⟩
    · have HI : Hid (fieldB c 17 = false) := by simp [Hid, fieldB, h, h2]
      have hd : decide (0 ≤ c.partials) = true := by simpa using h
      have hd2 : decide (c.partials < c.visits) = false := by simpa using h2
      clear h h2
      obtain ⟨k1, k2, k3, k4, k5, k6, k7, k8, k9, k10, k11, k12, k13, k14, k15, k16, k17, k18, k19, k20⟩ := c; unfold Cfg.cells; (try simp only [] at *); go_enter Tryz.func48, Tryz.ntmps48; go_wp2_with (go_at_call 103; refine (between_any _ _ _ _).mono ?_; rintro r w1 ⟨rfl, rfl⟩)
      go_ret; exact ⟨ret_b HI.out.symm, by (repeat (with_reducible first | exact Below.refl _ _ | refine Below.drew ?_ | refine Below.alloc ?_ (by first | omega | (simp <;> omega)) _))⟩
  · have HI : Hid (fieldB c 17 = false) := by simp [Hid, fieldB, h]
    have hd : decide (0 ≤ c.partials) = false := by simpa using h
    clear h
    obtain ⟨k1, k2, k3, k4, k5, k6, k7, k8, k9, k10, k11, k12, k13, k14, k15, k16, k17, k18, k19, k20⟩ := c; unfold Cfg.cells; (try simp only [] at *); go_enter Tryz.func48, Tryz.ntmps48; go_wp2_with (go_at_call 103; refine (between_any _ _ _ _).mono ?_; rintro r w1 ⟨rfl, rfl⟩)
    go_ret; exact ⟨ret_b HI.out.symm, by (repeat (with_reducible first | exact Below.refl _ _ | refine Below.drew ?_ | refine Below.alloc ?_ (by first | omega | (simp <;> omega)) _))⟩
theorem right_any (c : Cfg) (i : Nat) (h1 : 1 ≤ i) (h2 : i ≤ 20) (w : World) : Calls Tryz.prog 48 #[.agg c.cells, .int .i64 i] w fun r w' => r = .returned (.bool (fieldB c i)) ∧ Below w.heap.size w w' := by
  have h : i = 1 ∨ i = 2 ∨ i = 3 ∨ i = 4 ∨ i = 5 ∨ i = 6 ∨ i = 7 ∨ i = 8 ∨ i = 9 ∨ i = 10 ∨ i = 11 ∨ i = 12 ∨ i = 13 ∨ i = 14 ∨ i = 15 ∨ i = 16 ∨ i = 17 ∨ i = 18 ∨ i = 19 ∨ i = 20 := by omega
  rcases h with rfl | rfl | rfl | rfl | rfl | rfl | rfl | rfl | rfl | rfl | rfl | rfl | rfl | rfl | rfl | rfl | rfl | rfl | rfl | rfl
  · rw [show ((1 : Nat) : Int) = 1 from rfl]; exact right_1 c w
  · rw [show ((2 : Nat) : Int) = 2 from rfl]; exact right_2 c w
  · rw [show ((3 : Nat) : Int) = 3 from rfl]; exact right_3 c w
  · rw [show ((4 : Nat) : Int) = 4 from rfl]; exact right_4 c w
  · rw [show ((5 : Nat) : Int) = 5 from rfl]; exact right_5 c w
  · rw [show ((6 : Nat) : Int) = 6 from rfl]; exact right_6 c w
  · rw [show ((7 : Nat) : Int) = 7 from rfl]; exact right_7 c w
  · rw [show ((8 : Nat) : Int) = 8 from rfl]; exact right_8 c w
  · rw [show ((9 : Nat) : Int) = 9 from rfl]; exact right_9 c w
  · rw [show ((10 : Nat) : Int) = 10 from rfl]; exact right_10 c w
  · rw [show ((11 : Nat) : Int) = 11 from rfl]; exact right_11 c w
  · rw [show ((12 : Nat) : Int) = 12 from rfl]; exact right_12 c w
  · rw [show ((13 : Nat) : Int) = 13 from rfl]; exact right_13 c w
  · rw [show ((14 : Nat) : Int) = 14 from rfl]; exact right_14 c w
  · rw [show ((15 : Nat) : Int) = 15 from rfl]; exact right_15 c w
  · rw [show ((16 : Nat) : Int) = 16 from rfl]; exact right_16 c w
  · rw [show ((17 : Nat) : Int) = 17 from rfl]; exact right_17 c w
  · rw [show ((18 : Nat) : Int) = 18 from rfl]; exact right_18 c w
  · rw [show ((19 : Nat) : Int) = 19 from rfl]; exact right_19 c w
  · rw [show ((20 : Nat) : Int) = 20 from rfl]; exact right_20 c w
/-- The first field from i on, of n, that is wrong, or 0. -/
def checkGo (c : Cfg) : Nat → Nat → Nat
  | 0, _ => 0
  | n + 1, i => if fieldB c i then checkGo c n (i + 1) else i
def checkF (c : Cfg) : Nat := checkGo c 20 1
theorem ret_i {k : IntKind} {x y : Int} (h : x = y) : Ending.returned (.int k x) = .returned (.int k y) := by rw [h]
theorem checkF_zero {c : Cfg} (h : checkF c = 0) : ∀ i, 1 ≤ i → i ≤ 20 → fieldB c i = true := by
  have key : ∀ n i, checkGo c n i = 0 → 1 ≤ i → ∀ j, i ≤ j → j < i + n → fieldB c j = true := by
    intro n
    induction n with
    | zero => intro i _ _ j h1 h2; omega
    | succ n ih =>
      intro i hi h0 j h1 h2
      rw [checkGo] at hi
      by_cases hf : fieldB c i = true
      · rw [if_pos hf] at hi
        by_cases hj : j = i
        · rw [hj]; exact hf
        · exact ih (i + 1) hi (by omega) j (by omega) (by omega)
      · rw [if_neg hf] at hi; omega
  intro i h1 h2
  exact key 20 1 h (by omega) i h1 (by omega)
set_option maxHeartbeats 1000000 in
theorem rCheck_any (c : Cfg) (w : World) : Calls Tryz.prog 16 #[.agg c.cells] w fun r w' => r = .returned (.int .i64 (checkF c)) ∧ Below w.heap.size w w' := by
  have HR := Lib.hid (fun i h1 h2 w => right_any c i h1 h2 w)
  have hs : checkF c = checkGo c (21 - 1) 1 := rfl
  have hb := BlockIs.new w c.cells 30
  have HS := Lib.hid hs
  have HB := Lib.hid hb
  have HZ := Lib.hid (cfg_size c)
  clear hs hb
  have HCG : ∀ n k, n + 1 = 21 - k → checkGo c (21 - k) k = if fieldB c k then checkGo c n (k + 1) else k := fun n k h => by rw [← h]; rfl
  have HCH := Lib.hid HCG
  clear HCG
  generalize checkF c = R at *
  generalize c.cells = cs at *
  go_enter Tryz.func16, Tryz.ntmps16
  go_wp2
  go_loopw [3] (fun i wr => ∃ k : Nat, 1 ≤ k ∧ k ≤ 21 ∧ i = .int .i64 k ∧ Hid (R = checkGo c (21 - k) k) ∧ Hid (BlockIs wr w.heap.size cs 30) ∧ Below w.heap.size w wr) (fun i _ => (21 - intOf i).toNat)
  case atStart => exact ⟨1, by omega, by omega, rfl, HS, HB, by (repeat (with_reducible first | exact Below.refl _ _ | refine Below.drew ?_ | refine Below.alloc ?_ (by first | omega | (simp <;> omega)) _))⟩
  case round =>
    obtain ⟨k, hk1, hk2, rfl, HK, HW, hbel⟩ := hrel
    clear HS HB
    by_cases hlt : k ≤ 20
    · go_wp2_with (first | (go_at_call 48; fail) | ((with_reducible refine wpList_load_row ?_ 30 (.tmp 1) ?_ w.heap.size ?_ 30 cs (0, 0) _ ?_ Tryz.underlying30 rfl HZ.out ?_); (focus rfl); (focus rfl); (focus rfl); (focus exact HW.out)))
      refine (HR.out k hk1 hlt _).mono ?_
      rintro r w1 ⟨rfl, hb1⟩
      have HW1 : Hid (BlockIs w1 w.heap.size cs 30) := Lib.hid (HW.out.below hb1 HW.out.lt)
      have hbel1 : Below w.heap.size w w1 := hbel.trans (hb1.mono hbel.size)
      have HE := HCH.out (21 - (k + 1)) k (by omega)
      by_cases hf : fieldB c k = true
      · have HN : Hid (R = checkGo c (21 - (k + 1)) (k + 1)) := by
          have h1 := HK.out
          rw [HE, if_pos hf] at h1
          exact h1
        rw [hf]
        clear HK HE hf
        go_wp2
        go_roundw
        case rel => exact ⟨k + 1, by omega, by omega, by go_num, HN, HW1, hbel1⟩
        case measure => simp [intOf] <;> omega
      · have HN : Hid (R = k) := by
          have h1 := HK.out
          rw [HE, if_neg hf] at h1
          exact h1
        have hf' : fieldB c k = false := by simpa using hf
        rw [hf']
        clear HK HE hf hf'
        go_wp2
        go_ret
        exact ⟨ret_i (by rw [HN.out]), hbel1⟩
    · have HN : Hid (R = 0) := by
        have h1 := HK.out
        rw [show 21 - k = 0 by omega] at h1
        exact h1
      clear HK
      go_wp2
      go_ret
      exact ⟨ret_i (by rw [HN.out]; rfl), hbel⟩
end Go.Proofs.YtopbohbkhljjgaaGreat
end
section
namespace Go.Proofs.YtopbohbkhljjgaaGreat
open Go.RowKit
set_option linter.unusedVariables false
set_option maxRecDepth 100000
set_option linter.unusedSimpArgs false
set_option maxHeartbeats 2000000
structure Asg where
  ix : Int
  cl : Int
  ep : Int
deriving DecidableEq
def asgL (x : Asg) : List Value := [.int .i64 x.ix, .int .i64 x.cl, .int .i64 x.ep]
structure Pm where
  ix : Int
  am : Int
  fl : Bool
deriving DecidableEq
def pmL (x : Pm) : List Value := [.int .i64 x.ix, .int .u64 x.am, .bool x.fl]
instance : EL asgL 3 := ⟨fun _ => rfl, fun x u h => by simp [asgL] at h; rcases h with rfl | rfl | rfl <;> rfl⟩
instance : EL pmL 3 := ⟨fun _ => rfl, fun x u h => by simp [pmL] at h; rcases h with rfl | rfl | rfl <;> rfl⟩
instance : EQF asgL [.int, .int, .int] := ⟨fun x y => by
  obtain ⟨a, b, c⟩ := x; obtain ⟨d, e, f⟩ := y
  simp only [asgL, cellsEq, scEq, if_true, Bool.and_true, Asg.mk.injEq, Option.some.injEq]
  rw [Bool.eq_iff_iff]; simp⟩
instance : EQF pmL [.int, .int, .bool] := ⟨fun x y => by
  obtain ⟨a, b, c⟩ := x; obtain ⟨d, e, f⟩ := y
  simp only [pmL, cellsEq, scEq, if_true, Bool.and_true, Pm.mk.injEq, Option.some.injEq]
  rw [Bool.eq_iff_iff]; simp⟩
/-- A receipt. -/
structure Rc where
  k : Int
  c : Int
  ix : Int
  bk : Int
  ep : Int
  dl : Int
  vi : Int
  asg : List Asg
  pms : List Pm
deriving DecidableEq
def rcL (r : Rc) (s p : SlH) : List Value := [.int .i64 r.k, .int .i64 r.c, .int .i64 r.ix, .int .i64 r.bk, .int .i64 r.ep, .int .i64 r.dl, sl s, sl p, .int .i64 r.vi]
/-- What the slices of a receipt read as. -/
structure RcG (L : List Asn) (x : Rc) (s p : SlH) : Prop where
  a : GS L 3 (sl s) x.asg.length (x.asg.flatMap asgL)
  p : GS L 3 (sl p) x.pms.length (x.pms.flatMap pmL)
theorem RcG.imp {L K : List Asn} {x : Rc} {s p : SlH} (h : RcG L x s p) (hk : ∀ w, Mem w K → Mem w L) : RcG K x s p := ⟨h.a.imp hk, h.p.imp hk⟩
/-- An operation. -/
structure Opn where
  k : Int
  ix : Int
  tg : Int
  am : Int
deriving DecidableEq
def opL (o : Opn) : List Value := [.int .i64 o.k, .int .i64 o.ix, .int .i64 o.tg, .int .u64 o.am]
instance : EL opL 4 := ⟨fun _ => rfl, fun x u h => by simp [opL] at h; rcases h with rfl | rfl | rfl | rfl <;> rfl⟩
abbrev nilH : SlH := ⟨none, 0, 0⟩
theorem RcG.nil {L : List Asn} {k c ix bk ep dl vi : Int} : RcG L ⟨k, c, ix, bk, ep, dl, vi, [], []⟩ nilH nilH := ⟨GS.nil _ _, GS.nil _ _⟩
structure Rc.wf (x : Rc) : Prop where
  k : I64 x.k
  c : I64 x.c
  ix : I64 x.ix
  bk : I64 x.bk
  ep : I64 x.ep
  dl : I64 x.dl
  vi : I64 x.vi
  asg : ∀ y ∈ x.asg, I64 y.ix ∧ I64 y.cl ∧ I64 y.ep
  pms : ∀ y ∈ x.pms, I64 y.ix ∧ U64 y.am
/-- A receipt in a slice: with its slices' words. -/
structure RcS where
  r : Rc
  s : SlH
  p : SlH
def rsL (x : RcS) : List Value := rcL x.r x.s x.p
instance : EL rsL 9 := ⟨fun _ => rfl, fun x u h => by simp [rsL, rcL] at h; rcases h with rfl | rfl | rfl | rfl | rfl | rfl | rfl | rfl | rfl <;> rfl⟩
theorem shb_one {w : World} {k : Nat} {e : Sh} {l : List Value} (h : HasSh w (.slice k e) l) : ∃ v, l = [v] := by cases h; exact ⟨_, rfl⟩
end Go.Proofs.YtopbohbkhljjgaaGreat
end
section
namespace Go.Proofs.YtopbohbkhljjgaaGreat
open Go.RowKit
set_option linter.unusedVariables false
set_option maxRecDepth 100000
set_option linter.unusedSimpArgs false
set_option maxHeartbeats 2000000
/-- The sum, or that there is none. -/
def satGo : Int → List Int → Int × Bool
  | n, [] => (n, false)
  | n, x :: r => if 18446744073709551615 < n + x then (18446744073709551615, true) else satGo (n + x) r
theorem wrap_lt {n x : Int} (h : U64 n) (hx : U64 x) : (IntKind.u64.wrap (n + x) < n) ↔ 18446744073709551615 < n + x := by
  rw [IntKind.wrap_u64]
  have := h.1; have := h.2; have := hx.1; have := hx.2
  omega
theorem saturate_reads (v : Value) (zs : List Int) (hz : ∀ z ∈ zs, U64 z) {L : List Asn} (hg : GS L 1 v zs.length (zs.flatMap u64L)) :
    Reads 91 [v] (.tuple [.int .u64 (satGo 0 zs).1, .bool (satGo 0 zs).2].toArray) L := by
  (intro K hK w M; refine sx_enter Tryz.func91 (n := 23) rfl rfl rfl rfl ?_; intro a F)
  replace hg := hg.imp hK
  have hlen := hg.len_le M
  generalize hR : satGo 0 zs = R
  (repeat' (first | (first | (refine sx_nil ?_; (try (replace F := F.filt [0, 2, 3, 4, 6, 7, 8, 9, 10, 17] rfl))) | (refine sv1 F M (h := ?_) (hr := by fail); clear F a; intro a F) | (refine sv1 F M (h := ?_); clear F a; intro a F) | (refine sv3 F M (h := ?_); clear M; intro w M) | (refine sv2 F M (h := ?_); clear F M a; intro b a w F M) | (refine svC F M (h := ?_); fail; (clear F M a; intro a w F M)) | (refine svC0 F M (h := ?_); fail; (clear M; intro w M)) | (refine sv1 F M (h := ?_) (hr := by fail); clear F a; intro a F) | (refine svK F (h := ?_); clear F a; intro a F) | (refine svK0 F (h := ?_)) | ((refine sx_guardb F rfl (fun hg => ?_) (fun hg => ?_)) <;> (rw [hg] at F; (try (exact no hg))))) | (first | (refine pv1 (h := ?_) (hr := by fail)) | (refine pv1 (h := ?_)) | (refine pv3 (h := ?_)) | (refine pv2 (h := ?_); intro b) | (refine pvC (h := ?_); fail; (refine ⟨?_, ?_⟩; (exact rvsA))) | (refine pvC0 (h := ?_); fail; (refine ⟨?_, ?_⟩; (exact rvsA))) | (refine pv1 (h := ?_) (hr := by fail)) | (refine pvF (h := ?_); intro b) | (refine pvK (h := ?_)) | (refine pvK0 (h := ?_)) | (refine pv_nil ?_; intro a w F M; refine ql_open ?_) | (refine pv_nil ?_; intro a w F M; (try (replace F := F.filt [0, 2, 3, 4, 6, 7, 8, 9, 10, 17] rfl)))) | ((fail_if_success (with_reducible show wpList _ _ _ _ _ _)); (fail_if_success (with_reducible show PW _ _ _ _ _ _ _ _ _ _)); (fail_if_success (with_reducible show Code.wp _ (Code.loop _) _ _ _)); (first | ((with_reducible show Code.wp _ (Code.region _ _ false) _ _ _); (refine sx_region ?_)) | ((with_reducible show Code.wp _ (Code.cond _ _ _) _ _ _); (first | (refine svT F (h := ?_)) | (refine svF F (h := ?_)) | ((refine svB F (fun hc => ?_) (fun hc => ?_)) <;> (try (exact no hc))))) | ((with_reducible show Code.wp _ (Code.region _ _ true) _ _ _); fail) | go_step))))
  refine sv_loop (σ := Nat × Int) (fun s => [(4, .int .u64 s.2), (7, v), (8, .int .i64 zs.length), (9, .int .i64 s.1)]) (fun _ => K) (fun s => s.1 ≤ zs.length ∧ U64 s.2 ∧ R = satGo s.2 (zs.drop s.1)) (fun s => zs.length - s.1) F M (0, 0) kpA permsA ⟨by omega, ⟨by omega, by omega⟩, by simp [hR]⟩ ?_
  rintro ⟨k, x⟩ ⟨h1, h2, h3⟩ a w F M
  simp only at h1 h2 h3 F ⊢
  by_cases hlt : k < zs.length
  · obtain ⟨y, hy⟩ : ∃ y, zs[k]? = some y := ⟨zs[k], by simp [hlt]⟩
    have hyr := hz y (List.mem_of_getElem? hy)
    have hd := drop_cons hy
    by_cases hov : 18446744073709551615 < x + y
    · have hw := (wrap_lt h2 hyr).2 hov
      (repeat' (first | (first | (refine sx_nil ?_; (try (replace F := F.filt [0, 2, 3, 4, 6, 7, 8, 9, 10, 17] rfl))) | (refine sv1 F M (h := ?_) (hr := by fail); clear F a; intro a F) | (refine sv1 F M (h := ?_); clear F a; intro a F) | (refine sv3 F M (h := ?_); clear M; intro w M) | (refine sv2 F M (h := ?_); clear F M a; intro b a w F M) | (refine svC F M (h := ?_); fail; (clear F M a; intro a w F M)) | (refine svC0 F M (h := ?_); fail; (clear M; intro w M)) | (refine sv1 F M (h := ?_) (hr := by fail); clear F a; intro a F) | (refine svK F (h := ?_); clear F a; intro a F) | (refine svK0 F (h := ?_)) | ((refine sx_guardb F rfl (fun hg => ?_) (fun hg => ?_)) <;> (rw [hg] at F; (try (exact no hg))))) | (first | (refine pv1 (h := ?_) (hr := by fail)) | (refine pv1 (h := ?_)) | (refine pv3 (h := ?_)) | (refine pv2 (h := ?_); intro b) | (refine pvC (h := ?_); fail; (refine ⟨?_, ?_⟩; (exact rvsA))) | (refine pvC0 (h := ?_); fail; (refine ⟨?_, ?_⟩; (exact rvsA))) | (refine pv1 (h := ?_) (hr := by fail)) | (refine pvF (h := ?_); intro b) | (refine pvK (h := ?_)) | (refine pvK0 (h := ?_)) | (refine pv_nil ?_; intro a w F M; refine ql_open ?_) | (refine pv_nil ?_; intro a w F M; (try (replace F := F.filt [0, 2, 3, 4, 6, 7, 8, 9, 10, 17] rfl)))) | ((fail_if_success (with_reducible show wpList _ _ _ _ _ _)); (fail_if_success (with_reducible show PW _ _ _ _ _ _ _ _ _ _)); (fail_if_success (with_reducible show Code.wp _ (Code.loop _) _ _ _)); (first | ((with_reducible show Code.wp _ (Code.region _ _ false) _ _ _); (refine sx_region ?_)) | ((with_reducible show Code.wp _ (Code.cond _ _ _) _ _ _); (first | (refine svT F (h := ?_)) | (refine svF F (h := ?_)) | ((refine svB F (fun hc => ?_) (fun hc => ?_)) <;> (try (exact no hc))))) | ((with_reducible show Code.wp _ (Code.region _ _ true) _ _ _); fail) | go_step))))
      (all_goals ((first | (refine svEnd F M ?_) | (refine svRet F M ?_)); refine ⟨?_, M.perms permsA⟩))
      rw [h3, hd, satGo, if_pos hov]; rfl
    · have hw : ¬ (IntKind.u64.wrap (x + y) < x) := fun h => hov ((wrap_lt h2 hyr).1 h)
      have := h2.1; have := hyr.1
      (repeat' (first | (first | (refine sx_nil ?_; (try (replace F := F.filt [0, 2, 3, 4, 6, 7, 8, 9, 10, 17] rfl))) | (refine sv1 F M (h := ?_) (hr := by fail); clear F a; intro a F) | (refine sv1 F M (h := ?_); clear F a; intro a F) | (refine sv3 F M (h := ?_); clear M; intro w M) | (refine sv2 F M (h := ?_); clear F M a; intro b a w F M) | (refine svC F M (h := ?_); fail; (clear F M a; intro a w F M)) | (refine svC0 F M (h := ?_); fail; (clear M; intro w M)) | (refine sv1 F M (h := ?_) (hr := by fail); clear F a; intro a F) | (refine svK F (h := ?_); clear F a; intro a F) | (refine svK0 F (h := ?_)) | ((refine sx_guardb F rfl (fun hg => ?_) (fun hg => ?_)) <;> (rw [hg] at F; (try (exact no hg))))) | (first | (refine pv1 (h := ?_) (hr := by fail)) | (refine pv1 (h := ?_)) | (refine pv3 (h := ?_)) | (refine pv2 (h := ?_); intro b) | (refine pvC (h := ?_); fail; (refine ⟨?_, ?_⟩; (exact rvsA))) | (refine pvC0 (h := ?_); fail; (refine ⟨?_, ?_⟩; (exact rvsA))) | (refine pv1 (h := ?_) (hr := by fail)) | (refine pvF (h := ?_); intro b) | (refine pvK (h := ?_)) | (refine pvK0 (h := ?_)) | (refine pv_nil ?_; intro a w F M; refine ql_open ?_) | (refine pv_nil ?_; intro a w F M; (try (replace F := F.filt [0, 2, 3, 4, 6, 7, 8, 9, 10, 17] rfl)))) | ((fail_if_success (with_reducible show wpList _ _ _ _ _ _)); (fail_if_success (with_reducible show PW _ _ _ _ _ _ _ _ _ _)); (fail_if_success (with_reducible show Code.wp _ (Code.loop _) _ _ _)); (first | ((with_reducible show Code.wp _ (Code.region _ _ false) _ _ _); (refine sx_region ?_)) | ((with_reducible show Code.wp _ (Code.cond _ _ _) _ _ _); (first | (refine svT F (h := ?_)) | (refine svF F (h := ?_)) | ((refine svB F (fun hc => ?_) (fun hc => ?_)) <;> (try (exact no hc))))) | ((with_reducible show Code.wp _ (Code.region _ _ true) _ _ _); fail) | go_step))))
      (refine sv_again F M (k + 1, x + y) kpA permsA ?_ ?_)
      · exact ⟨by omega, ⟨by omega, by omega⟩, by rw [h3, hd, satGo, if_neg hov]⟩
      · simp only []; omega
  · (repeat' (first | (first | (refine sx_nil ?_; (try (replace F := F.filt [0, 2, 3, 4, 6, 7, 8, 9, 10, 17] rfl))) | (refine sv1 F M (h := ?_) (hr := by fail); clear F a; intro a F) | (refine sv1 F M (h := ?_); clear F a; intro a F) | (refine sv3 F M (h := ?_); clear M; intro w M) | (refine sv2 F M (h := ?_); clear F M a; intro b a w F M) | (refine svC F M (h := ?_); fail; (clear F M a; intro a w F M)) | (refine svC0 F M (h := ?_); fail; (clear M; intro w M)) | (refine sv1 F M (h := ?_) (hr := by fail); clear F a; intro a F) | (refine svK F (h := ?_); clear F a; intro a F) | (refine svK0 F (h := ?_)) | ((refine sx_guardb F rfl (fun hg => ?_) (fun hg => ?_)) <;> (rw [hg] at F; (try (exact no hg))))) | (first | (refine pv1 (h := ?_) (hr := by fail)) | (refine pv1 (h := ?_)) | (refine pv3 (h := ?_)) | (refine pv2 (h := ?_); intro b) | (refine pvC (h := ?_); fail; (refine ⟨?_, ?_⟩; (exact rvsA))) | (refine pvC0 (h := ?_); fail; (refine ⟨?_, ?_⟩; (exact rvsA))) | (refine pv1 (h := ?_) (hr := by fail)) | (refine pvF (h := ?_); intro b) | (refine pvK (h := ?_)) | (refine pvK0 (h := ?_)) | (refine pv_nil ?_; intro a w F M; refine ql_open ?_) | (refine pv_nil ?_; intro a w F M; (try (replace F := F.filt [0, 2, 3, 4, 6, 7, 8, 9, 10, 17] rfl)))) | ((fail_if_success (with_reducible show wpList _ _ _ _ _ _)); (fail_if_success (with_reducible show PW _ _ _ _ _ _ _ _ _ _)); (fail_if_success (with_reducible show Code.wp _ (Code.loop _) _ _ _)); (first | ((with_reducible show Code.wp _ (Code.region _ _ false) _ _ _); (refine sx_region ?_)) | ((with_reducible show Code.wp _ (Code.cond _ _ _) _ _ _); (first | (refine svT F (h := ?_)) | (refine svF F (h := ?_)) | ((refine svB F (fun hc => ?_) (fun hc => ?_)) <;> (try (exact no hc))))) | ((with_reducible show Code.wp _ (Code.region _ _ true) _ _ _); fail) | go_step))))
    (all_goals ((first | (refine svEnd F M ?_) | (refine svRet F M ?_)); refine ⟨?_, M.perms permsA⟩))
    have hk : k = zs.length := by omega
    rw [h3, hk, List.drop_length, satGo]; rfl
/-- The sum, or 0 and false. -/
def addR (zs : List Int) : Int × Bool := if (satGo 0 zs).2 then (0, false) else ((satGo 0 zs).1, true)
theorem gadd_reads (v : Value) (zs : List Int) (hz : ∀ z ∈ zs, U64 z) {L : List Asn} (hg : GS L 1 v zs.length (zs.flatMap u64L)) :
    Reads 39 [v] (.tuple [.int .u64 (addR zs).1, .bool (addR zs).2].toArray) L := by
  (intro K hK w M; refine sx_enter Tryz.func39 (n := 13) rfl rfl rfl rfl ?_; intro a F)
  replace hg := hg.imp hK
  have HS := Lib.hid (saturate_reads v zs hz hg)
  unfold addR
  generalize satGo 0 zs = R at *
  (repeat' (first | (first | (refine sx_nil ?_; (try (replace F := F.filt [0, 2, 3, 4, 5, 11] rfl))) | (refine sv1 F M (h := ?_) (hr := by fail); clear F a; intro a F) | (refine sv1 F M (h := ?_); clear F a; intro a F) | (refine sv3 F M (h := ?_); clear M; intro w M) | (refine sv2 F M (h := ?_); clear F M a; intro b a w F M) | (refine svC F M (h := ?_); (((refine acCall (k := 91) ?_); (refine Spec.of_reads HS.out rfl ?_))); (clear F M a; intro a w F M)) | (refine svC0 F M (h := ?_); (((refine acCall (k := 91) ?_); (refine Spec.of_reads HS.out rfl ?_))); (clear M; intro w M)) | (refine sv1 F M (h := ?_) (hr := by fail); clear F a; intro a F) | (refine svK F (h := ?_); clear F a; intro a F) | (refine svK0 F (h := ?_)) | ((refine sx_guardb F rfl (fun hg => ?_) (fun hg => ?_)) <;> (rw [hg] at F; (try (exact no hg))))) | (first | (refine pv1 (h := ?_) (hr := by fail)) | (refine pv1 (h := ?_)) | (refine pv3 (h := ?_)) | (refine pv2 (h := ?_); intro b) | (refine pvC (h := ?_); (((refine acCall (k := 91) ?_); (refine Spec.of_reads HS.out rfl ?_))); (refine ⟨?_, ?_⟩; (exact rvsA))) | (refine pvC0 (h := ?_); (((refine acCall (k := 91) ?_); (refine Spec.of_reads HS.out rfl ?_))); (refine ⟨?_, ?_⟩; (exact rvsA))) | (refine pv1 (h := ?_) (hr := by fail)) | (refine pvF (h := ?_); intro b) | (refine pvK (h := ?_)) | (refine pvK0 (h := ?_)) | (refine pv_nil ?_; intro a w F M; refine ql_open ?_) | (refine pv_nil ?_; intro a w F M; (try (replace F := F.filt [0, 2, 3, 4, 5, 11] rfl)))) | ((fail_if_success (with_reducible show wpList _ _ _ _ _ _)); (fail_if_success (with_reducible show PW _ _ _ _ _ _ _ _ _ _)); (fail_if_success (with_reducible show Code.wp _ (Code.loop _) _ _ _)); (first | ((with_reducible show Code.wp _ (Code.region _ _ false) _ _ _); (refine sx_region ?_)) | ((with_reducible show Code.wp _ (Code.cond _ _ _) _ _ _); (first | (refine svT F (h := ?_)) | (refine svF F (h := ?_)) | ((refine svB F (fun hc => ?_) (fun hc => ?_)) <;> (try (exact no hc))))) | ((with_reducible show Code.wp _ (Code.region _ _ true) _ _ _); fail) | go_step))))
  (all_goals ((first | (refine svEnd F M ?_) | (refine svRet F M ?_)); refine ⟨?_, M.perms permsA⟩))
  all_goals simp_all [tupOf]
theorem rmax_reads {L : List Asn} : Reads 167 [] (.int .u64 18446744073709551615) L := by
  (intro K hK w M; refine sx_enter Tryz.func167 (n := 1) rfl rfl rfl rfl ?_; intro a F)
  (repeat' (first | (first | (refine sx_nil ?_; (try (replace F := F.filt [0] rfl))) | (refine sv1 F M (h := ?_) (hr := by fail); clear F a; intro a F) | (refine sv1 F M (h := ?_); clear F a; intro a F) | (refine sv3 F M (h := ?_); clear M; intro w M) | (refine sv2 F M (h := ?_); clear F M a; intro b a w F M) | (refine svC F M (h := ?_); (((refine acCall (k := 91) ?_); (refine Spec.of_reads HS.out rfl ?_))); (clear F M a; intro a w F M)) | (refine svC0 F M (h := ?_); (((refine acCall (k := 91) ?_); (refine Spec.of_reads HS.out rfl ?_))); (clear M; intro w M)) | (refine sv1 F M (h := ?_) (hr := by fail); clear F a; intro a F) | (refine svK F (h := ?_); clear F a; intro a F) | (refine svK0 F (h := ?_)) | ((refine sx_guardb F rfl (fun hg => ?_) (fun hg => ?_)) <;> (rw [hg] at F; (try (exact no hg))))) | (first | (refine pv1 (h := ?_) (hr := by fail)) | (refine pv1 (h := ?_)) | (refine pv3 (h := ?_)) | (refine pv2 (h := ?_); intro b) | (refine pvC (h := ?_); (((refine acCall (k := 91) ?_); (refine Spec.of_reads HS.out rfl ?_))); (refine ⟨?_, ?_⟩; (exact rvsA))) | (refine pvC0 (h := ?_); (((refine acCall (k := 91) ?_); (refine Spec.of_reads HS.out rfl ?_))); (refine ⟨?_, ?_⟩; (exact rvsA))) | (refine pv1 (h := ?_) (hr := by fail)) | (refine pvF (h := ?_); intro b) | (refine pvK (h := ?_)) | (refine pvK0 (h := ?_)) | (refine pv_nil ?_; intro a w F M; refine ql_open ?_) | (refine pv_nil ?_; intro a w F M; (try (replace F := F.filt [0] rfl)))) | ((fail_if_success (with_reducible show wpList _ _ _ _ _ _)); (fail_if_success (with_reducible show PW _ _ _ _ _ _ _ _ _ _)); (fail_if_success (with_reducible show Code.wp _ (Code.loop _) _ _ _)); (first | ((with_reducible show Code.wp _ (Code.region _ _ false) _ _ _); (refine sx_region ?_)) | ((with_reducible show Code.wp _ (Code.cond _ _ _) _ _ _); (first | (refine svT F (h := ?_)) | (refine svF F (h := ?_)) | ((refine svB F (fun hc => ?_) (fun hc => ?_)) <;> (try (exact no hc))))) | ((with_reducible show Code.wp _ (Code.region _ _ true) _ _ _); fail) | go_step))))
  (all_goals ((first | (refine svEnd F M ?_) | (refine svRet F M ?_)); refine ⟨?_, M.perms permsA⟩))
  all_goals rfl
def raddGo : Int → List Int → Int × Bool
  | n, [] => (n, true)
  | n, x :: r => if 18446744073709551615 - n < x then (0, false) else raddGo (n + x) r
theorem raddGo_eq : ∀ (l : List Int) (n : Int), raddGo n l = if (satGo n l).2 then (0, false) else ((satGo n l).1, true)
  | [], n => by simp [raddGo, satGo]
  | x :: r, n => by
    rw [raddGo, satGo]
    by_cases h : 18446744073709551615 < n + x
    · rw [if_pos h, if_pos (by omega)]; rfl
    · rw [if_neg h, if_neg (by omega), raddGo_eq r]
theorem radd_reads (v : Value) (zs : List Int) (hz : ∀ z ∈ zs, U64 z) {L : List Asn} (hg : GS L 1 v zs.length (zs.flatMap u64L)) :
    Reads 89 [v] (.tuple [.int .u64 (addR zs).1, .bool (addR zs).2].toArray) L := by
  (intro K hK w M; refine sx_enter Tryz.func89 (n := 27) rfl rfl rfl rfl ?_; intro a F)
  replace hg := hg.imp hK
  have hlen := hg.len_le M
  have hR : addR zs = raddGo 0 zs := (raddGo_eq zs 0).symm
  generalize addR zs = R at *
  (repeat' (first | (first | (refine sx_nil ?_; (try (replace F := F.filt [0, 2, 3, 4, 5, 9, 19] rfl))) | (refine sv1 F M (h := ?_) (hr := by fail); clear F a; intro a F) | (refine sv1 F M (h := ?_); clear F a; intro a F) | (refine sv3 F M (h := ?_); clear M; intro w M) | (refine sv2 F M (h := ?_); clear F M a; intro b a w F M) | (refine svC F M (h := ?_); (((refine acCall (k := 167) ?_); (refine Spec.of_reads rmax_reads rfl ?_))); (clear F M a; intro a w F M)) | (refine svC0 F M (h := ?_); (((refine acCall (k := 167) ?_); (refine Spec.of_reads rmax_reads rfl ?_))); (clear M; intro w M)) | (refine sv1 F M (h := ?_) (hr := by fail); clear F a; intro a F) | (refine svK F (h := ?_); clear F a; intro a F) | (refine svK0 F (h := ?_)) | ((refine sx_guardb F rfl (fun hg => ?_) (fun hg => ?_)) <;> (rw [hg] at F; (try (exact no hg))))) | (first | (refine pv1 (h := ?_) (hr := by fail)) | (refine pv1 (h := ?_)) | (refine pv3 (h := ?_)) | (refine pv2 (h := ?_); intro b) | (refine pvC (h := ?_); (((refine acCall (k := 167) ?_); (refine Spec.of_reads rmax_reads rfl ?_))); (refine ⟨?_, ?_⟩; (exact rvsA))) | (refine pvC0 (h := ?_); (((refine acCall (k := 167) ?_); (refine Spec.of_reads rmax_reads rfl ?_))); (refine ⟨?_, ?_⟩; (exact rvsA))) | (refine pv1 (h := ?_) (hr := by fail)) | (refine pvF (h := ?_); intro b) | (refine pvK (h := ?_)) | (refine pvK0 (h := ?_)) | (refine pv_nil ?_; intro a w F M; refine ql_open ?_) | (refine pv_nil ?_; intro a w F M; (try (replace F := F.filt [0, 2, 3, 4, 5, 9, 19] rfl)))) | ((fail_if_success (with_reducible show wpList _ _ _ _ _ _)); (fail_if_success (with_reducible show PW _ _ _ _ _ _ _ _ _ _)); (fail_if_success (with_reducible show Code.wp _ (Code.loop _) _ _ _)); (first | ((with_reducible show Code.wp _ (Code.region _ _ false) _ _ _); (refine sx_region ?_)) | ((with_reducible show Code.wp _ (Code.cond _ _ _) _ _ _); (first | (refine svT F (h := ?_)) | (refine svF F (h := ?_)) | ((refine svB F (fun hc => ?_) (fun hc => ?_)) <;> (try (exact no hc))))) | ((with_reducible show Code.wp _ (Code.region _ _ true) _ _ _); (first | (refine svDraw (id := 5) [4] [] [(4, [0, 1, 2, 3, 5])] [0, 1, 2, 3, 5, 4, 6, 7] F M (h := ?_); clear F M a w))) | go_step))))
  refine sv_loop (σ := Nat × Int) (fun s => [(4, .int .u64 s.2), (0, v), (5, .int .i64 s.1)]) (fun _ => K) (fun s => s.1 ≤ zs.length ∧ U64 s.2 ∧ R = raddGo s.2 (zs.drop s.1)) (fun s => zs.length - s.1) F M (0, 0) kpA permsA ⟨by omega, ⟨by omega, by omega⟩, by simp [hR]⟩ ?_
  rintro ⟨k, x⟩ ⟨h1, h2, h3⟩ a w F M
  simp only at h1 h2 h3 F ⊢
  have h21 := h2.1; have h22 := h2.2
  by_cases hlt : k < zs.length
  · obtain ⟨y, hy⟩ : ∃ y, zs[k]? = some y := ⟨zs[k], by simp [hlt]⟩
    have hyr := hz y (List.mem_of_getElem? hy)
    have hy1 := hyr.1; have hy2 := hyr.2
    have hd := drop_cons hy
    by_cases hov : 18446744073709551615 - x < y
    · (repeat' (first | (first | (refine sx_nil ?_; (try (replace F := F.filt [0, 2, 3, 4, 5, 9, 19] rfl))) | (refine sv1 F M (h := ?_) (hr := by fail); clear F a; intro a F) | (refine sv1 F M (h := ?_); clear F a; intro a F) | (refine sv3 F M (h := ?_); clear M; intro w M) | (refine sv2 F M (h := ?_); clear F M a; intro b a w F M) | (refine svC F M (h := ?_); (((refine acCall (k := 167) ?_); (refine Spec.of_reads rmax_reads rfl ?_))); (clear F M a; intro a w F M)) | (refine svC0 F M (h := ?_); (((refine acCall (k := 167) ?_); (refine Spec.of_reads rmax_reads rfl ?_))); (clear M; intro w M)) | (refine sv1 F M (h := ?_) (hr := by fail); clear F a; intro a F) | (refine svK F (h := ?_); clear F a; intro a F) | (refine svK0 F (h := ?_)) | ((refine sx_guardb F rfl (fun hg => ?_) (fun hg => ?_)) <;> (rw [hg] at F; (try (exact no hg))))) | (first | (refine pv1 (h := ?_) (hr := by fail)) | (refine pv1 (h := ?_)) | (refine pv3 (h := ?_)) | (refine pv2 (h := ?_); intro b) | (refine pvC (h := ?_); (((refine acCall (k := 167) ?_); (refine Spec.of_reads rmax_reads rfl ?_))); (refine ⟨?_, ?_⟩; (exact rvsA))) | (refine pvC0 (h := ?_); (((refine acCall (k := 167) ?_); (refine Spec.of_reads rmax_reads rfl ?_))); (refine ⟨?_, ?_⟩; (exact rvsA))) | (refine pv1 (h := ?_) (hr := by fail)) | (refine pvF (h := ?_); intro b) | (refine pvK (h := ?_)) | (refine pvK0 (h := ?_)) | (refine pv_nil ?_; intro a w F M; refine ql_open ?_) | (refine pv_nil ?_; intro a w F M; (try (replace F := F.filt [0, 2, 3, 4, 5, 9, 19] rfl)))) | ((fail_if_success (with_reducible show wpList _ _ _ _ _ _)); (fail_if_success (with_reducible show PW _ _ _ _ _ _ _ _ _ _)); (fail_if_success (with_reducible show Code.wp _ (Code.loop _) _ _ _)); (first | ((with_reducible show Code.wp _ (Code.region _ _ false) _ _ _); (refine sx_region ?_)) | ((with_reducible show Code.wp _ (Code.cond _ _ _) _ _ _); (first | (refine svT F (h := ?_)) | (refine svF F (h := ?_)) | ((refine svB F (fun hc => ?_) (fun hc => ?_)) <;> (try (exact no hc))))) | ((with_reducible show Code.wp _ (Code.region _ _ true) _ _ _); (first | (refine svDraw (id := 5) [4] [] [(4, [0, 1, 2, 3, 5])] [0, 1, 2, 3, 5, 4, 6, 7] F M (h := ?_); clear F M a w))) | go_step))))
      (all_goals ((first | (refine svEnd F M ?_) | (refine svRet F M ?_)); refine ⟨?_, M.perms permsA⟩))
      rw [h3, hd, raddGo, if_pos hov]; rfl
    · (repeat' (first | (first | (refine sx_nil ?_; (try (replace F := F.filt [0, 2, 3, 4, 5, 9, 19] rfl))) | (refine sv1 F M (h := ?_) (hr := by fail); clear F a; intro a F) | (refine sv1 F M (h := ?_); clear F a; intro a F) | (refine sv3 F M (h := ?_); clear M; intro w M) | (refine sv2 F M (h := ?_); clear F M a; intro b a w F M) | (refine svC F M (h := ?_); (((refine acCall (k := 167) ?_); (refine Spec.of_reads rmax_reads rfl ?_))); (clear F M a; intro a w F M)) | (refine svC0 F M (h := ?_); (((refine acCall (k := 167) ?_); (refine Spec.of_reads rmax_reads rfl ?_))); (clear M; intro w M)) | (refine sv1 F M (h := ?_) (hr := by fail); clear F a; intro a F) | (refine svK F (h := ?_); clear F a; intro a F) | (refine svK0 F (h := ?_)) | ((refine sx_guardb F rfl (fun hg => ?_) (fun hg => ?_)) <;> (rw [hg] at F; (try (exact no hg))))) | (first | (refine pv1 (h := ?_) (hr := by fail)) | (refine pv1 (h := ?_)) | (refine pv3 (h := ?_)) | (refine pv2 (h := ?_); intro b) | (refine pvC (h := ?_); (((refine acCall (k := 167) ?_); (refine Spec.of_reads rmax_reads rfl ?_))); (refine ⟨?_, ?_⟩; (exact rvsA))) | (refine pvC0 (h := ?_); (((refine acCall (k := 167) ?_); (refine Spec.of_reads rmax_reads rfl ?_))); (refine ⟨?_, ?_⟩; (exact rvsA))) | (refine pv1 (h := ?_) (hr := by fail)) | (refine pvF (h := ?_); intro b) | (refine pvK (h := ?_)) | (refine pvK0 (h := ?_)) | (refine pv_nil ?_; intro a w F M; refine ql_open ?_) | (refine pv_nil ?_; intro a w F M; (try (replace F := F.filt [0, 2, 3, 4, 5, 9, 19] rfl)))) | ((fail_if_success (with_reducible show wpList _ _ _ _ _ _)); (fail_if_success (with_reducible show PW _ _ _ _ _ _ _ _ _ _)); (fail_if_success (with_reducible show Code.wp _ (Code.loop _) _ _ _)); (first | ((with_reducible show Code.wp _ (Code.region _ _ false) _ _ _); (refine sx_region ?_)) | ((with_reducible show Code.wp _ (Code.cond _ _ _) _ _ _); (first | (refine svT F (h := ?_)) | (refine svF F (h := ?_)) | ((refine svB F (fun hc => ?_) (fun hc => ?_)) <;> (try (exact no hc))))) | ((with_reducible show Code.wp _ (Code.region _ _ true) _ _ _); (first | (refine svDraw (id := 5) [4] [] [(4, [0, 1, 2, 3, 5])] [0, 1, 2, 3, 5, 4, 6, 7] F M (h := ?_); clear F M a w))) | go_step))))
      (refine sv_again F M (k + 1, x + y) kpA permsA ?_ ?_)
      · exact ⟨by omega, ⟨by omega, by omega⟩, by rw [h3, hd, raddGo, if_neg hov]⟩
      · simp only []; omega
  · (repeat' (first | (first | (refine sx_nil ?_; (try (replace F := F.filt [0, 2, 3, 4, 5, 9, 19] rfl))) | (refine sv1 F M (h := ?_) (hr := by fail); clear F a; intro a F) | (refine sv1 F M (h := ?_); clear F a; intro a F) | (refine sv3 F M (h := ?_); clear M; intro w M) | (refine sv2 F M (h := ?_); clear F M a; intro b a w F M) | (refine svC F M (h := ?_); (((refine acCall (k := 167) ?_); (refine Spec.of_reads rmax_reads rfl ?_))); (clear F M a; intro a w F M)) | (refine svC0 F M (h := ?_); (((refine acCall (k := 167) ?_); (refine Spec.of_reads rmax_reads rfl ?_))); (clear M; intro w M)) | (refine sv1 F M (h := ?_) (hr := by fail); clear F a; intro a F) | (refine svK F (h := ?_); clear F a; intro a F) | (refine svK0 F (h := ?_)) | ((refine sx_guardb F rfl (fun hg => ?_) (fun hg => ?_)) <;> (rw [hg] at F; (try (exact no hg))))) | (first | (refine pv1 (h := ?_) (hr := by fail)) | (refine pv1 (h := ?_)) | (refine pv3 (h := ?_)) | (refine pv2 (h := ?_); intro b) | (refine pvC (h := ?_); (((refine acCall (k := 167) ?_); (refine Spec.of_reads rmax_reads rfl ?_))); (refine ⟨?_, ?_⟩; (exact rvsA))) | (refine pvC0 (h := ?_); (((refine acCall (k := 167) ?_); (refine Spec.of_reads rmax_reads rfl ?_))); (refine ⟨?_, ?_⟩; (exact rvsA))) | (refine pv1 (h := ?_) (hr := by fail)) | (refine pvF (h := ?_); intro b) | (refine pvK (h := ?_)) | (refine pvK0 (h := ?_)) | (refine pv_nil ?_; intro a w F M; refine ql_open ?_) | (refine pv_nil ?_; intro a w F M; (try (replace F := F.filt [0, 2, 3, 4, 5, 9, 19] rfl)))) | ((fail_if_success (with_reducible show wpList _ _ _ _ _ _)); (fail_if_success (with_reducible show PW _ _ _ _ _ _ _ _ _ _)); (fail_if_success (with_reducible show Code.wp _ (Code.loop _) _ _ _)); (first | ((with_reducible show Code.wp _ (Code.region _ _ false) _ _ _); (refine sx_region ?_)) | ((with_reducible show Code.wp _ (Code.cond _ _ _) _ _ _); (first | (refine svT F (h := ?_)) | (refine svF F (h := ?_)) | ((refine svB F (fun hc => ?_) (fun hc => ?_)) <;> (try (exact no hc))))) | ((with_reducible show Code.wp _ (Code.region _ _ true) _ _ _); (first | (refine svDraw (id := 5) [4] [] [(4, [0, 1, 2, 3, 5])] [0, 1, 2, 3, 5, 4, 6, 7] F M (h := ?_); clear F M a w))) | go_step))))
    (all_goals ((first | (refine svEnd F M ?_) | (refine svRet F M ?_)); refine ⟨?_, M.perms permsA⟩))
    have hk : k = zs.length := by omega
    rw [h3, hk, List.drop_length, raddGo]; rfl
end Go.Proofs.YtopbohbkhljjgaaGreat
end
section
namespace Go.Proofs.YtopbohbkhljjgaaGreat
open Go.RowKit
set_option linter.unusedVariables false
/-- The state: what both engines hold; lv, bo: what the program holds besides (the exits of the next epoch, the ring of unbonding). -/
structure St where
  bk : Nat
  V : List Val
  dep : Int
  pd : Int
  bu : Int
  pe : List Nat
  fo : List Nat
  vo : List Nat
  me : List (Nat × Nat)
  pa : List (Nat × Int)
  at' : Nat
  ca : Int
  lv : List Nat
  bo : List (Int × Nat)
def St.ini : St := ⟨0, [], 0, 0, 0, [], [], [], [], [], 0, 0, [], []⟩
def epo (c : Cfg) (s : St) : Int := (s.bk : Int) / c.epochLen
def Val.live (v : Val) : Bool := decide (v.st = 2) || decide (v.st = 3)
def bals (V : List Val) : List Int := V.map (·.bal)
def actv (V : List Val) : Int := (bals (V.filter Val.live)).sum
end Go.Proofs.YtopbohbkhljjgaaGreat
end
section
namespace Go.Proofs.YtopbohbkhljjgaaGreat
open Go.RowKit
set_option linter.unusedVariables false
set_option maxRecDepth 100000
set_option linter.unusedSimpArgs false
set_option maxHeartbeats 4000000
/-! ### The clock -/
abbrev ckC (b k : Nat) (e : Int) : Asn := pt b [.int .i64 (k : Int), .int .i64 e] 184
section
variable (b k : Nat) (e : Int) (he : 1 ≤ e ∧ e ≤ 4096) (hk : k ≤ 1000000001) (R : List Asn)
include he in
theorem clk_new : Spec 54 [.int .i64 e] R fun u L' => ∃ b, u = ptr b ∧ L' = ckC b 0 e :: R := by
  (intro G w M; refine sx_enter (vs := ([.int .i64 e] : List Value)) Tryz.func54 (n := 8) rfl rfl rfl rfl ?_; intro a F; (try simp only [List.cons_append, List.nil_append] at M))
  (repeat' (first | (refine sx_nil ?_; (try (replace F := F.filt [0, 2, 4] rfl))) | (refine sv1 F M (h := ?_); clear F a; intro a F) | refine pv1 (h := ?_) | (refine sv3 F M (h := ?_); clear M; intro w M) | (refine sv2 F M (h := ?_); clear F M a; intro nb a w F M) | refine pv3 (h := ?_) | (refine pv2 (h := ?_); intro nb) | ((first | refine svC F M (h := ?_) | refine svC0 F M (h := ?_) | refine pvC (h := ?_) | refine pvC0 (h := ?_)); (fail); (first | refine ⟨rvsA, ?_⟩ | (clear F M a; intro a w F M) | (clear M; intro w M))) | (refine svK F (h := ?_); clear F a; intro a F) | refine svK0 F (h := ?_) | ((refine sx_guardb F rfl (fun hg => ?_) (fun hg => ?_)) <;> (rw [hg] at F; (try (exact no hg)))) | (refine pvF (h := ?_); intro nb) | refine pvK (h := ?_) | refine pvK0 (h := ?_) | (refine pv_nil ?_; intro a w F M; (try (replace F := F.filt [0, 2, 4] rfl))) | ((fail_if_success (with_reducible first | refine isW ?_ | refine isP ?_ | refine isL ?_)); (first | with_reducible refine sx_region ?_ | ((with_reducible refine isK ?_); (first | refine svT F (h := ?_) | refine svF F (h := ?_) | ((refine svB F (fun hc => ?_) (fun hc => ?_)) <;> (try (exact no hc))))) | ((with_reducible refine isD ?_); fail) | with_reducible refine wp_scope_straight ?_ | with_reducible refine wp_label ?_ | go_step))))
  (all_goals ((first | refine svEnd F M ?_ | refine svRet F M ?_); exact ⟨_, _, rfl, ⟨nb, rfl, rfl⟩, M.perms permsA⟩))
theorem clk_now : Spec 157 [ptr b] (ckC b k e :: R) fun u L' => u = .int .i64 k ∧ L' = ckC b k e :: R := by
  (intro G w M; refine sx_enter (vs := ([ptr b] : List Value)) Tryz.func157 (n := 7) rfl rfl rfl rfl ?_; intro a F; (try simp only [List.cons_append, List.nil_append] at M))
  (repeat' (first | (refine sx_nil ?_; (try (replace F := F.filt [0, 2] rfl))) | (refine sv1 F M (h := ?_); clear F a; intro a F) | refine pv1 (h := ?_) | (refine sv3 F M (h := ?_); clear M; intro w M) | (refine sv2 F M (h := ?_); clear F M a; intro nb a w F M) | refine pv3 (h := ?_) | (refine pv2 (h := ?_); intro nb) | ((first | refine svC F M (h := ?_) | refine svC0 F M (h := ?_) | refine pvC (h := ?_) | refine pvC0 (h := ?_)); (fail); (first | refine ⟨rvsA, ?_⟩ | (clear F M a; intro a w F M) | (clear M; intro w M))) | (refine svK F (h := ?_); clear F a; intro a F) | refine svK0 F (h := ?_) | ((refine sx_guardb F rfl (fun hg => ?_) (fun hg => ?_)) <;> (rw [hg] at F; (try (exact no hg)))) | (refine pvF (h := ?_); intro nb) | refine pvK (h := ?_) | refine pvK0 (h := ?_) | (refine pv_nil ?_; intro a w F M; (try (replace F := F.filt [0, 2] rfl))) | ((fail_if_success (with_reducible first | refine isW ?_ | refine isP ?_ | refine isL ?_)); (first | with_reducible refine sx_region ?_ | ((with_reducible refine isK ?_); (first | refine svT F (h := ?_) | refine svF F (h := ?_) | ((refine svB F (fun hc => ?_) (fun hc => ?_)) <;> (try (exact no hc))))) | ((with_reducible refine isD ?_); fail) | with_reducible refine wp_scope_straight ?_ | with_reducible refine wp_label ?_ | go_step))))
  (all_goals ((first | refine svEnd F M ?_ | refine svRet F M ?_); exact ⟨_, _, rfl, ⟨rfl, rfl⟩, M.perms permsA⟩))
include hk in
theorem clk_next : Spec 192 [ptr b] (ckC b k e :: R) fun u L' => u = .tuple #[] ∧ L' = ckC b (k + 1) e :: R := by
  (intro G w M; refine sx_enter (vs := ([ptr b] : List Value)) Tryz.func192 (n := 9) rfl rfl rfl rfl ?_; intro a F; (try simp only [List.cons_append, List.nil_append] at M))
  (repeat' (first | (refine sx_nil ?_; (try (replace F := F.filt [0] rfl))) | (refine sv1 F M (h := ?_); clear F a; intro a F) | refine pv1 (h := ?_) | (refine sv3 F M (h := ?_); clear M; intro w M) | (refine sv2 F M (h := ?_); clear F M a; intro nb a w F M) | refine pv3 (h := ?_) | (refine pv2 (h := ?_); intro nb) | ((first | refine svC F M (h := ?_) | refine svC0 F M (h := ?_) | refine pvC (h := ?_) | refine pvC0 (h := ?_)); (fail); (first | refine ⟨rvsA, ?_⟩ | (clear F M a; intro a w F M) | (clear M; intro w M))) | (refine svK F (h := ?_); clear F a; intro a F) | refine svK0 F (h := ?_) | ((refine sx_guardb F rfl (fun hg => ?_) (fun hg => ?_)) <;> (rw [hg] at F; (try (exact no hg)))) | (refine pvF (h := ?_); intro nb) | refine pvK (h := ?_) | refine pvK0 (h := ?_) | (refine pv_nil ?_; intro a w F M; (try (replace F := F.filt [0] rfl))) | ((fail_if_success (with_reducible first | refine isW ?_ | refine isP ?_ | refine isL ?_)); (first | with_reducible refine sx_region ?_ | ((with_reducible refine isK ?_); (first | refine svT F (h := ?_) | refine svF F (h := ?_) | ((refine svB F (fun hc => ?_) (fun hc => ?_)) <;> (try (exact no hc))))) | ((with_reducible refine isD ?_); fail) | with_reducible refine wp_scope_straight ?_ | with_reducible refine wp_label ?_ | go_step))))
  all_goals (first | refine svEnd F M ?_ | refine svRet F M ?_)
  have e1 : (k : Int) + 1 = ((k + 1 : Nat) : Int) := by omega
  rw [e1] at M
  exact ⟨_, _, rfl, ⟨rfl, rfl⟩, M.perms permsA⟩
theorem clk_block : Spec 73 [ptr b] (ckC b k e :: R) fun u L' => u = .int .i64 k ∧ L' = ckC b k e :: R := by
  (intro G w M; refine sx_enter (vs := ([ptr b] : List Value)) Tryz.func73 (n := 9) rfl rfl rfl rfl ?_; intro a F; (try simp only [List.cons_append, List.nil_append] at M))
  (repeat' (first | (refine sx_nil ?_; (try (replace F := F.filt [0, 2, 4] rfl))) | (refine sv1 F M (h := ?_); clear F a; intro a F) | refine pv1 (h := ?_) | (refine sv3 F M (h := ?_); clear M; intro w M) | (refine sv2 F M (h := ?_); clear F M a; intro nb a w F M) | refine pv3 (h := ?_) | (refine pv2 (h := ?_); intro nb) | ((first | refine svC F M (h := ?_) | refine svC0 F M (h := ?_) | refine pvC (h := ?_) | refine pvC0 (h := ?_)); (((refine acK (k := 157) (clk_now b k e _) ?_); rintro u L' ⟨rfl, rfl⟩)); (first | refine ⟨rvsA, ?_⟩ | (clear F M a; intro a w F M) | (clear M; intro w M))) | (refine svK F (h := ?_); clear F a; intro a F) | refine svK0 F (h := ?_) | ((refine sx_guardb F rfl (fun hg => ?_) (fun hg => ?_)) <;> (rw [hg] at F; (try (exact no hg)))) | (refine pvF (h := ?_); intro nb) | refine pvK (h := ?_) | refine pvK0 (h := ?_) | (refine pv_nil ?_; intro a w F M; (try (replace F := F.filt [0, 2, 4] rfl))) | ((fail_if_success (with_reducible first | refine isW ?_ | refine isP ?_ | refine isL ?_)); (first | with_reducible refine sx_region ?_ | ((with_reducible refine isK ?_); (first | refine svT F (h := ?_) | refine svF F (h := ?_) | ((refine svB F (fun hc => ?_) (fun hc => ?_)) <;> (try (exact no hc))))) | ((with_reducible refine isD ?_); fail) | with_reducible refine wp_scope_straight ?_ | with_reducible refine wp_label ?_ | go_step))))
  (all_goals ((first | refine svEnd F M ?_ | refine svRet F M ?_); exact ⟨_, _, rfl, ⟨rfl, rfl⟩, M.perms permsA⟩))
include he hk in
theorem epochOf_spec : Spec 158 [.int .i64 k, .int .i64 e] R fun u L' => u = .int .i64 ((k : Int) / e) ∧ L' = R := by
  have hd0 : 0 ≤ (k : Int) / e := Int.ediv_nonneg (by omega) (by omega)
  have hd1 : (k : Int) / e ≤ k := Int.ediv_le_self _ (by omega)
  have hw : IntKind.i64.wrap ((k : Int) / e) = (k : Int) / e := IntWalk.i64_in _ ⟨by omega, by omega⟩
  (intro G w M; refine sx_enter (vs := ([.int .i64 k, .int .i64 e] : List Value)) Tryz.func158 (n := 14) rfl rfl rfl rfl ?_; intro a F; (try simp only [List.cons_append, List.nil_append] at M))
  (repeat' (first | (refine sx_nil ?_; (try (replace F := F.filt [0, 1, 4, 10] rfl))) | (refine sv1 F M (h := ?_); clear F a; intro a F) | refine pv1 (h := ?_) | (refine sv3 F M (h := ?_); clear M; intro w M) | (refine sv2 F M (h := ?_); clear F M a; intro nb a w F M) | refine pv3 (h := ?_) | (refine pv2 (h := ?_); intro nb) | ((first | refine svC F M (h := ?_) | refine svC0 F M (h := ?_) | refine pvC (h := ?_) | refine pvC0 (h := ?_)); (((refine acK (k := 157) (clk_now b k e _) ?_); rintro u L' ⟨rfl, rfl⟩)); (first | refine ⟨rvsA, ?_⟩ | (clear F M a; intro a w F M) | (clear M; intro w M))) | (refine svK F (h := ?_); clear F a; intro a F) | refine svK0 F (h := ?_) | ((refine sx_guardb F rfl (fun hg => ?_) (fun hg => ?_)) <;> (rw [hg] at F; (try (exact no hg)))) | (refine pvF (h := ?_); intro nb) | refine pvK (h := ?_) | refine pvK0 (h := ?_) | (refine pv_nil ?_; intro a w F M; (try (replace F := F.filt [0, 1, 4, 10] rfl))) | ((fail_if_success (with_reducible first | refine isW ?_ | refine isP ?_ | refine isL ?_)); (first | with_reducible refine sx_region ?_ | ((with_reducible refine isK ?_); (first | refine svT F (h := ?_) | refine svF F (h := ?_) | ((refine svB F (fun hc => ?_) (fun hc => ?_)) <;> (try (exact no hc))))) | ((with_reducible refine isD ?_); fail) | with_reducible refine wp_scope_straight ?_ | with_reducible refine wp_label ?_ | go_step))))
  (all_goals ((first | refine svEnd F M ?_ | refine svRet F M ?_); exact ⟨_, _, rfl, ⟨rfl, rfl⟩, M.perms permsA⟩))
include he hk in
theorem clk_epoch : Spec 74 [ptr b] (ckC b k e :: R) fun u L' => u = .int .i64 ((k : Int) / e) ∧ L' = ckC b k e :: R := by
  (intro G w M; refine sx_enter (vs := ([ptr b] : List Value)) Tryz.func74 (n := 14) rfl rfl rfl rfl ?_; intro a F; (try simp only [List.cons_append, List.nil_append] at M))
  (repeat' (first | (refine sx_nil ?_; (try (replace F := F.filt [0, 2, 4] rfl))) | (refine sv1 F M (h := ?_); clear F a; intro a F) | refine pv1 (h := ?_) | (refine sv3 F M (h := ?_); clear M; intro w M) | (refine sv2 F M (h := ?_); clear F M a; intro nb a w F M) | refine pv3 (h := ?_) | (refine pv2 (h := ?_); intro nb) | ((first | refine svC F M (h := ?_) | refine svC0 F M (h := ?_) | refine pvC (h := ?_) | refine pvC0 (h := ?_)); ((first | ((refine acK (k := 157) (clk_now b k e _) ?_); rintro u L' ⟨rfl, rfl⟩) | ((refine acW (k := 158) (epochOf_spec k e he hk _) ?_); rintro u L' ⟨rfl, rfl⟩))); (first | refine ⟨rvsA, ?_⟩ | (clear F M a; intro a w F M) | (clear M; intro w M))) | (refine svK F (h := ?_); clear F a; intro a F) | refine svK0 F (h := ?_) | ((refine sx_guardb F rfl (fun hg => ?_) (fun hg => ?_)) <;> (rw [hg] at F; (try (exact no hg)))) | (refine pvF (h := ?_); intro nb) | refine pvK (h := ?_) | refine pvK0 (h := ?_) | (refine pv_nil ?_; intro a w F M; (try (replace F := F.filt [0, 2, 4] rfl))) | ((fail_if_success (with_reducible first | refine isW ?_ | refine isP ?_ | refine isL ?_)); (first | with_reducible refine sx_region ?_ | ((with_reducible refine isK ?_); (first | refine svT F (h := ?_) | refine svF F (h := ?_) | ((refine svB F (fun hc => ?_) (fun hc => ?_)) <;> (try (exact no hc))))) | ((with_reducible refine isD ?_); (first | (refine svDraw (id := 3) [3, 8] [] [(3, [4, 5, 6, 7])] [0, 1, 2, 4, 5, 6, 7, 3, 8, 9] F M (h := ?_); clear F M a w))) | with_reducible refine wp_scope_straight ?_ | with_reducible refine wp_label ?_ | go_step))))
  (all_goals ((first | refine svEnd F M ?_ | refine svRet F M ?_); exact ⟨_, _, rfl, ⟨rfl, rfl⟩, M.perms permsA⟩))
end
/-! ### The ledger -/
abbrev ldC (b : Nat) (d p u c : Int) : Asn := pt b [.int .u64 d, .int .u64 p, .int .u64 u, .int .u64 c] 188
section
variable (b : Nat) (d p u c : Int) (h0 : 0 ≤ p ∧ 0 ≤ u ∧ p + u ≤ d ∧ d ≤ 18446744073709551615) (R : List Asn)
theorem led_new : Spec 55 [.int .u64 c] R fun v L' => ∃ b, v = ptr b ∧ L' = ldC b 0 0 0 c :: R := by
  (intro G w M; refine sx_enter (vs := ([.int .u64 c] : List Value)) Tryz.func55 (n := 6) rfl rfl rfl rfl ?_; intro a F; (try simp only [List.cons_append, List.nil_append] at M))
  (repeat' (first | (refine sx_nil ?_; (try (replace F := F.filt [0, 2] rfl))) | (refine sv1 F M (h := ?_); clear F a; intro a F) | refine pv1 (h := ?_) | (refine sv3 F M (h := ?_); clear M; intro w M) | (refine sv2 F M (h := ?_); clear F M a; intro nb a w F M) | refine pv3 (h := ?_) | (refine pv2 (h := ?_); intro nb) | ((first | refine svC F M (h := ?_) | refine svC0 F M (h := ?_) | refine pvC (h := ?_) | refine pvC0 (h := ?_)); ((first | ((refine acK (k := 157) (clk_now b (k + 1) e _) ?_); rintro u L' ⟨rfl, rfl⟩) | ((refine acK (k := 192) (clk_next b k e hk _) ?_); rintro u L' ⟨rfl, rfl⟩))); (first | refine ⟨rvsA, ?_⟩ | (clear F M a; intro a w F M) | (clear M; intro w M))) | (refine svK F (h := ?_); clear F a; intro a F) | refine svK0 F (h := ?_) | ((refine sx_guardb F rfl (fun hg => ?_) (fun hg => ?_)) <;> (rw [hg] at F; (try (exact no hg)))) | (refine pvF (h := ?_); intro nb) | refine pvK (h := ?_) | refine pvK0 (h := ?_) | (refine pv_nil ?_; intro a w F M; (try (replace F := F.filt [0, 2] rfl))) | ((fail_if_success (with_reducible first | refine isW ?_ | refine isP ?_ | refine isL ?_)); (first | with_reducible refine sx_region ?_ | ((with_reducible refine isK ?_); (first | refine svT F (h := ?_) | refine svF F (h := ?_) | ((refine svB F (fun hc => ?_) (fun hc => ?_)) <;> (try (exact no hc))))) | ((with_reducible refine isD ?_); fail) | with_reducible refine wp_scope_straight ?_ | with_reducible refine wp_label ?_ | go_step))))
  (all_goals ((first | refine svEnd F M ?_ | refine svRet F M ?_); exact ⟨_, _, rfl, ⟨nb, rfl, rfl⟩, M.perms permsA⟩))
theorem led_totals : Spec 77 [ptr b] (ldC b d p u c :: R) fun v L' => v = .agg [.int .u64 d, .int .u64 p, .int .u64 u].toArray ∧ L' = ldC b d p u c :: R := by
  (intro G w M; refine sx_enter (vs := ([ptr b] : List Value)) Tryz.func77 (n := 11) rfl rfl rfl rfl ?_; intro a F; (try simp only [List.cons_append, List.nil_append] at M))
  (repeat' (first | (refine sx_nil ?_; (try (replace F := F.filt [0, 2, 4] rfl))) | (refine sv1 F M (h := ?_); clear F a; intro a F) | refine pv1 (h := ?_) | (refine sv3 F M (h := ?_); clear M; intro w M) | (refine sv2 F M (h := ?_); clear F M a; intro nb a w F M) | refine pv3 (h := ?_) | (refine pv2 (h := ?_); intro nb) | ((first | refine svC F M (h := ?_) | refine svC0 F M (h := ?_) | refine pvC (h := ?_) | refine pvC0 (h := ?_)); ((first | ((refine acK (k := 157) (clk_now b (k + 1) e _) ?_); rintro u L' ⟨rfl, rfl⟩) | ((refine acK (k := 192) (clk_next b k e hk _) ?_); rintro u L' ⟨rfl, rfl⟩))); (first | refine ⟨rvsA, ?_⟩ | (clear F M a; intro a w F M) | (clear M; intro w M))) | (refine svK F (h := ?_); clear F a; intro a F) | refine svK0 F (h := ?_) | ((refine sx_guardb F rfl (fun hg => ?_) (fun hg => ?_)) <;> (rw [hg] at F; (try (exact no hg)))) | (refine pvF (h := ?_); intro nb) | refine pvK (h := ?_) | refine pvK0 (h := ?_) | (refine pv_nil ?_; intro a w F M; (try (replace F := F.filt [0, 2, 4] rfl))) | ((fail_if_success (with_reducible first | refine isW ?_ | refine isP ?_ | refine isL ?_)); (first | with_reducible refine sx_region ?_ | ((with_reducible refine isK ?_); (first | refine svT F (h := ?_) | refine svF F (h := ?_) | ((refine svB F (fun hc => ?_) (fun hc => ?_)) <;> (try (exact no hc))))) | ((with_reducible refine isD ?_); fail) | with_reducible refine wp_scope_straight ?_ | with_reducible refine wp_label ?_ | go_step))))
  (all_goals ((first | refine svEnd F M ?_ | refine svRet F M ?_); exact ⟨_, _, rfl, ⟨rfl, rfl⟩, M.perms permsA⟩))
end
structure MtZ where
  g : Int
  t : Int
  d : Int
  f : Int
abbrev mtP (b : Nat) (z : MtZ) : Asn := pt b [.int .u64 z.g, .int .u64 z.t, .int .u64 z.d, .int .u64 z.f] 199
def MtOk (ca : Int) (z : MtZ) : Prop := IntKind.u64.wrap (IntKind.u64.wrap (z.g - z.t) - z.d) = ca ∧ U64 z.g ∧ U64 z.t ∧ U64 z.d
def mtA (b : Nat) (ca : Int) : Asn := exA fun z : MtZ => [factA (MtOk ca z), mtP b z]
theorem mt_open {w : World} {L : List Asn} {b : Nat} {ca : Int} (M : Mem w (mtA b ca :: L)) : ∃ z, MtOk ca z ∧ Mem w (mtP b z :: L) := by
  obtain ⟨z, M⟩ := M.exo
  obtain ⟨h, M⟩ := Mem.factO M
  exact ⟨z, h, M⟩
theorem mt_close {w : World} {L : List Asn} {b : Nat} {ca : Int} {z : MtZ} (h : MtOk ca z) (M : Mem w (mtP b z :: L)) : Mem w (mtA b ca :: L) := Mem.exc z (Mem.fact h M)
section
variable (b : Nat) (ca : Int) (R : List Asn)
theorem mt_new : Spec 58 [] R fun u L' => ∃ b, u = ptr b ∧ L' = mtA b 0 :: R := by
  (intro G w M; refine sx_enter (vs := ([] : List Value)) Tryz.func58 (n := 3) rfl rfl rfl rfl ?_; intro a F; (try simp only [List.cons_append, List.nil_append] at M))
  (repeat' (first | (refine sx_nil ?_; (try (replace F := F.filt [0] rfl))) | (refine sv1 F M (h := ?_); clear F a; intro a F) | refine pv1 (h := ?_) | (refine sv3 F M (h := ?_); clear M; intro w M) | (refine sv2 F M (h := ?_); clear F M a; intro nb a w F M) | refine pv3 (h := ?_) | (refine pv2 (h := ?_); intro nb) | ((first | refine svC F M (h := ?_) | refine svC0 F M (h := ?_) | refine pvC (h := ?_) | refine pvC0 (h := ?_)); (((refine acK (k := 221) (hb _ _) ?_); rintro u L' ⟨rfl, rfl⟩)); (first | refine ⟨rvsA, ?_⟩ | (clear F M a; intro a w F M) | (clear M; intro w M))) | (refine svK F (h := ?_); clear F a; intro a F) | refine svK0 F (h := ?_) | ((refine sx_guardb F rfl (fun hg => ?_) (fun hg => ?_)) <;> (rw [hg] at F; (try (exact no hg)))) | (refine pvF (h := ?_); intro nb) | refine pvK (h := ?_) | refine pvK0 (h := ?_) | (refine pv_nil ?_; intro a w F M; (try (replace F := F.filt [0] rfl))) | ((fail_if_success (with_reducible first | refine isW ?_ | refine isP ?_ | refine isL ?_)); (first | with_reducible refine sx_region ?_ | ((with_reducible refine isK ?_); (first | refine svT F (h := ?_) | refine svF F (h := ?_) | ((refine svB F (fun hc => ?_) (fun hc => ?_)) <;> (try (exact no hc))))) | ((with_reducible refine isD ?_); fail) | with_reducible refine wp_scope_straight ?_ | with_reducible refine wp_label ?_ | go_step))))
  all_goals (first | refine svEnd F M ?_ | refine svRet F M ?_)
  exact ⟨_, _, rfl, ⟨nb, rfl, rfl⟩, mt_close (z := ⟨0, 0, 0, 0⟩) ⟨by decide, ⟨by decide, by decide⟩, ⟨by decide, by decide⟩, ⟨by decide, by decide⟩⟩ (M.perms permsA)⟩
theorem mt_bal0 (z : MtZ) (h : MtOk ca z) : Spec 166 [ptr b] (mtP b z :: R) fun u L' => u = .int .u64 ca ∧ L' = mtP b z :: R := by
  obtain ⟨h1, h2, h3, h4⟩ := h
  (intro G w M; refine sx_enter (vs := ([ptr b] : List Value)) Tryz.func166 (n := 20) rfl rfl rfl rfl ?_; intro a F; (try simp only [List.cons_append, List.nil_append] at M))
  (repeat' (first | (refine sx_nil ?_; (try (replace F := F.filt [0, 2] rfl))) | (refine sv1 F M (h := ?_); clear F a; intro a F) | refine pv1 (h := ?_) | (refine sv3 F M (h := ?_); clear M; intro w M) | (refine sv2 F M (h := ?_); clear F M a; intro nb a w F M) | refine pv3 (h := ?_) | (refine pv2 (h := ?_); intro nb) | ((first | refine svC F M (h := ?_) | refine svC0 F M (h := ?_) | refine pvC (h := ?_) | refine pvC0 (h := ?_)); (((refine acK (k := 221) (hb _ _) ?_); rintro u L' ⟨rfl, rfl⟩)); (first | refine ⟨rvsA, ?_⟩ | (clear F M a; intro a w F M) | (clear M; intro w M))) | (refine svK F (h := ?_); clear F a; intro a F) | refine svK0 F (h := ?_) | ((refine sx_guardb F rfl (fun hg => ?_) (fun hg => ?_)) <;> (rw [hg] at F; (try (exact no hg)))) | (refine pvF (h := ?_); intro nb) | refine pvK (h := ?_) | refine pvK0 (h := ?_) | (refine pv_nil ?_; intro a w F M; (try (replace F := F.filt [0, 2] rfl))) | ((fail_if_success (with_reducible first | refine isW ?_ | refine isP ?_ | refine isL ?_)); (first | with_reducible refine sx_region ?_ | ((with_reducible refine isK ?_); (first | refine svT F (h := ?_) | refine svF F (h := ?_) | ((refine svB F (fun hc => ?_) (fun hc => ?_)) <;> (try (exact no hc))))) | ((with_reducible refine isD ?_); (first | (refine svDraw (id := 1) [] [] [] [0, 1, 2, 3, 4, 5, 6, 7, 8, 9, 10, 11, 12, 13, 14, 15, 16, 17] F M (h := ?_); clear F M a w))) | with_reducible refine wp_scope_straight ?_ | with_reducible refine wp_label ?_ | go_step))))
  all_goals (first | refine svEnd F M ?_ | refine svRet F M ?_)
  exact ⟨_, _, rfl, ⟨by rw [← h1]; rfl, rfl⟩, M.perms permsA⟩
theorem mt_bal (h0 : U64 ca) : Spec 85 [ptr b] (mtA b ca :: R) fun u L' => u = .int .u64 ca ∧ L' = mtA b ca :: R := by
  intro G w M
  obtain ⟨z, h, M2⟩ := mt_open (L := R ++ G) M
  clear M; have M := M2; clear M2
  (refine sx_enter (vs := ([ptr b] : List Value)) Tryz.func85 (n := 9) rfl rfl rfl rfl ?_; intro a F; (try simp only [List.cons_append, List.nil_append] at M))
  (repeat' (first | (refine sx_nil ?_; (try (replace F := F.filt [0, 2, 4] rfl))) | (refine sv1 F M (h := ?_); clear F a; intro a F) | refine pv1 (h := ?_) | (refine sv3 F M (h := ?_); clear M; intro w M) | (refine sv2 F M (h := ?_); clear F M a; intro nb a w F M) | refine pv3 (h := ?_) | (refine pv2 (h := ?_); intro nb) | ((first | refine svC F M (h := ?_) | refine svC0 F M (h := ?_) | refine pvC (h := ?_) | refine pvC0 (h := ?_)); (((refine acK (k := 166) (mt_bal0 b ca _ z h) ?_); rintro u L' ⟨rfl, rfl⟩)); (first | refine ⟨rvsA, ?_⟩ | (clear F M a; intro a w F M) | (clear M; intro w M))) | (refine svK F (h := ?_); clear F a; intro a F) | refine svK0 F (h := ?_) | ((refine sx_guardb F rfl (fun hg => ?_) (fun hg => ?_)) <;> (rw [hg] at F; (try (exact no hg)))) | (refine pvF (h := ?_); intro nb) | refine pvK (h := ?_) | refine pvK0 (h := ?_) | (refine pv_nil ?_; intro a w F M; (try (replace F := F.filt [0, 2, 4] rfl))) | ((fail_if_success (with_reducible first | refine isW ?_ | refine isP ?_ | refine isL ?_)); (first | with_reducible refine sx_region ?_ | ((with_reducible refine isK ?_); (first | refine svT F (h := ?_) | refine svF F (h := ?_) | ((refine svB F (fun hc => ?_) (fun hc => ?_)) <;> (try (exact no hc))))) | ((with_reducible refine isD ?_); fail) | with_reducible refine wp_scope_straight ?_ | with_reducible refine wp_label ?_ | go_step))))
  all_goals (first | refine svEnd F M ?_ | refine svRet F M ?_)
  exact ⟨_, _, rfl, ⟨rfl, rfl⟩, mt_close h (M.perms permsA)⟩
theorem u64_wrap_id {x : Int} (h : U64 x) : IntKind.u64.wrap x = x := by rw [IntKind.wrap_u64]; have := h.1; have := h.2; omega
end
end Go.Proofs.YtopbohbkhljjgaaGreat
end
section
namespace Go.Proofs.YtopbohbkhljjgaaGreat
open Go.RowKit Go.Maps
set_option linter.unusedVariables false
set_option maxRecDepth 100000
set_option linter.unusedSimpArgs false
set_option maxHeartbeats 4000000
instance : MT 178 3 3 := ⟨by kernel_rfl, int_keyed (q := .i64) (by kernel_rfl)⟩
instance : ZV 3 (.int .i64 0) := ⟨by kernel_rfl⟩
theorem intKey {i : Int} (h : I64 i) : keyOf Tryz.prog 3 (.int .i64 i) = some (.int .i64 i) := keyOf_int_mk (q := .i64) (by kernel_rfl) (by
  have := h.1; have := h.2; simp [Lit.wf, IntKind.min, IntKind.max, IntKind.signed, IntKind.bits]; omega)
instance : DecidableEq Val := fun a b => decidable_of_iff (a.bal = b.bal ∧ a.st = b.st ∧ a.sl = b.sl ∧ a.rq = b.rq ∧ a.ex = b.ex ∧ a.wd = b.wd ∧ a.dl = b.dl) (by cases a; cases b; simp)
def valL (v : Val) : List Value := [.int .u64 v.bal, .int .i64 v.st, .bool v.sl, .int .i64 v.rq, .int .i64 v.ex, .int .i64 v.wd, .int .i64 v.dl]
abbrev valV (v : Val) : Value := .agg (valL v).toArray
instance : EL valL 7 := ⟨fun _ => rfl, fun x u h => by simp [valL] at h; rcases h with rfl | rfl | rfl | rfl | rfl | rfl | rfl <;> rfl⟩
instance : EQF valL [.int, .int, .bool, .int, .int, .int, .int] := ⟨fun x y => by
  obtain ⟨a, b, c, d, e, f, g⟩ := x; obtain ⟨a', b', c', d', e', f', g'⟩ := y
  simp only [valL, cellsEq, scEq, if_true, Bool.and_true, Val.mk.injEq, Option.some.injEq]
  rw [Bool.eq_iff_iff]; simp⟩
theorem live_spec (s : Int) (R : List Asn) : Spec 111 [.int .i64 s] R fun u L' => u = .bool (decide (s = 2) || decide (s = 3)) ∧ L' = R := by
  (intro G w M; refine sx_enter (vs := ([.int .i64 s] : List Value)) Tryz.func111 (n := 9) rfl rfl rfl rfl ?_; intro a F; (try simp only [List.cons_append, List.nil_append] at M))
  (repeat' (first | (refine sx_nil ?_; (try (replace F := F.filt [0, 2] rfl))) | (refine sv1 F M (h := ?_); clear F a; intro a F) | refine pv1 (h := ?_) | (refine sv3 F M (h := ?_); clear M; intro w M) | (refine sv2 F M (h := ?_); clear F M a; intro nb a w F M) | refine pv3 (h := ?_) | (refine pv2 (h := ?_); intro nb) | ((first | refine svC F M (h := ?_) | refine svC0 F M (h := ?_) | refine pvC (h := ?_) | refine pvC0 (h := ?_)); (fail); (first | refine ⟨rvsA, ?_⟩ | (clear F M a; intro a w F M) | (clear M; intro w M))) | (refine svK F (h := ?_); clear F a; intro a F) | refine svK0 F (h := ?_) | ((refine sx_guardb F rfl (fun hg => ?_) (fun hg => ?_)) <;> (rw [hg] at F; (try (exact no hg)))) | (refine pvF (h := ?_); intro nb) | refine pvK (h := ?_) | refine pvK0 (h := ?_) | (refine pv_nil ?_; intro a w F M; (try (replace F := F.filt [0, 2] rfl))) | ((fail_if_success (with_reducible first | refine isW ?_ | refine isP ?_ | refine isL ?_)); (first | with_reducible refine sx_region ?_ | ((with_reducible refine isK ?_); (first | refine svT F (h := ?_) | refine svF F (h := ?_) | ((refine svB F (fun hc => ?_) (fun hc => ?_)) <;> (try (exact no hc))))) | ((with_reducible refine isD ?_); fail) | with_reducible refine wp_scope_straight ?_ | with_reducible refine wp_label ?_ | go_step))))
  all_goals (first | refine svEnd F M ?_ | refine svRet F M ?_)
  all_goals exact ⟨_, _, rfl, ⟨by simp_all [tupOf], rfl⟩, M.perms permsA⟩
/-- A map of counts, whatever it holds. -/
def cntA (m : Nat) : Asn := exA fun P : List (Value × Value) => [factA (∀ p ∈ P, ∃ v, p.2 = .int .i64 v), mp m 3 P]
theorem cnt_close {w : World} {L : List Asn} {m : Nat} {P : List (Value × Value)} (h : ∀ p ∈ P, ∃ v, p.2 = .int .i64 v) (M : Mem w (mp m 3 P :: L)) : Mem w (cntA m :: L) := Mem.exc P (Mem.fact h M)
abbrev rgC (b : Nat) (cap : Int) (h : SlH) (act tot : Int) (m : Nat) : Asn := pt b [.int .i64 cap, sl h, .int .u64 act, .int .u64 tot, .map (some m)] 180
def wr (x : Int) : Int := IntKind.u64.wrap x
section
variable (b : Nat) (cap : Int) (h : SlH) (act tot : Int) (m : Nat) (v : Val) (hst : I64 v.st) (R : List Asn)
/-- The registry holds these validators. -/
def regA (b : Nat) (cap : Int) (V : List Val) : Asn := exA fun z : SlH × Nat => [rgC b cap z.1 (IntKind.u64.wrap (actv V)) (IntKind.u64.wrap (bals V).sum) z.2, cntA z.2, ownT 48 valL 7 (sl z.1) V]
end
section
variable (b : Nat) (cap : Int) (V : List Val) (R : List Asn)
theorem reg_open {w : World} {L : List Asn} {b : Nat} {cap : Int} {V : List Val} (M : Mem w (regA b cap V :: L)) : ∃ h m, Mem w (rgC b cap h (IntKind.u64.wrap (actv V)) (IntKind.u64.wrap (bals V).sum) m :: cntA m :: ownT 48 valL 7 (sl h) V :: L) := by
  obtain ⟨⟨h, m⟩, M⟩ := M.exo
  exact ⟨h, m, M⟩
theorem reg_close {w : World} {L : List Asn} {b : Nat} {cap : Int} {V : List Val} {h : SlH} {m : Nat} (M : Mem w (rgC b cap h (IntKind.u64.wrap (actv V)) (IntKind.u64.wrap (bals V).sum) m :: cntA m :: ownT 48 valL 7 (sl h) V :: L)) : Mem w (regA b cap V :: L) := Mem.exc (f := fun z : SlH × Nat => [rgC b cap z.1 (IntKind.u64.wrap (actv V)) (IntKind.u64.wrap (bals V).sum) z.2, cntA z.2, ownT 48 valL 7 (sl z.1) V]) (h, m) M
theorem reg_new (hc : 1 ≤ cap ∧ cap ≤ 4096) : Spec 53 [.int .i64 cap] R fun u L' => ∃ b, u = ptr b ∧ L' = regA b cap [] :: R := by
  obtain ⟨h1, h2⟩ := hc
  (intro G w M; refine sx_enter (vs := ([.int .i64 cap] : List Value)) Tryz.func53 (n := 13) rfl rfl rfl rfl ?_; intro a F; (try simp only [List.cons_append, List.nil_append] at M))
  (repeat' (first | (refine sx_nil ?_; (try (replace F := F.filt [0, 2, 8] rfl))) | (refine sv1 F M (h := ?_); clear F a; intro a F) | refine pv1 (h := ?_) | (refine sv3 F M (h := ?_); clear M; intro w M) | (refine sv2 F M (h := ?_); clear F M a; intro nb a w F M) | refine pv3 (h := ?_) | (refine pv2 (h := ?_); intro nb) | ((first | refine svC F M (h := ?_) | refine svC0 F M (h := ?_) | refine pvC (h := ?_) | refine pvC0 (h := ?_)); ((apply ac_makeMap; (exact rfl); (exact inferInstance); intro nm)); (first | refine ⟨rvsA, ?_⟩ | (clear F M a; intro a w F M) | (clear M; intro w M))) | (refine svK F (h := ?_); clear F a; intro a F) | refine svK0 F (h := ?_) | ((refine sx_guardb F rfl (fun hg => ?_) (fun hg => ?_)) <;> (rw [hg] at F; (try (exact no hg)))) | (refine pvF (h := ?_); intro nb) | refine pvK (h := ?_) | refine pvK0 (h := ?_) | (refine pv_nil ?_; intro a w F M; (try (replace F := F.filt [0, 2, 8] rfl))) | ((fail_if_success (with_reducible first | refine isW ?_ | refine isP ?_ | refine isL ?_)); (first | with_reducible refine sx_region ?_ | ((with_reducible refine isK ?_); (first | refine svT F (h := ?_) | refine svF F (h := ?_) | ((refine svB F (fun hc => ?_) (fun hc => ?_)) <;> (try (exact no hc))))) | ((with_reducible refine isD ?_); fail) | with_reducible refine wp_scope_straight ?_ | with_reducible refine wp_label ?_ | go_step))))
  all_goals (first | refine svEnd F M ?_ | refine svRet F M ?_)
  refine ⟨_, _, rfl, ⟨nb, rfl, rfl⟩, ?_⟩
  have M := cnt_close (P := []) (by simp) (M.perms (permsA : Perms _ (mp nm 3 [] :: _)))
  have M := M.own_nil 48 7
  exact reg_close (h := nilH) (m := nm) (M.perms permsA)
theorem reg_active (ha : U64 (actv V)) : Spec 79 [ptr b] (regA b cap V :: R) fun u L' => u = .int .u64 (actv V) ∧ L' = regA b cap V :: R := by
  (intro G w M; obtain ⟨h, m, M2⟩ := reg_open (L := R ++ G) M; clear M; have M := M2; clear M2)
  (refine sx_enter (vs := ([ptr b] : List Value)) Tryz.func79 (n := 9) rfl rfl rfl rfl ?_; intro a F; (try simp only [List.cons_append, List.nil_append] at M))
  (repeat' (first | (refine sx_nil ?_; (try (replace F := F.filt [0, 2, 4] rfl))) | (refine sv1 F M (h := ?_); clear F a; intro a F) | refine pv1 (h := ?_) | (refine sv3 F M (h := ?_); clear M; intro w M) | (refine sv2 F M (h := ?_); clear F M a; intro nb a w F M) | refine pv3 (h := ?_) | (refine pv2 (h := ?_); intro nb) | ((first | refine svC F M (h := ?_) | refine svC0 F M (h := ?_) | refine pvC (h := ?_) | refine pvC0 (h := ?_)); (fail); (first | refine ⟨rvsA, ?_⟩ | (clear F M a; intro a w F M) | (clear M; intro w M))) | (refine svK F (h := ?_); clear F a; intro a F) | refine svK0 F (h := ?_) | ((refine sx_guardb F rfl (fun hg => ?_) (fun hg => ?_)) <;> (rw [hg] at F; (try (exact no hg)))) | (refine pvF (h := ?_); intro nb) | refine pvK (h := ?_) | refine pvK0 (h := ?_) | (refine pv_nil ?_; intro a w F M; (try (replace F := F.filt [0, 2, 4] rfl))) | ((fail_if_success (with_reducible first | refine isW ?_ | refine isP ?_ | refine isL ?_)); (first | with_reducible refine sx_region ?_ | ((with_reducible refine isK ?_); (first | refine svT F (h := ?_) | refine svF F (h := ?_) | ((refine svB F (fun hc => ?_) (fun hc => ?_)) <;> (try (exact no hc))))) | ((with_reducible refine isD ?_); fail) | with_reducible refine wp_scope_straight ?_ | with_reducible refine wp_label ?_ | go_step))))
  all_goals (first | refine svEnd F M ?_ | refine svRet F M ?_)
  exact ⟨_, _, rfl, ⟨by rw [u64_wrap_id ha]; rfl, rfl⟩, reg_close (M.perms permsA)⟩
end
end Go.Proofs.YtopbohbkhljjgaaGreat
end
section
namespace Go.Proofs.YtopbohbkhljjgaaGreat
open Go.RowKit Go.Maps
set_option linter.unusedVariables false
set_option maxRecDepth 100000
set_option linter.unusedSimpArgs false
set_option maxHeartbeats 4000000
def stL (s : List UInt8) : List Value := [str s]
instance : EL stL 1 := ⟨fun _ => rfl, fun x u h => by simp [stL] at h; subst h; rfl⟩
def stNs : List (List UInt8) := [[112, 101, 110, 100, 105, 110, 103], [97, 99, 116, 105, 118, 101], [101, 120, 105, 116, 105, 110, 103], [117, 110, 98, 111, 110, 100, 105, 110, 103], [119, 105, 116, 104, 100, 114, 97, 119, 97, 98, 108, 101], [112, 97, 105, 100], [109, 101, 114, 103, 101, 100]]
def stNm (k : Int) : List UInt8 := if k < 1 ∨ 7 < k then [] else (stNs[(k - 1).toNat]?).getD []
theorem stNs_at {k : Int} (h1 : 1 ≤ k) (h2 : k ≤ 7) : stNs[(k - 1).toNat]? = some (stNm k) ∧ stNm k ≠ [] := by
  obtain ⟨m, rfl⟩ : ∃ m : Nat, k = m + 1 := ⟨(k - 1).toNat, by omega⟩
  rcases m with _ | _ | _ | _ | _ | _ | _ | m
  all_goals first | (refine ⟨by decide, by decide⟩) | omega
theorem snames_spec (R : List Asn) : Spec 248 [] R fun u L' => ∃ h, u = sl h ∧ L' = ownT 9 stL 1 (sl h) stNs :: R := by
  (intro G w M; refine sx_enter (vs := ([] : List Value)) Tryz.func248 (n := 2) rfl rfl rfl rfl ?_; intro a F; (try simp only [List.cons_append, List.nil_append] at M))
  (repeat' (first | (refine sx_nil ?_; (try (replace F := F.filt [0] rfl))) | (refine sv1 F M (h := ?_); clear F a; intro a F) | refine pv1 (h := ?_) | (refine sv3 F M (h := ?_); clear M; intro w M) | (refine sv2 F M (h := ?_); clear F M a; intro nb a w F M) | refine pv3 (h := ?_) | (refine pv2 (h := ?_); intro nb) | ((first | refine svC F M (h := ?_) | refine svC0 F M (h := ?_) | refine pvC (h := ?_) | refine pvC0 (h := ?_)); (fail); (first | refine ⟨rvsA, ?_⟩ | (clear F M a; intro a w F M) | (clear M; intro w M))) | (refine svK F (h := ?_); clear F a; intro a F) | refine svK0 F (h := ?_) | ((refine sx_guardb F rfl (fun hg => ?_) (fun hg => ?_)) <;> (rw [hg] at F; (try (exact no hg)))) | (refine pvF (h := ?_); intro nb) | refine pvK (h := ?_) | refine pvK0 (h := ?_) | (refine pv_nil ?_; intro a w F M; (try (replace F := F.filt [0] rfl))) | ((fail_if_success (with_reducible first | refine isW ?_ | refine isP ?_ | refine isL ?_)); (first | with_reducible refine sx_region ?_ | ((with_reducible refine isK ?_); (first | refine svT F (h := ?_) | refine svF F (h := ?_) | ((refine svB F (fun hc => ?_) (fun hc => ?_)) <;> (try (exact no hc))))) | ((with_reducible refine isD ?_); fail) | with_reducible refine wp_scope_straight ?_ | with_reducible refine wp_label ?_ | go_step))))
  all_goals (first | refine svEnd F M ?_ | refine svRet F M ?_)
  exact ⟨_, _, rfl, ⟨⟨_, _, _⟩, rfl, rfl⟩, M⟩
theorem sname_spec (k : Int) (R : List Asn) : Spec 188 [.int .i64 k] R fun u L' => u = str (stNm k) ∧ L' = R := by
  have e7 : stNs.length = 7 := rfl
  (intro G w M; refine sx_enter (vs := ([.int .i64 k] : List Value)) Tryz.func188 (n := 18) rfl rfl rfl rfl ?_; intro a F; (try simp only [List.cons_append, List.nil_append] at M))
  by_cases hk : 1 ≤ k ∧ k ≤ 7
  · obtain ⟨hk1, hk2⟩ := hk
    have hnm := (stNs_at hk1 hk2).1
    (repeat' (first | (refine sx_nil ?_; (try (replace F := F.filt [0, 2, 3, 12] rfl))) | (refine sv1 F M (h := ?_); clear F a; intro a F) | refine pv1 (h := ?_) | (refine sv3 F M (h := ?_); clear M; intro w M) | (refine sv2 F M (h := ?_); clear F M a; intro nb a w F M) | refine pv3 (h := ?_) | (refine pv2 (h := ?_); intro nb) | ((first | refine svC F M (h := ?_) | refine svC0 F M (h := ?_) | refine pvC (h := ?_) | refine pvC0 (h := ?_)); (((refine acW (k := 248) (snames_spec _) ?_); rintro u L' ⟨hs, rfl, rfl⟩)); (first | refine ⟨rvsA, ?_⟩ | (clear F M a; intro a w F M) | (clear M; intro w M))) | (refine svK F (h := ?_); clear F a; intro a F) | refine svK0 F (h := ?_) | ((refine sx_guardb F rfl (fun hg => ?_) (fun hg => ?_)) <;> (rw [hg] at F; (try (exact no hg)))) | (refine pvF (h := ?_); intro nb) | refine pvK (h := ?_) | refine pvK0 (h := ?_) | (refine pv_nil ?_; intro a w F M; (try (replace F := F.filt [0, 2, 3, 12] rfl))) | ((fail_if_success (with_reducible first | refine isW ?_ | refine isP ?_ | refine isL ?_)); (first | with_reducible refine sx_region ?_ | ((with_reducible refine isK ?_); (first | refine svT F (h := ?_) | refine svF F (h := ?_) | ((refine svB F (fun hc => ?_) (fun hc => ?_)) <;> (try (exact no hc))))) | ((with_reducible refine isD ?_); fail) | with_reducible refine wp_scope_straight ?_ | with_reducible refine wp_label ?_ | go_step))))
    (all_goals ((first | refine svEnd F M ?_ | refine svRet F M ?_); exact ⟨_, _, rfl, ⟨rfl, rfl⟩, M.perms permsA⟩))
  · have hn : stNm k = [] := by rw [stNm, if_pos (by omega)]
    by_cases h3 : k < 1
    · (repeat' (first | (refine sx_nil ?_; (try (replace F := F.filt [0, 2, 3, 12] rfl))) | (refine sv1 F M (h := ?_); clear F a; intro a F) | refine pv1 (h := ?_) | (refine sv3 F M (h := ?_); clear M; intro w M) | (refine sv2 F M (h := ?_); clear F M a; intro nb a w F M) | refine pv3 (h := ?_) | (refine pv2 (h := ?_); intro nb) | ((first | refine svC F M (h := ?_) | refine svC0 F M (h := ?_) | refine pvC (h := ?_) | refine pvC0 (h := ?_)); (((refine acW (k := 248) (snames_spec _) ?_); rintro u L' ⟨hs, rfl, rfl⟩)); (first | refine ⟨rvsA, ?_⟩ | (clear F M a; intro a w F M) | (clear M; intro w M))) | (refine svK F (h := ?_); clear F a; intro a F) | refine svK0 F (h := ?_) | ((refine sx_guardb F rfl (fun hg => ?_) (fun hg => ?_)) <;> (rw [hg] at F; (try (exact no hg)))) | (refine pvF (h := ?_); intro nb) | refine pvK (h := ?_) | refine pvK0 (h := ?_) | (refine pv_nil ?_; intro a w F M; (try (replace F := F.filt [0, 2, 3, 12] rfl))) | ((fail_if_success (with_reducible first | refine isW ?_ | refine isP ?_ | refine isL ?_)); (first | with_reducible refine sx_region ?_ | ((with_reducible refine isK ?_); (first | refine svT F (h := ?_) | refine svF F (h := ?_) | ((refine svB F (fun hc => ?_) (fun hc => ?_)) <;> (try (exact no hc))))) | ((with_reducible refine isD ?_); fail) | with_reducible refine wp_scope_straight ?_ | with_reducible refine wp_label ?_ | go_step))))
      (all_goals ((first | refine svEnd F M ?_ | refine svRet F M ?_); exact ⟨_, _, rfl, ⟨by rw [hn]; rfl, rfl⟩, M.perms permsA⟩))
    · have h4 : ¬ (k ≤ 7) := by omega
      (repeat' (first | (refine sx_nil ?_; (try (replace F := F.filt [0, 2, 3, 12] rfl))) | (refine sv1 F M (h := ?_); clear F a; intro a F) | refine pv1 (h := ?_) | (refine sv3 F M (h := ?_); clear M; intro w M) | (refine sv2 F M (h := ?_); clear F M a; intro nb a w F M) | refine pv3 (h := ?_) | (refine pv2 (h := ?_); intro nb) | ((first | refine svC F M (h := ?_) | refine svC0 F M (h := ?_) | refine pvC (h := ?_) | refine pvC0 (h := ?_)); (((refine acW (k := 248) (snames_spec _) ?_); rintro u L' ⟨hs, rfl, rfl⟩)); (first | refine ⟨rvsA, ?_⟩ | (clear F M a; intro a w F M) | (clear M; intro w M))) | (refine svK F (h := ?_); clear F a; intro a F) | refine svK0 F (h := ?_) | ((refine sx_guardb F rfl (fun hg => ?_) (fun hg => ?_)) <;> (rw [hg] at F; (try (exact no hg)))) | (refine pvF (h := ?_); intro nb) | refine pvK (h := ?_) | refine pvK0 (h := ?_) | (refine pv_nil ?_; intro a w F M; (try (replace F := F.filt [0, 2, 3, 12] rfl))) | ((fail_if_success (with_reducible first | refine isW ?_ | refine isP ?_ | refine isL ?_)); (first | with_reducible refine sx_region ?_ | ((with_reducible refine isK ?_); (first | refine svT F (h := ?_) | refine svF F (h := ?_) | ((refine svB F (fun hc => ?_) (fun hc => ?_)) <;> (try (exact no hc))))) | ((with_reducible refine isD ?_); fail) | with_reducible refine wp_scope_straight ?_ | with_reducible refine wp_label ?_ | go_step))))
      (all_goals ((first | refine svEnd F M ?_ | refine svRet F M ?_); exact ⟨_, _, rfl, ⟨by rw [hn]; rfl, rfl⟩, M.perms permsA⟩))
theorem Below.chg0 {w w' : World} (h : Below w.heap.size w w') : Chg [] w w' := ⟨h.os, h.tape, h.output, h.size, fun k hk _ => h.block k hk⟩
theorem stable_spec (R : List Asn) : Spec 189 [] R fun u L' => ∃ b, u = .map (some b) ∧ L' = mp b 259 stepMap :: R := fun G w M => by
  refine (table_any w).mono ?_
  rintro e w' ⟨rfl, hb, hM⟩
  exact ⟨_, _, rfl, ⟨_, rfl, rfl⟩, M.new (Below.chg0 hb) ⟨[w.heap.size], ok_mp hM, by simp⟩⟩
instance : MT 256 259 3 := ⟨by kernel_rfl, stepKeyed⟩
/-- The steps' keys. -/
def stepKs' : List (Int × Int) := [(1, 1), (2, 2), (3, 3), (4, 4), (5, 5), (2, 6), (2, 7), (3, 7), (4, 7), (5, 7)]
theorem stepKey_of {p : Value × Value} (h : p ∈ stepMap) : ∃ a b, p.1 = .agg #[.int .i64 a, .int .i64 b] ∧ (a, b) ∈ stepKs' := by
  simp only [stepMap, List.mem_cons, List.not_mem_nil, or_false] at h
  rcases h with rfl | rfl | rfl | rfl | rfl | rfl | rfl | rfl | rfl | rfl <;> exact ⟨_, _, rfl, by simp [stepKs']⟩
theorem stepKey_all {s : Int} (h : ∀ p ∈ stepMap, ∀ a b, p.1 = .agg #[.int .i64 a, .int .i64 b] → a ≠ s) : s ≠ 1 ∧ s ≠ 2 ∧ s ≠ 3 ∧ s ≠ 4 ∧ s ≠ 5 :=
  ⟨fun e => h (stepV 1 1, .int .i64 2) (by simp [stepMap]) 1 1 rfl e.symm, fun e => h (stepV 2 2, .int .i64 3) (by simp [stepMap]) 2 2 rfl e.symm, fun e => h (stepV 3 3, .int .i64 4) (by simp [stepMap]) 3 3 rfl e.symm, fun e => h (stepV 4 4, .int .i64 5) (by simp [stepMap]) 4 4 rfl e.symm, fun e => h (stepV 5 5, .int .i64 6) (by simp [stepMap]) 5 5 rfl e.symm⟩
theorem final_spec (s : Int) (R : List Asn) : Spec 123 [.int .i64 s] R fun u L' => u = .bool (decide (s = 6) || decide (s = 7)) ∧ L' = R := by
  by_cases hk : 1 ≤ s ∧ s ≤ 7
  · obtain ⟨hk1, hk2⟩ := hk
    have hnm := (stNs_at hk1 hk2).2
    have hnm2 : ¬ stNm s = [] := hnm
    (intro G w M; refine sx_enter (vs := ([.int .i64 s] : List Value)) Tryz.func123 (n := 19) rfl rfl rfl rfl ?_; intro a F; (try simp only [List.cons_append, List.nil_append] at M))
    (repeat' (first | (refine sx_nil ?_; (try (replace F := F.filt [0, 2, 3, 6, 8, 10, 18] rfl))) | (refine sv1 F M (h := ?_); clear F a; intro a F) | refine pv1 (h := ?_) | (refine sv3 F M (h := ?_); clear M; intro w M) | (refine sv2 F M (h := ?_); clear F M a; intro nb a w F M) | refine pv3 (h := ?_) | (refine pv2 (h := ?_); intro nb) | ((first | refine svC F M (h := ?_) | refine svC0 F M (h := ?_) | refine pvC (h := ?_) | refine pvC0 (h := ?_)); ((first | ((refine acW (k := 188) (sname_spec s _) ?_); rintro u L' ⟨rfl, rfl⟩) | ((refine acW (k := 189) (stable_spec _) ?_); rintro u L' ⟨nm, rfl, rfl⟩) | (refine ac_range rfl rfl inferInstance pullA ?_; intro nr))); (first | refine ⟨rvsA, ?_⟩ | (clear F M a; intro a w F M) | (clear M; intro w M))) | (refine svK F (h := ?_); clear F a; intro a F) | refine svK0 F (h := ?_) | ((refine sx_guardb F rfl (fun hg => ?_) (fun hg => ?_)) <;> (rw [hg] at F; (try (exact no hg)))) | (refine pvF (h := ?_); intro nb) | refine pvK (h := ?_) | refine pvK0 (h := ?_) | (refine pv_nil ?_; intro a w F M; (try (replace F := F.filt [0, 2, 3, 6, 8, 10, 18] rfl))) | ((fail_if_success (with_reducible first | refine isW ?_ | refine isP ?_ | refine isL ?_)); (first | with_reducible refine sx_region ?_ | ((with_reducible refine isK ?_); (first | refine svT F (h := ?_) | refine svF F (h := ?_) | ((refine svB F (fun hc => ?_) (fun hc => ?_)) <;> (try (exact no hc))))) | ((with_reducible refine isD ?_); fail) | with_reducible refine wp_scope_straight ?_ | with_reducible refine wp_label ?_ | go_step))))
    refine svLoop F M ((stepMap, none) : List (Value × Value) × Option (Value × Value)) (fun _ => []) (fun x => [mpR nm nr 259 stepMap x.1 x.2]) (fun x => (∀ p ∈ x.1, p ∈ stepMap) ∧ ∀ p ∈ stepMap, p ∉ x.1 → ∀ a b, p.1 = .agg #[.int .i64 a, .int .i64 b] → a ≠ s) (fun x => x.1.length) [] ⟨fun p hp => hp, fun p h1 h2 => absurd h1 h2⟩ ?_
    (rintro ⟨todo, cur⟩ ⟨q1, q2⟩ a w F M; (try simp only [List.cons_append, List.nil_append] at F M q1 q2 ⊢))
    cases todo with
    | nil =>
      (repeat' (first | (refine sx_nil ?_; (try (replace F := F.filt [0, 2, 3, 6, 8, 10, 18] rfl))) | (refine sv1 F M (h := ?_); clear F a; intro a F) | refine pv1 (h := ?_) | (refine sv3 F M (h := ?_); clear M; intro w M) | (refine sv2 F M (h := ?_); clear F M a; intro nb a w F M) | refine pv3 (h := ?_) | (refine pv2 (h := ?_); intro nb) | ((first | refine svC F M (h := ?_) | refine svC0 F M (h := ?_) | refine pvC (h := ?_) | refine pvC0 (h := ?_)); ((refine ac_nextE rfl rfl pullA ?_)); (first | refine ⟨rvsA, ?_⟩ | (clear F M a; intro a w F M) | (clear M; intro w M))) | (refine svK F (h := ?_); clear F a; intro a F) | refine svK0 F (h := ?_) | ((refine sx_guardb F rfl (fun hg => ?_) (fun hg => ?_)) <;> (rw [hg] at F; (try (exact no hg)))) | (refine pvF (h := ?_); intro nb) | refine pvK (h := ?_) | refine pvK0 (h := ?_) | (refine pv_nil ?_; intro a w F M; (try (replace F := F.filt [0, 2, 3, 6, 8, 10, 18] rfl))) | ((fail_if_success (with_reducible first | refine isW ?_ | refine isP ?_ | refine isL ?_)); (first | with_reducible refine sx_region ?_ | ((with_reducible refine isK ?_); (first | refine svT F (h := ?_) | refine svF F (h := ?_) | ((refine svB F (fun hc => ?_) (fun hc => ?_)) <;> (try (exact no hc))))) | ((with_reducible refine isD ?_); fail) | with_reducible refine wp_scope_straight ?_ | with_reducible refine wp_label ?_ | go_step))))
      (first | refine svEnd F M ?_ | refine svRet F M ?_)
      obtain ⟨n1, n2, n3, n4, n5⟩ := stepKey_all fun p hp => q2 p hp (by simp)
      exact ⟨_, _, rfl, ⟨by simp [tupOf]; omega, rfl⟩, M.perms permsA⟩
    | cons p0 todo =>
      (repeat' (first | ((first | refine sv1 F M (h := ?_) (hr := by ((apply rt_entry; (exact rfl); (exact rfl); (exact pullA)))) | refine pv1 (h := ?_) (hr := by ((apply rt_entry; (exact rfl); (exact rfl); (exact pullA))))); (try (clear F a; intro a F))) | (refine sx_nil ?_; (try (replace F := F.filt [0, 2, 3, 6, 8, 10, 18] rfl))) | (refine sv1 F M (h := ?_); clear F a; intro a F) | refine pv1 (h := ?_) | (refine sv3 F M (h := ?_); clear M; intro w M) | (refine sv2 F M (h := ?_); clear F M a; intro nb a w F M) | refine pv3 (h := ?_) | (refine pv2 (h := ?_); intro nb) | ((first | refine svC F M (h := ?_) | refine svC0 F M (h := ?_) | refine pvC (h := ?_) | refine pvC0 (h := ?_)); ((refine ac_nextC rfl rfl pullA ?_; intro p todo' hpm; obtain ⟨ka, kb, hk, hm⟩ := stepKey_of (q1 _ (hpm.mem_iff.2 (List.mem_cons_self ..))); obtain ⟨pk, pv⟩ := p; simp only at hk; subst hk)); (first | refine ⟨rvsA, ?_⟩ | (clear F M a; intro a w F M) | (clear M; intro w M))) | (refine svK F (h := ?_); clear F a; intro a F) | refine svK0 F (h := ?_) | ((refine sx_guardb F rfl (fun hg => ?_) (fun hg => ?_)) <;> (rw [hg] at F; (try (exact no hg)))) | (refine pvF (h := ?_); intro nb) | refine pvK (h := ?_) | refine pvK0 (h := ?_) | (refine pv_nil ?_; intro a w F M; (try (replace F := F.filt [0, 2, 3, 6, 8, 10, 18] rfl))) | ((fail_if_success (with_reducible first | refine isW ?_ | refine isP ?_ | refine isL ?_)); (first | with_reducible refine sx_region ?_ | ((with_reducible refine isK ?_); (first | refine svT F (h := ?_) | refine svF F (h := ?_) | ((refine svB F (fun hc => ?_) (fun hc => ?_)) <;> (try (exact no hc))))) | ((with_reducible refine isD ?_); fail) | with_reducible refine wp_scope_straight ?_ | with_reducible refine wp_label ?_ | go_step))))
      · obtain ⟨rfl, _⟩ := hc
        (first | refine svEnd F M ?_ | refine svRet F M ?_)
        refine ⟨_, _, rfl, ⟨?_, rfl⟩, M.perms permsA⟩
        have h5 : s ≠ 6 ∧ s ≠ 7 := by
          simp only [stepKs', List.mem_cons, Prod.mk.injEq, List.not_mem_nil, or_false] at hm
          omega
        simp [tupOf, h5.1, h5.2]
      · have hne : ka ≠ s := by rcases hc with h | h | h <;> simp_all <;> omega
        have hlen := hpm.length_eq
        simp only [List.length_cons] at hlen
        refine sv_again F M (todo', _) kpA permsA ⟨fun p hp => q1 p (hpm.mem_iff.2 (List.mem_cons_of_mem _ hp)), fun p hp hno x y hxy => ?_⟩ (by simp only [List.length_cons]; omega)
        by_cases hpe : p ∈ p0 :: todo
        · rcases List.mem_cons.1 (hpm.mem_iff.1 hpe) with rfl | h
          · simp at hxy
            rw [← hxy.1]; exact hne
          · exact absurd h hno
        · exact q2 p hp hpe x y hxy
  · have hn : stNm s = [] := by rw [stNm, if_pos (by omega)]
    (intro G w M; refine sx_enter (vs := ([.int .i64 s] : List Value)) Tryz.func123 (n := 19) rfl rfl rfl rfl ?_; intro a F; (try simp only [List.cons_append, List.nil_append] at M))
    (repeat' (first | (refine sx_nil ?_; (try (replace F := F.filt [0, 2, 3, 6, 8, 10, 18] rfl))) | (refine sv1 F M (h := ?_); clear F a; intro a F) | refine pv1 (h := ?_) | (refine sv3 F M (h := ?_); clear M; intro w M) | (refine sv2 F M (h := ?_); clear F M a; intro nb a w F M) | refine pv3 (h := ?_) | (refine pv2 (h := ?_); intro nb) | ((first | refine svC F M (h := ?_) | refine svC0 F M (h := ?_) | refine pvC (h := ?_) | refine pvC0 (h := ?_)); ((first | ((refine acW (k := 188) (sname_spec s _) ?_); rintro u L' ⟨rfl, rfl⟩))); (first | refine ⟨rvsA, ?_⟩ | (clear F M a; intro a w F M) | (clear M; intro w M))) | (refine svK F (h := ?_); clear F a; intro a F) | refine svK0 F (h := ?_) | ((refine sx_guardb F rfl (fun hg => ?_) (fun hg => ?_)) <;> (rw [hg] at F; (try (exact no hg)))) | (refine pvF (h := ?_); intro nb) | refine pvK (h := ?_) | refine pvK0 (h := ?_) | (refine pv_nil ?_; intro a w F M; (try (replace F := F.filt [0, 2, 3, 6, 8, 10, 18] rfl))) | ((fail_if_success (with_reducible first | refine isW ?_ | refine isP ?_ | refine isL ?_)); (first | with_reducible refine sx_region ?_ | ((with_reducible refine isK ?_); (first | refine svT F (h := ?_) | refine svF F (h := ?_) | ((refine svB F (fun hc => ?_) (fun hc => ?_)) <;> (try (exact no hc))))) | ((with_reducible refine isD ?_); fail) | with_reducible refine wp_scope_straight ?_ | with_reducible refine wp_label ?_ | go_step))))
    (all_goals ((first | refine svEnd F M ?_ | refine svRet F M ?_); exact ⟨_, _, rfl, ⟨by simp [tupOf]; omega, rfl⟩, M.perms permsA⟩))
end Go.Proofs.YtopbohbkhljjgaaGreat
end
section
namespace Go.Proofs.YtopbohbkhljjgaaGreat
open Go.RowKit
set_option linter.unusedVariables false
set_option maxRecDepth 100000
set_option linter.unusedSimpArgs false
set_option maxHeartbeats 4000000
def cfgL (c : Cfg) : List Value := [.int .i64 c.capacity, .int .i64 c.queueSize, .int .u64 c.minDeposit, .int .u64 c.maxDeposit, .int .u64 c.supplyCap, .int .u64 c.minBalance, .int .u64 c.maxBalance, .int .u64 c.minChurn, .int .u64 c.quotient, .int .u64 c.forcedCap,
  .int .i64 c.unbonding, .int .i64 c.slashDelay, .int .i64 c.ringLen, .int .i64 c.epochLen, .int .i64 c.visits, .int .i64 c.payments, .int .i64 c.partials, .int .i64 c.merges, .int .u64 c.penNum, .int .u64 c.penDen]
abbrev cfgV (c : Cfg) : Value := .agg (cfgL c).toArray
theorem inI_spec (x lo hi : Int) (R : List Asn) : Spec 250 [.int .i64 x, .int .i64 lo, .int .i64 hi] R fun u L' => u = .bool (bt x lo hi) ∧ L' = R := by
  (intro G w M; refine sx_enter (vs := ([.int .i64 x, .int .i64 lo, .int .i64 hi] : List Value)) Tryz.func250 (n := 15) rfl rfl rfl rfl ?_; intro a F; (try simp only [List.cons_append, List.nil_append] at M))
  (repeat' (first | (refine sx_nil ?_; (try (replace F := F.filt [0, 1, 2, 6] rfl))) | (refine sv1 F M (h := ?_); clear F a; intro a F) | refine pv1 (h := ?_) | (refine sv3 F M (h := ?_); clear M; intro w M) | (refine sv2 F M (h := ?_); clear F M a; intro nb a w F M) | refine pv3 (h := ?_) | (refine pv2 (h := ?_); intro nb) | ((first | refine svC F M (h := ?_) | refine svC0 F M (h := ?_) | refine pvC (h := ?_) | refine pvC0 (h := ?_)); (fail); (first | refine ⟨rvsA, ?_⟩ | (clear F M a; intro a w F M) | (clear M; intro w M))) | (refine svK F (h := ?_); clear F a; intro a F) | refine svK0 F (h := ?_) | ((refine sx_guardb F rfl (fun hg => ?_) (fun hg => ?_)) <;> (rw [hg] at F; (try (exact no hg)))) | (refine pvF (h := ?_); intro nb) | refine pvK (h := ?_) | refine pvK0 (h := ?_) | (refine pv_nil ?_; intro a w F M; (try (replace F := F.filt [0, 1, 2, 6] rfl))) | ((fail_if_success (with_reducible first | refine isW ?_ | refine isP ?_ | refine isL ?_)); (first | with_reducible refine sx_region ?_ | ((with_reducible refine isK ?_); (first | refine svT F (h := ?_) | refine svF F (h := ?_) | ((refine svB F (fun hc => ?_) (fun hc => ?_)) <;> (try (exact no hc))))) | ((with_reducible refine isD ?_); fail) | with_reducible refine wp_scope_straight ?_ | with_reducible refine wp_label ?_ | go_step))))
  all_goals (first | refine svEnd F M ?_ | refine svRet F M ?_)
  all_goals exact ⟨_, _, rfl, ⟨by simp_all [bt, tupOf] <;> omega, rfl⟩, M.perms permsA⟩
theorem inU_spec (x lo hi : Int) (R : List Asn) : Spec 255 [.int .u64 x, .int .u64 lo, .int .u64 hi] R fun u L' => u = .bool (bt x lo hi) ∧ L' = R := by
  (intro G w M; refine sx_enter (vs := ([.int .u64 x, .int .u64 lo, .int .u64 hi] : List Value)) Tryz.func255 (n := 15) rfl rfl rfl rfl ?_; intro a F; (try simp only [List.cons_append, List.nil_append] at M))
  (repeat' (first | (refine sx_nil ?_; (try (replace F := F.filt [0, 1, 2, 6] rfl))) | (refine sv1 F M (h := ?_); clear F a; intro a F) | refine pv1 (h := ?_) | (refine sv3 F M (h := ?_); clear M; intro w M) | (refine sv2 F M (h := ?_); clear F M a; intro nb a w F M) | refine pv3 (h := ?_) | (refine pv2 (h := ?_); intro nb) | ((first | refine svC F M (h := ?_) | refine svC0 F M (h := ?_) | refine pvC (h := ?_) | refine pvC0 (h := ?_)); (fail); (first | refine ⟨rvsA, ?_⟩ | (clear F M a; intro a w F M) | (clear M; intro w M))) | (refine svK F (h := ?_); clear F a; intro a F) | refine svK0 F (h := ?_) | ((refine sx_guardb F rfl (fun hg => ?_) (fun hg => ?_)) <;> (rw [hg] at F; (try (exact no hg)))) | (refine pvF (h := ?_); intro nb) | refine pvK (h := ?_) | refine pvK0 (h := ?_) | (refine pv_nil ?_; intro a w F M; (try (replace F := F.filt [0, 1, 2, 6] rfl))) | ((fail_if_success (with_reducible first | refine isW ?_ | refine isP ?_ | refine isL ?_)); (first | with_reducible refine sx_region ?_ | ((with_reducible refine isK ?_); (first | refine svT F (h := ?_) | refine svF F (h := ?_) | ((refine svB F (fun hc => ?_) (fun hc => ?_)) <;> (try (exact no hc))))) | ((with_reducible refine isD ?_); fail) | with_reducible refine wp_scope_straight ?_ | with_reducible refine wp_label ?_ | go_step))))
  all_goals (first | refine svEnd F M ?_ | refine svRet F M ?_)
  all_goals exact ⟨_, _, rfl, ⟨by simp_all [bt, tupOf] <;> omega, rfl⟩, M.perms permsA⟩
variable (c : Cfg)
theorem cond1 (R : List Asn) : Spec 249 [cfgV c] R fun u L' => u = .bool (fieldB c 1) ∧ L' = R := by
  (intro G w M; refine sx_enter (vs := ([cfgV c] : List Value)) Tryz.func249 (n := 6) rfl rfl rfl rfl ?_; intro a F; (try simp only [List.cons_append, List.nil_append] at M))
  (repeat' (first | (refine sx_nil ?_; (try (replace F := F.filt [0, 1, 2] rfl))) | (refine sv1 F M (h := ?_); clear F a; intro a F) | refine pv1 (h := ?_) | (refine sv3 F M (h := ?_); clear M; intro w M) | (refine sv2 F M (h := ?_); clear F M a; intro nb a w F M) | refine pv3 (h := ?_) | (refine pv2 (h := ?_); intro nb) | ((first | refine svC F M (h := ?_) | refine svC0 F M (h := ?_) | refine pvC (h := ?_) | refine pvC0 (h := ?_)); ((first | ((refine acW (k := 250) (inI_spec _ _ _ _) ?_); rintro u L' ⟨rfl, rfl⟩) | ((refine acW (k := 255) (inU_spec _ _ _ _) ?_); rintro u L' ⟨rfl, rfl⟩))); (first | refine ⟨rvsA, ?_⟩ | (clear F M a; intro a w F M) | (clear M; intro w M))) | (refine svK F (h := ?_); clear F a; intro a F) | refine svK0 F (h := ?_) | ((refine sx_guardb F rfl (fun hg => ?_) (fun hg => ?_)) <;> (rw [hg] at F; (try (exact no hg)))) | (refine pvF (h := ?_); intro nb) | refine pvK (h := ?_) | refine pvK0 (h := ?_) | (refine pv_nil ?_; intro a w F M; (try (replace F := F.filt [0, 1, 2] rfl))) | ((fail_if_success (with_reducible first | refine isW ?_ | refine isP ?_ | refine isL ?_)); (first | with_reducible refine sx_region ?_ | ((with_reducible refine isK ?_); (first | refine svT F (h := ?_) | refine svF F (h := ?_) | ((refine svB F (fun hc => ?_) (fun hc => ?_)) <;> (try (exact no hc))))) | ((with_reducible refine isD ?_); fail) | with_reducible refine wp_scope_straight ?_ | with_reducible refine wp_label ?_ | go_step))))
  all_goals (first | refine svEnd F M ?_ | refine svRet F M ?_)
  all_goals exact ⟨_, _, rfl, ⟨by rfl, rfl⟩, M.perms permsA⟩
theorem cond2 (R : List Asn) : Spec 251 [cfgV c] R fun u L' => u = .bool (fieldB c 2) ∧ L' = R := by
  (intro G w M; refine sx_enter (vs := ([cfgV c] : List Value)) Tryz.func251 (n := 6) rfl rfl rfl rfl ?_; intro a F; (try simp only [List.cons_append, List.nil_append] at M))
  (repeat' (first | (refine sx_nil ?_; (try (replace F := F.filt [0, 1, 2] rfl))) | (refine sv1 F M (h := ?_); clear F a; intro a F) | refine pv1 (h := ?_) | (refine sv3 F M (h := ?_); clear M; intro w M) | (refine sv2 F M (h := ?_); clear F M a; intro nb a w F M) | refine pv3 (h := ?_) | (refine pv2 (h := ?_); intro nb) | ((first | refine svC F M (h := ?_) | refine svC0 F M (h := ?_) | refine pvC (h := ?_) | refine pvC0 (h := ?_)); ((first | ((refine acW (k := 250) (inI_spec _ _ _ _) ?_); rintro u L' ⟨rfl, rfl⟩) | ((refine acW (k := 255) (inU_spec _ _ _ _) ?_); rintro u L' ⟨rfl, rfl⟩))); (first | refine ⟨rvsA, ?_⟩ | (clear F M a; intro a w F M) | (clear M; intro w M))) | (refine svK F (h := ?_); clear F a; intro a F) | refine svK0 F (h := ?_) | ((refine sx_guardb F rfl (fun hg => ?_) (fun hg => ?_)) <;> (rw [hg] at F; (try (exact no hg)))) | (refine pvF (h := ?_); intro nb) | refine pvK (h := ?_) | refine pvK0 (h := ?_) | (refine pv_nil ?_; intro a w F M; (try (replace F := F.filt [0, 1, 2] rfl))) | ((fail_if_success (with_reducible first | refine isW ?_ | refine isP ?_ | refine isL ?_)); (first | with_reducible refine sx_region ?_ | ((with_reducible refine isK ?_); (first | refine svT F (h := ?_) | refine svF F (h := ?_) | ((refine svB F (fun hc => ?_) (fun hc => ?_)) <;> (try (exact no hc))))) | ((with_reducible refine isD ?_); fail) | with_reducible refine wp_scope_straight ?_ | with_reducible refine wp_label ?_ | go_step))))
  all_goals (first | refine svEnd F M ?_ | refine svRet F M ?_)
  all_goals exact ⟨_, _, rfl, ⟨by rfl, rfl⟩, M.perms permsA⟩
theorem cond3 (R : List Asn) : Spec 252 [cfgV c] R fun u L' => u = .bool (fieldB c 3) ∧ L' = R := by
  (intro G w M; refine sx_enter (vs := ([cfgV c] : List Value)) Tryz.func252 (n := 6) rfl rfl rfl rfl ?_; intro a F; (try simp only [List.cons_append, List.nil_append] at M))
  (repeat' (first | (refine sx_nil ?_; (try (replace F := F.filt [0, 1, 2] rfl))) | (refine sv1 F M (h := ?_); clear F a; intro a F) | refine pv1 (h := ?_) | (refine sv3 F M (h := ?_); clear M; intro w M) | (refine sv2 F M (h := ?_); clear F M a; intro nb a w F M) | refine pv3 (h := ?_) | (refine pv2 (h := ?_); intro nb) | ((first | refine svC F M (h := ?_) | refine svC0 F M (h := ?_) | refine pvC (h := ?_) | refine pvC0 (h := ?_)); ((first | ((refine acW (k := 250) (inI_spec _ _ _ _) ?_); rintro u L' ⟨rfl, rfl⟩) | ((refine acW (k := 255) (inU_spec _ _ _ _) ?_); rintro u L' ⟨rfl, rfl⟩))); (first | refine ⟨rvsA, ?_⟩ | (clear F M a; intro a w F M) | (clear M; intro w M))) | (refine svK F (h := ?_); clear F a; intro a F) | refine svK0 F (h := ?_) | ((refine sx_guardb F rfl (fun hg => ?_) (fun hg => ?_)) <;> (rw [hg] at F; (try (exact no hg)))) | (refine pvF (h := ?_); intro nb) | refine pvK (h := ?_) | refine pvK0 (h := ?_) | (refine pv_nil ?_; intro a w F M; (try (replace F := F.filt [0, 1, 2] rfl))) | ((fail_if_success (with_reducible first | refine isW ?_ | refine isP ?_ | refine isL ?_)); (first | with_reducible refine sx_region ?_ | ((with_reducible refine isK ?_); (first | refine svT F (h := ?_) | refine svF F (h := ?_) | ((refine svB F (fun hc => ?_) (fun hc => ?_)) <;> (try (exact no hc))))) | ((with_reducible refine isD ?_); fail) | with_reducible refine wp_scope_straight ?_ | with_reducible refine wp_label ?_ | go_step))))
  all_goals (first | refine svEnd F M ?_ | refine svRet F M ?_)
  all_goals exact ⟨_, _, rfl, ⟨by (simp [fieldB, tupOf]; try omega), rfl⟩, M.perms permsA⟩
theorem cond4 (R : List Asn) : Spec 253 [cfgV c] R fun u L' => u = .bool (fieldB c 4) ∧ L' = R := by
  (intro G w M; refine sx_enter (vs := ([cfgV c] : List Value)) Tryz.func253 (n := 8) rfl rfl rfl rfl ?_; intro a F; (try simp only [List.cons_append, List.nil_append] at M))
  (repeat' (first | (refine sx_nil ?_; (try (replace F := F.filt [0, 1, 2] rfl))) | (refine sv1 F M (h := ?_); clear F a; intro a F) | refine pv1 (h := ?_) | (refine sv3 F M (h := ?_); clear M; intro w M) | (refine sv2 F M (h := ?_); clear F M a; intro nb a w F M) | refine pv3 (h := ?_) | (refine pv2 (h := ?_); intro nb) | ((first | refine svC F M (h := ?_) | refine svC0 F M (h := ?_) | refine pvC (h := ?_) | refine pvC0 (h := ?_)); ((first | ((refine acW (k := 250) (inI_spec _ _ _ _) ?_); rintro u L' ⟨rfl, rfl⟩) | ((refine acW (k := 255) (inU_spec _ _ _ _) ?_); rintro u L' ⟨rfl, rfl⟩))); (first | refine ⟨rvsA, ?_⟩ | (clear F M a; intro a w F M) | (clear M; intro w M))) | (refine svK F (h := ?_); clear F a; intro a F) | refine svK0 F (h := ?_) | ((refine sx_guardb F rfl (fun hg => ?_) (fun hg => ?_)) <;> (rw [hg] at F; (try (exact no hg)))) | (refine pvF (h := ?_); intro nb) | refine pvK (h := ?_) | refine pvK0 (h := ?_) | (refine pv_nil ?_; intro a w F M; (try (replace F := F.filt [0, 1, 2] rfl))) | ((fail_if_success (with_reducible first | refine isW ?_ | refine isP ?_ | refine isL ?_)); (first | with_reducible refine sx_region ?_ | ((with_reducible refine isK ?_); (first | refine svT F (h := ?_) | refine svF F (h := ?_) | ((refine svB F (fun hc => ?_) (fun hc => ?_)) <;> (try (exact no hc))))) | ((with_reducible refine isD ?_); fail) | with_reducible refine wp_scope_straight ?_ | with_reducible refine wp_label ?_ | go_step))))
  all_goals (first | refine svEnd F M ?_ | refine svRet F M ?_)
  all_goals exact ⟨_, _, rfl, ⟨by (simp [fieldB, tupOf]; try omega), rfl⟩, M.perms permsA⟩
theorem cond5 (R : List Asn) : Spec 254 [cfgV c] R fun u L' => u = .bool (fieldB c 5) ∧ L' = R := by
  (intro G w M; refine sx_enter (vs := ([cfgV c] : List Value)) Tryz.func254 (n := 8) rfl rfl rfl rfl ?_; intro a F; (try simp only [List.cons_append, List.nil_append] at M))
  (repeat' (first | (refine sx_nil ?_; (try (replace F := F.filt [0, 1, 2] rfl))) | (refine sv1 F M (h := ?_); clear F a; intro a F) | refine pv1 (h := ?_) | (refine sv3 F M (h := ?_); clear M; intro w M) | (refine sv2 F M (h := ?_); clear F M a; intro nb a w F M) | refine pv3 (h := ?_) | (refine pv2 (h := ?_); intro nb) | ((first | refine svC F M (h := ?_) | refine svC0 F M (h := ?_) | refine pvC (h := ?_) | refine pvC0 (h := ?_)); ((first | ((refine acW (k := 250) (inI_spec _ _ _ _) ?_); rintro u L' ⟨rfl, rfl⟩) | ((refine acW (k := 255) (inU_spec _ _ _ _) ?_); rintro u L' ⟨rfl, rfl⟩))); (first | refine ⟨rvsA, ?_⟩ | (clear F M a; intro a w F M) | (clear M; intro w M))) | (refine svK F (h := ?_); clear F a; intro a F) | refine svK0 F (h := ?_) | ((refine sx_guardb F rfl (fun hg => ?_) (fun hg => ?_)) <;> (rw [hg] at F; (try (exact no hg)))) | (refine pvF (h := ?_); intro nb) | refine pvK (h := ?_) | refine pvK0 (h := ?_) | (refine pv_nil ?_; intro a w F M; (try (replace F := F.filt [0, 1, 2] rfl))) | ((fail_if_success (with_reducible first | refine isW ?_ | refine isP ?_ | refine isL ?_)); (first | with_reducible refine sx_region ?_ | ((with_reducible refine isK ?_); (first | refine svT F (h := ?_) | refine svF F (h := ?_) | ((refine svB F (fun hc => ?_) (fun hc => ?_)) <;> (try (exact no hc))))) | ((with_reducible refine isD ?_); fail) | with_reducible refine wp_scope_straight ?_ | with_reducible refine wp_label ?_ | go_step))))
  all_goals (first | refine svEnd F M ?_ | refine svRet F M ?_)
  all_goals exact ⟨_, _, rfl, ⟨by rfl, rfl⟩, M.perms permsA⟩
theorem cond6 (R : List Asn) : Spec 256 [cfgV c] R fun u L' => u = .bool (fieldB c 6) ∧ L' = R := by
  (intro G w M; refine sx_enter (vs := ([cfgV c] : List Value)) Tryz.func256 (n := 8) rfl rfl rfl rfl ?_; intro a F; (try simp only [List.cons_append, List.nil_append] at M))
  (repeat' (first | (refine sx_nil ?_; (try (replace F := F.filt [0, 1, 2] rfl))) | (refine sv1 F M (h := ?_); clear F a; intro a F) | refine pv1 (h := ?_) | (refine sv3 F M (h := ?_); clear M; intro w M) | (refine sv2 F M (h := ?_); clear F M a; intro nb a w F M) | refine pv3 (h := ?_) | (refine pv2 (h := ?_); intro nb) | ((first | refine svC F M (h := ?_) | refine svC0 F M (h := ?_) | refine pvC (h := ?_) | refine pvC0 (h := ?_)); ((first | ((refine acW (k := 250) (inI_spec _ _ _ _) ?_); rintro u L' ⟨rfl, rfl⟩) | ((refine acW (k := 255) (inU_spec _ _ _ _) ?_); rintro u L' ⟨rfl, rfl⟩))); (first | refine ⟨rvsA, ?_⟩ | (clear F M a; intro a w F M) | (clear M; intro w M))) | (refine svK F (h := ?_); clear F a; intro a F) | refine svK0 F (h := ?_) | ((refine sx_guardb F rfl (fun hg => ?_) (fun hg => ?_)) <;> (rw [hg] at F; (try (exact no hg)))) | (refine pvF (h := ?_); intro nb) | refine pvK (h := ?_) | refine pvK0 (h := ?_) | (refine pv_nil ?_; intro a w F M; (try (replace F := F.filt [0, 1, 2] rfl))) | ((fail_if_success (with_reducible first | refine isW ?_ | refine isP ?_ | refine isL ?_)); (first | with_reducible refine sx_region ?_ | ((with_reducible refine isK ?_); (first | refine svT F (h := ?_) | refine svF F (h := ?_) | ((refine svB F (fun hc => ?_) (fun hc => ?_)) <;> (try (exact no hc))))) | ((with_reducible refine isD ?_); fail) | with_reducible refine wp_scope_straight ?_ | with_reducible refine wp_label ?_ | go_step))))
  all_goals (first | refine svEnd F M ?_ | refine svRet F M ?_)
  all_goals exact ⟨_, _, rfl, ⟨by rfl, rfl⟩, M.perms permsA⟩
theorem cond7 (R : List Asn) : Spec 257 [cfgV c] R fun u L' => u = .bool (fieldB c 7) ∧ L' = R := by
  (intro G w M; refine sx_enter (vs := ([cfgV c] : List Value)) Tryz.func257 (n := 10) rfl rfl rfl rfl ?_; intro a F; (try simp only [List.cons_append, List.nil_append] at M))
  (repeat' (first | (refine sx_nil ?_; (try (replace F := F.filt [0, 1, 2] rfl))) | (refine sv1 F M (h := ?_); clear F a; intro a F) | refine pv1 (h := ?_) | (refine sv3 F M (h := ?_); clear M; intro w M) | (refine sv2 F M (h := ?_); clear F M a; intro nb a w F M) | refine pv3 (h := ?_) | (refine pv2 (h := ?_); intro nb) | ((first | refine svC F M (h := ?_) | refine svC0 F M (h := ?_) | refine pvC (h := ?_) | refine pvC0 (h := ?_)); ((first | ((refine acW (k := 250) (inI_spec _ _ _ _) ?_); rintro u L' ⟨rfl, rfl⟩) | ((refine acW (k := 255) (inU_spec _ _ _ _) ?_); rintro u L' ⟨rfl, rfl⟩))); (first | refine ⟨rvsA, ?_⟩ | (clear F M a; intro a w F M) | (clear M; intro w M))) | (refine svK F (h := ?_); clear F a; intro a F) | refine svK0 F (h := ?_) | ((refine sx_guardb F rfl (fun hg => ?_) (fun hg => ?_)) <;> (rw [hg] at F; (try (exact no hg)))) | (refine pvF (h := ?_); intro nb) | refine pvK (h := ?_) | refine pvK0 (h := ?_) | (refine pv_nil ?_; intro a w F M; (try (replace F := F.filt [0, 1, 2] rfl))) | ((fail_if_success (with_reducible first | refine isW ?_ | refine isP ?_ | refine isL ?_)); (first | with_reducible refine sx_region ?_ | ((with_reducible refine isK ?_); (first | refine svT F (h := ?_) | refine svF F (h := ?_) | ((refine svB F (fun hc => ?_) (fun hc => ?_)) <;> (try (exact no hc))))) | ((with_reducible refine isD ?_); fail) | with_reducible refine wp_scope_straight ?_ | with_reducible refine wp_label ?_ | go_step))))
  all_goals (first | refine svEnd F M ?_ | refine svRet F M ?_)
  all_goals exact ⟨_, _, rfl, ⟨by rfl, rfl⟩, M.perms permsA⟩
theorem cond8 (R : List Asn) : Spec 258 [cfgV c] R fun u L' => u = .bool (fieldB c 8) ∧ L' = R := by
  (intro G w M; refine sx_enter (vs := ([cfgV c] : List Value)) Tryz.func258 (n := 6) rfl rfl rfl rfl ?_; intro a F; (try simp only [List.cons_append, List.nil_append] at M))
  (repeat' (first | (refine sx_nil ?_; (try (replace F := F.filt [0, 1, 2] rfl))) | (refine sv1 F M (h := ?_); clear F a; intro a F) | refine pv1 (h := ?_) | (refine sv3 F M (h := ?_); clear M; intro w M) | (refine sv2 F M (h := ?_); clear F M a; intro nb a w F M) | refine pv3 (h := ?_) | (refine pv2 (h := ?_); intro nb) | ((first | refine svC F M (h := ?_) | refine svC0 F M (h := ?_) | refine pvC (h := ?_) | refine pvC0 (h := ?_)); ((first | ((refine acW (k := 250) (inI_spec _ _ _ _) ?_); rintro u L' ⟨rfl, rfl⟩) | ((refine acW (k := 255) (inU_spec _ _ _ _) ?_); rintro u L' ⟨rfl, rfl⟩))); (first | refine ⟨rvsA, ?_⟩ | (clear F M a; intro a w F M) | (clear M; intro w M))) | (refine svK F (h := ?_); clear F a; intro a F) | refine svK0 F (h := ?_) | ((refine sx_guardb F rfl (fun hg => ?_) (fun hg => ?_)) <;> (rw [hg] at F; (try (exact no hg)))) | (refine pvF (h := ?_); intro nb) | refine pvK (h := ?_) | refine pvK0 (h := ?_) | (refine pv_nil ?_; intro a w F M; (try (replace F := F.filt [0, 1, 2] rfl))) | ((fail_if_success (with_reducible first | refine isW ?_ | refine isP ?_ | refine isL ?_)); (first | with_reducible refine sx_region ?_ | ((with_reducible refine isK ?_); (first | refine svT F (h := ?_) | refine svF F (h := ?_) | ((refine svB F (fun hc => ?_) (fun hc => ?_)) <;> (try (exact no hc))))) | ((with_reducible refine isD ?_); fail) | with_reducible refine wp_scope_straight ?_ | with_reducible refine wp_label ?_ | go_step))))
  all_goals (first | refine svEnd F M ?_ | refine svRet F M ?_)
  all_goals exact ⟨_, _, rfl, ⟨by rfl, rfl⟩, M.perms permsA⟩
theorem cond9 (R : List Asn) : Spec 259 [cfgV c] R fun u L' => u = .bool (fieldB c 9) ∧ L' = R := by
  (intro G w M; refine sx_enter (vs := ([cfgV c] : List Value)) Tryz.func259 (n := 6) rfl rfl rfl rfl ?_; intro a F; (try simp only [List.cons_append, List.nil_append] at M))
  (repeat' (first | (refine sx_nil ?_; (try (replace F := F.filt [0, 1, 2] rfl))) | (refine sv1 F M (h := ?_); clear F a; intro a F) | refine pv1 (h := ?_) | (refine sv3 F M (h := ?_); clear M; intro w M) | (refine sv2 F M (h := ?_); clear F M a; intro nb a w F M) | refine pv3 (h := ?_) | (refine pv2 (h := ?_); intro nb) | ((first | refine svC F M (h := ?_) | refine svC0 F M (h := ?_) | refine pvC (h := ?_) | refine pvC0 (h := ?_)); ((first | ((refine acW (k := 250) (inI_spec _ _ _ _) ?_); rintro u L' ⟨rfl, rfl⟩) | ((refine acW (k := 255) (inU_spec _ _ _ _) ?_); rintro u L' ⟨rfl, rfl⟩))); (first | refine ⟨rvsA, ?_⟩ | (clear F M a; intro a w F M) | (clear M; intro w M))) | (refine svK F (h := ?_); clear F a; intro a F) | refine svK0 F (h := ?_) | ((refine sx_guardb F rfl (fun hg => ?_) (fun hg => ?_)) <;> (rw [hg] at F; (try (exact no hg)))) | (refine pvF (h := ?_); intro nb) | refine pvK (h := ?_) | refine pvK0 (h := ?_) | (refine pv_nil ?_; intro a w F M; (try (replace F := F.filt [0, 1, 2] rfl))) | ((fail_if_success (with_reducible first | refine isW ?_ | refine isP ?_ | refine isL ?_)); (first | with_reducible refine sx_region ?_ | ((with_reducible refine isK ?_); (first | refine svT F (h := ?_) | refine svF F (h := ?_) | ((refine svB F (fun hc => ?_) (fun hc => ?_)) <;> (try (exact no hc))))) | ((with_reducible refine isD ?_); fail) | with_reducible refine wp_scope_straight ?_ | with_reducible refine wp_label ?_ | go_step))))
  all_goals (first | refine svEnd F M ?_ | refine svRet F M ?_)
  all_goals exact ⟨_, _, rfl, ⟨by (simp [fieldB, tupOf]; try omega), rfl⟩, M.perms permsA⟩
theorem cond10 (R : List Asn) : Spec 260 [cfgV c] R fun u L' => u = .bool (fieldB c 10) ∧ L' = R := by
  (intro G w M; refine sx_enter (vs := ([cfgV c] : List Value)) Tryz.func260 (n := 6) rfl rfl rfl rfl ?_; intro a F; (try simp only [List.cons_append, List.nil_append] at M))
  (repeat' (first | (refine sx_nil ?_; (try (replace F := F.filt [0, 1, 2] rfl))) | (refine sv1 F M (h := ?_); clear F a; intro a F) | refine pv1 (h := ?_) | (refine sv3 F M (h := ?_); clear M; intro w M) | (refine sv2 F M (h := ?_); clear F M a; intro nb a w F M) | refine pv3 (h := ?_) | (refine pv2 (h := ?_); intro nb) | ((first | refine svC F M (h := ?_) | refine svC0 F M (h := ?_) | refine pvC (h := ?_) | refine pvC0 (h := ?_)); ((first | ((refine acW (k := 250) (inI_spec _ _ _ _) ?_); rintro u L' ⟨rfl, rfl⟩) | ((refine acW (k := 255) (inU_spec _ _ _ _) ?_); rintro u L' ⟨rfl, rfl⟩))); (first | refine ⟨rvsA, ?_⟩ | (clear F M a; intro a w F M) | (clear M; intro w M))) | (refine svK F (h := ?_); clear F a; intro a F) | refine svK0 F (h := ?_) | ((refine sx_guardb F rfl (fun hg => ?_) (fun hg => ?_)) <;> (rw [hg] at F; (try (exact no hg)))) | (refine pvF (h := ?_); intro nb) | refine pvK (h := ?_) | refine pvK0 (h := ?_) | (refine pv_nil ?_; intro a w F M; (try (replace F := F.filt [0, 1, 2] rfl))) | ((fail_if_success (with_reducible first | refine isW ?_ | refine isP ?_ | refine isL ?_)); (first | with_reducible refine sx_region ?_ | ((with_reducible refine isK ?_); (first | refine svT F (h := ?_) | refine svF F (h := ?_) | ((refine svB F (fun hc => ?_) (fun hc => ?_)) <;> (try (exact no hc))))) | ((with_reducible refine isD ?_); fail) | with_reducible refine wp_scope_straight ?_ | with_reducible refine wp_label ?_ | go_step))))
  all_goals (first | refine svEnd F M ?_ | refine svRet F M ?_)
  all_goals exact ⟨_, _, rfl, ⟨by (simp [fieldB, tupOf]; try omega), rfl⟩, M.perms permsA⟩
theorem cond11 (R : List Asn) : Spec 261 [cfgV c] R fun u L' => u = .bool (fieldB c 11) ∧ L' = R := by
  (intro G w M; refine sx_enter (vs := ([cfgV c] : List Value)) Tryz.func261 (n := 6) rfl rfl rfl rfl ?_; intro a F; (try simp only [List.cons_append, List.nil_append] at M))
  (repeat' (first | (refine sx_nil ?_; (try (replace F := F.filt [0, 1, 2] rfl))) | (refine sv1 F M (h := ?_); clear F a; intro a F) | refine pv1 (h := ?_) | (refine sv3 F M (h := ?_); clear M; intro w M) | (refine sv2 F M (h := ?_); clear F M a; intro nb a w F M) | refine pv3 (h := ?_) | (refine pv2 (h := ?_); intro nb) | ((first | refine svC F M (h := ?_) | refine svC0 F M (h := ?_) | refine pvC (h := ?_) | refine pvC0 (h := ?_)); ((first | ((refine acW (k := 250) (inI_spec _ _ _ _) ?_); rintro u L' ⟨rfl, rfl⟩) | ((refine acW (k := 255) (inU_spec _ _ _ _) ?_); rintro u L' ⟨rfl, rfl⟩))); (first | refine ⟨rvsA, ?_⟩ | (clear F M a; intro a w F M) | (clear M; intro w M))) | (refine svK F (h := ?_); clear F a; intro a F) | refine svK0 F (h := ?_) | ((refine sx_guardb F rfl (fun hg => ?_) (fun hg => ?_)) <;> (rw [hg] at F; (try (exact no hg)))) | (refine pvF (h := ?_); intro nb) | refine pvK (h := ?_) | refine pvK0 (h := ?_) | (refine pv_nil ?_; intro a w F M; (try (replace F := F.filt [0, 1, 2] rfl))) | ((fail_if_success (with_reducible first | refine isW ?_ | refine isP ?_ | refine isL ?_)); (first | with_reducible refine sx_region ?_ | ((with_reducible refine isK ?_); (first | refine svT F (h := ?_) | refine svF F (h := ?_) | ((refine svB F (fun hc => ?_) (fun hc => ?_)) <;> (try (exact no hc))))) | ((with_reducible refine isD ?_); fail) | with_reducible refine wp_scope_straight ?_ | with_reducible refine wp_label ?_ | go_step))))
  all_goals (first | refine svEnd F M ?_ | refine svRet F M ?_)
  all_goals exact ⟨_, _, rfl, ⟨by rfl, rfl⟩, M.perms permsA⟩
theorem cond12 (hu : c.unbonding ≤ 1048576 ∧ 1 ≤ c.unbonding) (R : List Asn) : Spec 262 [cfgV c] R fun u L' => u = .bool (fieldB c 12) ∧ L' = R := by
  (intro G w M; refine sx_enter (vs := ([cfgV c] : List Value)) Tryz.func262 (n := 9) rfl rfl rfl rfl ?_; intro a F; (try simp only [List.cons_append, List.nil_append] at M))
  (repeat' (first | (refine sx_nil ?_; (try (replace F := F.filt [0, 1, 2] rfl))) | (refine sv1 F M (h := ?_); clear F a; intro a F) | refine pv1 (h := ?_) | (refine sv3 F M (h := ?_); clear M; intro w M) | (refine sv2 F M (h := ?_); clear F M a; intro nb a w F M) | refine pv3 (h := ?_) | (refine pv2 (h := ?_); intro nb) | ((first | refine svC F M (h := ?_) | refine svC0 F M (h := ?_) | refine pvC (h := ?_) | refine pvC0 (h := ?_)); ((first | ((refine acW (k := 250) (inI_spec _ _ _ _) ?_); rintro u L' ⟨rfl, rfl⟩) | ((refine acW (k := 255) (inU_spec _ _ _ _) ?_); rintro u L' ⟨rfl, rfl⟩))); (first | refine ⟨rvsA, ?_⟩ | (clear F M a; intro a w F M) | (clear M; intro w M))) | (refine svK F (h := ?_); clear F a; intro a F) | refine svK0 F (h := ?_) | ((refine sx_guardb F rfl (fun hg => ?_) (fun hg => ?_)) <;> (rw [hg] at F; (try (exact no hg)))) | (refine pvF (h := ?_); intro nb) | refine pvK (h := ?_) | refine pvK0 (h := ?_) | (refine pv_nil ?_; intro a w F M; (try (replace F := F.filt [0, 1, 2] rfl))) | ((fail_if_success (with_reducible first | refine isW ?_ | refine isP ?_ | refine isL ?_)); (first | with_reducible refine sx_region ?_ | ((with_reducible refine isK ?_); (first | refine svT F (h := ?_) | refine svF F (h := ?_) | ((refine svB F (fun hc => ?_) (fun hc => ?_)) <;> (try (exact no hc))))) | ((with_reducible refine isD ?_); fail) | with_reducible refine wp_scope_straight ?_ | with_reducible refine wp_label ?_ | go_step))))
  all_goals (first | refine svEnd F M ?_ | refine svRet F M ?_)
  all_goals exact ⟨_, _, rfl, ⟨by rfl, rfl⟩, M.perms permsA⟩
theorem cond13 (R : List Asn) : Spec 263 [cfgV c] R fun u L' => u = .bool (fieldB c 13) ∧ L' = R := by
  (intro G w M; refine sx_enter (vs := ([cfgV c] : List Value)) Tryz.func263 (n := 6) rfl rfl rfl rfl ?_; intro a F; (try simp only [List.cons_append, List.nil_append] at M))
  (repeat' (first | (refine sx_nil ?_; (try (replace F := F.filt [0, 1, 2] rfl))) | (refine sv1 F M (h := ?_); clear F a; intro a F) | refine pv1 (h := ?_) | (refine sv3 F M (h := ?_); clear M; intro w M) | (refine sv2 F M (h := ?_); clear F M a; intro nb a w F M) | refine pv3 (h := ?_) | (refine pv2 (h := ?_); intro nb) | ((first | refine svC F M (h := ?_) | refine svC0 F M (h := ?_) | refine pvC (h := ?_) | refine pvC0 (h := ?_)); ((first | ((refine acW (k := 250) (inI_spec _ _ _ _) ?_); rintro u L' ⟨rfl, rfl⟩) | ((refine acW (k := 255) (inU_spec _ _ _ _) ?_); rintro u L' ⟨rfl, rfl⟩))); (first | refine ⟨rvsA, ?_⟩ | (clear F M a; intro a w F M) | (clear M; intro w M))) | (refine svK F (h := ?_); clear F a; intro a F) | refine svK0 F (h := ?_) | ((refine sx_guardb F rfl (fun hg => ?_) (fun hg => ?_)) <;> (rw [hg] at F; (try (exact no hg)))) | (refine pvF (h := ?_); intro nb) | refine pvK (h := ?_) | refine pvK0 (h := ?_) | (refine pv_nil ?_; intro a w F M; (try (replace F := F.filt [0, 1, 2] rfl))) | ((fail_if_success (with_reducible first | refine isW ?_ | refine isP ?_ | refine isL ?_)); (first | with_reducible refine sx_region ?_ | ((with_reducible refine isK ?_); (first | refine svT F (h := ?_) | refine svF F (h := ?_) | ((refine svB F (fun hc => ?_) (fun hc => ?_)) <;> (try (exact no hc))))) | ((with_reducible refine isD ?_); fail) | with_reducible refine wp_scope_straight ?_ | with_reducible refine wp_label ?_ | go_step))))
  all_goals (first | refine svEnd F M ?_ | refine svRet F M ?_)
  all_goals exact ⟨_, _, rfl, ⟨by rfl, rfl⟩, M.perms permsA⟩
theorem cond14 (R : List Asn) : Spec 264 [cfgV c] R fun u L' => u = .bool (fieldB c 14) ∧ L' = R := by
  (intro G w M; refine sx_enter (vs := ([cfgV c] : List Value)) Tryz.func264 (n := 6) rfl rfl rfl rfl ?_; intro a F; (try simp only [List.cons_append, List.nil_append] at M))
  (repeat' (first | (refine sx_nil ?_; (try (replace F := F.filt [0, 1, 2] rfl))) | (refine sv1 F M (h := ?_); clear F a; intro a F) | refine pv1 (h := ?_) | (refine sv3 F M (h := ?_); clear M; intro w M) | (refine sv2 F M (h := ?_); clear F M a; intro nb a w F M) | refine pv3 (h := ?_) | (refine pv2 (h := ?_); intro nb) | ((first | refine svC F M (h := ?_) | refine svC0 F M (h := ?_) | refine pvC (h := ?_) | refine pvC0 (h := ?_)); ((first | ((refine acW (k := 250) (inI_spec _ _ _ _) ?_); rintro u L' ⟨rfl, rfl⟩) | ((refine acW (k := 255) (inU_spec _ _ _ _) ?_); rintro u L' ⟨rfl, rfl⟩))); (first | refine ⟨rvsA, ?_⟩ | (clear F M a; intro a w F M) | (clear M; intro w M))) | (refine svK F (h := ?_); clear F a; intro a F) | refine svK0 F (h := ?_) | ((refine sx_guardb F rfl (fun hg => ?_) (fun hg => ?_)) <;> (rw [hg] at F; (try (exact no hg)))) | (refine pvF (h := ?_); intro nb) | refine pvK (h := ?_) | refine pvK0 (h := ?_) | (refine pv_nil ?_; intro a w F M; (try (replace F := F.filt [0, 1, 2] rfl))) | ((fail_if_success (with_reducible first | refine isW ?_ | refine isP ?_ | refine isL ?_)); (first | with_reducible refine sx_region ?_ | ((with_reducible refine isK ?_); (first | refine svT F (h := ?_) | refine svF F (h := ?_) | ((refine svB F (fun hc => ?_) (fun hc => ?_)) <;> (try (exact no hc))))) | ((with_reducible refine isD ?_); fail) | with_reducible refine wp_scope_straight ?_ | with_reducible refine wp_label ?_ | go_step))))
  all_goals (first | refine svEnd F M ?_ | refine svRet F M ?_)
  all_goals exact ⟨_, _, rfl, ⟨by rfl, rfl⟩, M.perms permsA⟩
theorem cond15 (R : List Asn) : Spec 265 [cfgV c] R fun u L' => u = .bool (fieldB c 15) ∧ L' = R := by
  (intro G w M; refine sx_enter (vs := ([cfgV c] : List Value)) Tryz.func265 (n := 6) rfl rfl rfl rfl ?_; intro a F; (try simp only [List.cons_append, List.nil_append] at M))
  (repeat' (first | (refine sx_nil ?_; (try (replace F := F.filt [0, 1, 2] rfl))) | (refine sv1 F M (h := ?_); clear F a; intro a F) | refine pv1 (h := ?_) | (refine sv3 F M (h := ?_); clear M; intro w M) | (refine sv2 F M (h := ?_); clear F M a; intro nb a w F M) | refine pv3 (h := ?_) | (refine pv2 (h := ?_); intro nb) | ((first | refine svC F M (h := ?_) | refine svC0 F M (h := ?_) | refine pvC (h := ?_) | refine pvC0 (h := ?_)); ((first | ((refine acW (k := 250) (inI_spec _ _ _ _) ?_); rintro u L' ⟨rfl, rfl⟩) | ((refine acW (k := 255) (inU_spec _ _ _ _) ?_); rintro u L' ⟨rfl, rfl⟩))); (first | refine ⟨rvsA, ?_⟩ | (clear F M a; intro a w F M) | (clear M; intro w M))) | (refine svK F (h := ?_); clear F a; intro a F) | refine svK0 F (h := ?_) | ((refine sx_guardb F rfl (fun hg => ?_) (fun hg => ?_)) <;> (rw [hg] at F; (try (exact no hg)))) | (refine pvF (h := ?_); intro nb) | refine pvK (h := ?_) | refine pvK0 (h := ?_) | (refine pv_nil ?_; intro a w F M; (try (replace F := F.filt [0, 1, 2] rfl))) | ((fail_if_success (with_reducible first | refine isW ?_ | refine isP ?_ | refine isL ?_)); (first | with_reducible refine sx_region ?_ | ((with_reducible refine isK ?_); (first | refine svT F (h := ?_) | refine svF F (h := ?_) | ((refine svB F (fun hc => ?_) (fun hc => ?_)) <;> (try (exact no hc))))) | ((with_reducible refine isD ?_); fail) | with_reducible refine wp_scope_straight ?_ | with_reducible refine wp_label ?_ | go_step))))
  all_goals (first | refine svEnd F M ?_ | refine svRet F M ?_)
  all_goals exact ⟨_, _, rfl, ⟨by rfl, rfl⟩, M.perms permsA⟩
theorem cond16 (R : List Asn) : Spec 266 [cfgV c] R fun u L' => u = .bool (fieldB c 16) ∧ L' = R := by
  (intro G w M; refine sx_enter (vs := ([cfgV c] : List Value)) Tryz.func266 (n := 6) rfl rfl rfl rfl ?_; intro a F; (try simp only [List.cons_append, List.nil_append] at M))
  (repeat' (first | (refine sx_nil ?_; (try (replace F := F.filt [0, 1, 2] rfl))) | (refine sv1 F M (h := ?_); clear F a; intro a F) | refine pv1 (h := ?_) | (refine sv3 F M (h := ?_); clear M; intro w M) | (refine sv2 F M (h := ?_); clear F M a; intro nb a w F M) | refine pv3 (h := ?_) | (refine pv2 (h := ?_); intro nb) | ((first | refine svC F M (h := ?_) | refine svC0 F M (h := ?_) | refine pvC (h := ?_) | refine pvC0 (h := ?_)); ((first | ((refine acW (k := 250) (inI_spec _ _ _ _) ?_); rintro u L' ⟨rfl, rfl⟩) | ((refine acW (k := 255) (inU_spec _ _ _ _) ?_); rintro u L' ⟨rfl, rfl⟩))); (first | refine ⟨rvsA, ?_⟩ | (clear F M a; intro a w F M) | (clear M; intro w M))) | (refine svK F (h := ?_); clear F a; intro a F) | refine svK0 F (h := ?_) | ((refine sx_guardb F rfl (fun hg => ?_) (fun hg => ?_)) <;> (rw [hg] at F; (try (exact no hg)))) | (refine pvF (h := ?_); intro nb) | refine pvK (h := ?_) | refine pvK0 (h := ?_) | (refine pv_nil ?_; intro a w F M; (try (replace F := F.filt [0, 1, 2] rfl))) | ((fail_if_success (with_reducible first | refine isW ?_ | refine isP ?_ | refine isL ?_)); (first | with_reducible refine sx_region ?_ | ((with_reducible refine isK ?_); (first | refine svT F (h := ?_) | refine svF F (h := ?_) | ((refine svB F (fun hc => ?_) (fun hc => ?_)) <;> (try (exact no hc))))) | ((with_reducible refine isD ?_); fail) | with_reducible refine wp_scope_straight ?_ | with_reducible refine wp_label ?_ | go_step))))
  all_goals (first | refine svEnd F M ?_ | refine svRet F M ?_)
  all_goals exact ⟨_, _, rfl, ⟨by rfl, rfl⟩, M.perms permsA⟩
theorem cond17 (hv : 1 ≤ c.visits ∧ c.visits ≤ 4096) (hp : 1 ≤ c.payments ∧ c.payments ≤ 4096) (R : List Asn) : Spec 267 [cfgV c] R fun u L' => u = .bool (fieldB c 17) ∧ L' = R := by
  (intro G w M; refine sx_enter (vs := ([cfgV c] : List Value)) Tryz.func267 (n := 12) rfl rfl rfl rfl ?_; intro a F; (try simp only [List.cons_append, List.nil_append] at M))
  (repeat' (first | (refine sx_nil ?_; (try (replace F := F.filt [0, 1, 2] rfl))) | (refine sv1 F M (h := ?_); clear F a; intro a F) | refine pv1 (h := ?_) | (refine sv3 F M (h := ?_); clear M; intro w M) | (refine sv2 F M (h := ?_); clear F M a; intro nb a w F M) | refine pv3 (h := ?_) | (refine pv2 (h := ?_); intro nb) | ((first | refine svC F M (h := ?_) | refine svC0 F M (h := ?_) | refine pvC (h := ?_) | refine pvC0 (h := ?_)); ((first | ((refine acW (k := 250) (inI_spec _ _ _ _) ?_); rintro u L' ⟨rfl, rfl⟩) | ((refine acW (k := 255) (inU_spec _ _ _ _) ?_); rintro u L' ⟨rfl, rfl⟩))); (first | refine ⟨rvsA, ?_⟩ | (clear F M a; intro a w F M) | (clear M; intro w M))) | (refine svK F (h := ?_); clear F a; intro a F) | refine svK0 F (h := ?_) | ((refine sx_guardb F rfl (fun hg => ?_) (fun hg => ?_)) <;> (rw [hg] at F; (try (exact no hg)))) | (refine pvF (h := ?_); intro nb) | refine pvK (h := ?_) | refine pvK0 (h := ?_) | (refine pv_nil ?_; intro a w F M; (try (replace F := F.filt [0, 1, 2] rfl))) | ((fail_if_success (with_reducible first | refine isW ?_ | refine isP ?_ | refine isL ?_)); (first | with_reducible refine sx_region ?_ | ((with_reducible refine isK ?_); (first | refine svT F (h := ?_) | refine svF F (h := ?_) | ((refine svB F (fun hc => ?_) (fun hc => ?_)) <;> (try (exact no hc))))) | ((with_reducible refine isD ?_); fail) | with_reducible refine wp_scope_straight ?_ | with_reducible refine wp_label ?_ | go_step))))
  all_goals (first | refine svEnd F M ?_ | refine svRet F M ?_)
  all_goals exact ⟨_, _, rfl, ⟨by (simp only [fieldB, bt, tupOf]; congr 1; rw [Bool.eq_iff_iff]; simp only [Bool.and_eq_true, decide_eq_true_eq]; split <;> omega), rfl⟩, M.perms permsA⟩
theorem cond18 (R : List Asn) : Spec 268 [cfgV c] R fun u L' => u = .bool (fieldB c 18) ∧ L' = R := by
  (intro G w M; refine sx_enter (vs := ([cfgV c] : List Value)) Tryz.func268 (n := 6) rfl rfl rfl rfl ?_; intro a F; (try simp only [List.cons_append, List.nil_append] at M))
  (repeat' (first | (refine sx_nil ?_; (try (replace F := F.filt [0, 1, 2] rfl))) | (refine sv1 F M (h := ?_); clear F a; intro a F) | refine pv1 (h := ?_) | (refine sv3 F M (h := ?_); clear M; intro w M) | (refine sv2 F M (h := ?_); clear F M a; intro nb a w F M) | refine pv3 (h := ?_) | (refine pv2 (h := ?_); intro nb) | ((first | refine svC F M (h := ?_) | refine svC0 F M (h := ?_) | refine pvC (h := ?_) | refine pvC0 (h := ?_)); ((first | ((refine acW (k := 250) (inI_spec _ _ _ _) ?_); rintro u L' ⟨rfl, rfl⟩) | ((refine acW (k := 255) (inU_spec _ _ _ _) ?_); rintro u L' ⟨rfl, rfl⟩))); (first | refine ⟨rvsA, ?_⟩ | (clear F M a; intro a w F M) | (clear M; intro w M))) | (refine svK F (h := ?_); clear F a; intro a F) | refine svK0 F (h := ?_) | ((refine sx_guardb F rfl (fun hg => ?_) (fun hg => ?_)) <;> (rw [hg] at F; (try (exact no hg)))) | (refine pvF (h := ?_); intro nb) | refine pvK (h := ?_) | refine pvK0 (h := ?_) | (refine pv_nil ?_; intro a w F M; (try (replace F := F.filt [0, 1, 2] rfl))) | ((fail_if_success (with_reducible first | refine isW ?_ | refine isP ?_ | refine isL ?_)); (first | with_reducible refine sx_region ?_ | ((with_reducible refine isK ?_); (first | refine svT F (h := ?_) | refine svF F (h := ?_) | ((refine svB F (fun hc => ?_) (fun hc => ?_)) <;> (try (exact no hc))))) | ((with_reducible refine isD ?_); fail) | with_reducible refine wp_scope_straight ?_ | with_reducible refine wp_label ?_ | go_step))))
  all_goals (first | refine svEnd F M ?_ | refine svRet F M ?_)
  all_goals exact ⟨_, _, rfl, ⟨by rfl, rfl⟩, M.perms permsA⟩
theorem cond19 (R : List Asn) : Spec 269 [cfgV c] R fun u L' => u = .bool (fieldB c 19) ∧ L' = R := by
  (intro G w M; refine sx_enter (vs := ([cfgV c] : List Value)) Tryz.func269 (n := 8) rfl rfl rfl rfl ?_; intro a F; (try simp only [List.cons_append, List.nil_append] at M))
  (repeat' (first | (refine sx_nil ?_; (try (replace F := F.filt [0, 1, 2] rfl))) | (refine sv1 F M (h := ?_); clear F a; intro a F) | refine pv1 (h := ?_) | (refine sv3 F M (h := ?_); clear M; intro w M) | (refine sv2 F M (h := ?_); clear F M a; intro nb a w F M) | refine pv3 (h := ?_) | (refine pv2 (h := ?_); intro nb) | ((first | refine svC F M (h := ?_) | refine svC0 F M (h := ?_) | refine pvC (h := ?_) | refine pvC0 (h := ?_)); ((first | ((refine acW (k := 250) (inI_spec _ _ _ _) ?_); rintro u L' ⟨rfl, rfl⟩) | ((refine acW (k := 255) (inU_spec _ _ _ _) ?_); rintro u L' ⟨rfl, rfl⟩))); (first | refine ⟨rvsA, ?_⟩ | (clear F M a; intro a w F M) | (clear M; intro w M))) | (refine svK F (h := ?_); clear F a; intro a F) | refine svK0 F (h := ?_) | ((refine sx_guardb F rfl (fun hg => ?_) (fun hg => ?_)) <;> (rw [hg] at F; (try (exact no hg)))) | (refine pvF (h := ?_); intro nb) | refine pvK (h := ?_) | refine pvK0 (h := ?_) | (refine pv_nil ?_; intro a w F M; (try (replace F := F.filt [0, 1, 2] rfl))) | ((fail_if_success (with_reducible first | refine isW ?_ | refine isP ?_ | refine isL ?_)); (first | with_reducible refine sx_region ?_ | ((with_reducible refine isK ?_); (first | refine svT F (h := ?_) | refine svF F (h := ?_) | ((refine svB F (fun hc => ?_) (fun hc => ?_)) <;> (try (exact no hc))))) | ((with_reducible refine isD ?_); fail) | with_reducible refine wp_scope_straight ?_ | with_reducible refine wp_label ?_ | go_step))))
  all_goals (first | refine svEnd F M ?_ | refine svRet F M ?_)
  all_goals exact ⟨_, _, rfl, ⟨by (simp [fieldB, tupOf]; try omega), rfl⟩, M.perms permsA⟩
theorem cond20 (R : List Asn) : Spec 270 [cfgV c] R fun u L' => u = .bool (fieldB c 20) ∧ L' = R := by
  (intro G w M; refine sx_enter (vs := ([cfgV c] : List Value)) Tryz.func270 (n := 6) rfl rfl rfl rfl ?_; intro a F; (try simp only [List.cons_append, List.nil_append] at M))
  (repeat' (first | (refine sx_nil ?_; (try (replace F := F.filt [0, 1, 2] rfl))) | (refine sv1 F M (h := ?_); clear F a; intro a F) | refine pv1 (h := ?_) | (refine sv3 F M (h := ?_); clear M; intro w M) | (refine sv2 F M (h := ?_); clear F M a; intro nb a w F M) | refine pv3 (h := ?_) | (refine pv2 (h := ?_); intro nb) | ((first | refine svC F M (h := ?_) | refine svC0 F M (h := ?_) | refine pvC (h := ?_) | refine pvC0 (h := ?_)); ((first | ((refine acW (k := 250) (inI_spec _ _ _ _) ?_); rintro u L' ⟨rfl, rfl⟩) | ((refine acW (k := 255) (inU_spec _ _ _ _) ?_); rintro u L' ⟨rfl, rfl⟩))); (first | refine ⟨rvsA, ?_⟩ | (clear F M a; intro a w F M) | (clear M; intro w M))) | (refine svK F (h := ?_); clear F a; intro a F) | refine svK0 F (h := ?_) | ((refine sx_guardb F rfl (fun hg => ?_) (fun hg => ?_)) <;> (rw [hg] at F; (try (exact no hg)))) | (refine pvF (h := ?_); intro nb) | refine pvK (h := ?_) | refine pvK0 (h := ?_) | (refine pv_nil ?_; intro a w F M; (try (replace F := F.filt [0, 1, 2] rfl))) | ((fail_if_success (with_reducible first | refine isW ?_ | refine isP ?_ | refine isL ?_)); (first | with_reducible refine sx_region ?_ | ((with_reducible refine isK ?_); (first | refine svT F (h := ?_) | refine svF F (h := ?_) | ((refine svB F (fun hc => ?_) (fun hc => ?_)) <;> (try (exact no hc))))) | ((with_reducible refine isD ?_); fail) | with_reducible refine wp_scope_straight ?_ | with_reducible refine wp_label ?_ | go_step))))
  all_goals (first | refine svEnd F M ?_ | refine svRet F M ?_)
  all_goals exact ⟨_, _, rfl, ⟨by rfl, rfl⟩, M.perms permsA⟩
/-- The conditions' numbers. -/
def condIds : List Nat := [249, 251, 252, 253, 254, 256, 257, 258, 259, 260, 261, 262, 263, 264, 265, 266, 267, 268, 269, 270]
def fnV (f : Nat) : Value := .func (.func f) #[] #[]
theorem conditions_spec (R : List Asn) : Spec 191 [] R fun u L' => u = .agg (condIds.map fnV).toArray ∧ L' = R := by
  (intro G w M; refine sx_enter (vs := ([] : List Value)) Tryz.func191 (n := 22) rfl rfl rfl rfl ?_; intro a F; (try simp only [List.cons_append, List.nil_append] at M))
  (repeat' (first | (refine sx_nil ?_; (try (replace F := F.filt [0] rfl))) | (refine sv1 F M (h := ?_); clear F a; intro a F) | refine pv1 (h := ?_) | (refine sv3 F M (h := ?_); clear M; intro w M) | (refine sv2 F M (h := ?_); clear F M a; intro nb a w F M) | refine pv3 (h := ?_) | (refine pv2 (h := ?_); intro nb) | ((first | refine svC F M (h := ?_) | refine svC0 F M (h := ?_) | refine pvC (h := ?_) | refine pvC0 (h := ?_)); (fail); (first | refine ⟨rvsA, ?_⟩ | (clear F M a; intro a w F M) | (clear M; intro w M))) | (refine svK F (h := ?_); clear F a; intro a F) | refine svK0 F (h := ?_) | ((refine sx_guardb F rfl (fun hg => ?_) (fun hg => ?_)) <;> (rw [hg] at F; (try (exact no hg)))) | (refine pvF (h := ?_); intro nb) | refine pvK (h := ?_) | refine pvK0 (h := ?_) | (refine pv_nil ?_; intro a w F M; (try (replace F := F.filt [0] rfl))) | ((fail_if_success (with_reducible first | refine isW ?_ | refine isP ?_ | refine isL ?_)); (first | with_reducible refine sx_region ?_ | ((with_reducible refine isK ?_); (first | refine svT F (h := ?_) | refine svF F (h := ?_) | ((refine svB F (fun hc => ?_) (fun hc => ?_)) <;> (try (exact no hc))))) | ((with_reducible refine isD ?_); fail) | with_reducible refine wp_scope_straight ?_ | with_reducible refine wp_label ?_ | go_step))))
  all_goals (first | refine svEnd F M ?_ | refine svRet F M ?_)
  all_goals exact ⟨_, _, rfl, ⟨rfl, rfl⟩, M.perms permsA⟩
theorem cond_at (k : Nat) (hk : k < 20) (hc : ∀ i, 1 ≤ i → i ≤ k → fieldB c i = true) : ∃ f, FK f ∧ ((condIds.map fnV).drop ((k : Int).toNat * 1)).take 1 = [.func (.func f) #[] #[]] ∧ ∀ R, Spec f [cfgV c] R fun u L' => u = .bool (fieldB c (k + 1)) ∧ L' = R := by
  have h11 : 11 ≤ k → c.unbonding ≤ 1048576 ∧ 1 ≤ c.unbonding := fun h => by have := hc 11 (by omega) h; simp [fieldB, bt] at this; omega
  have h15 : 15 ≤ k → 1 ≤ c.visits ∧ c.visits ≤ 4096 := fun h => by have := hc 15 (by omega) h; simp [fieldB, bt] at this; omega
  have h16 : 16 ≤ k → 1 ≤ c.payments ∧ c.payments ≤ 4096 := fun h => by have := hc 16 (by omega) h; simp [fieldB, bt] at this; omega
  rcases (by omega : k = 0 ∨ k = 1 ∨ k = 2 ∨ k = 3 ∨ k = 4 ∨ k = 5 ∨ k = 6 ∨ k = 7 ∨ k = 8 ∨ k = 9 ∨ k = 10 ∨ k = 11 ∨ k = 12 ∨ k = 13 ∨ k = 14 ∨ k = 15 ∨ k = 16 ∨ k = 17 ∨ k = 18 ∨ k = 19) with rfl | rfl | rfl | rfl | rfl | rfl | rfl | rfl | rfl | rfl | rfl | rfl | rfl | rfl | rfl | rfl | rfl | rfl | rfl | rfl
  · exact ⟨_, inferInstance, rfl, cond1 c⟩
  · exact ⟨_, inferInstance, rfl, cond2 c⟩
  · exact ⟨_, inferInstance, rfl, cond3 c⟩
  · exact ⟨_, inferInstance, rfl, cond4 c⟩
  · exact ⟨_, inferInstance, rfl, cond5 c⟩
  · exact ⟨_, inferInstance, rfl, cond6 c⟩
  · exact ⟨_, inferInstance, rfl, cond7 c⟩
  · exact ⟨_, inferInstance, rfl, cond8 c⟩
  · exact ⟨_, inferInstance, rfl, cond9 c⟩
  · exact ⟨_, inferInstance, rfl, cond10 c⟩
  · exact ⟨_, inferInstance, rfl, cond11 c⟩
  · exact ⟨_, inferInstance, rfl, cond12 c (h11 (by omega))⟩
  · exact ⟨_, inferInstance, rfl, cond13 c⟩
  · exact ⟨_, inferInstance, rfl, cond14 c⟩
  · exact ⟨_, inferInstance, rfl, cond15 c⟩
  · exact ⟨_, inferInstance, rfl, cond16 c⟩
  · exact ⟨_, inferInstance, rfl, cond17 c (h15 (by omega)) (h16 (by omega))⟩
  · exact ⟨_, inferInstance, rfl, cond18 c⟩
  · exact ⟨_, inferInstance, rfl, cond19 c⟩
  · exact ⟨_, inferInstance, rfl, cond20 c⟩
theorem check_spec (R : List Asn) : Spec 136 [cfgV c] R fun u L' => u = .int .i64 (checkF c) ∧ L' = R := by
  generalize hR : checkF c = r
  (intro G w M; refine sx_enter (vs := ([cfgV c] : List Value)) Tryz.func136 (n := 18) rfl rfl rfl rfl ?_; intro a F; (try simp only [List.cons_append, List.nil_append] at M))
  (repeat' (first | (refine sx_nil ?_; (try (replace F := F.filt [0, 1, 2, 3, 4, 5, 6, 7, 14] rfl))) | (refine sv1 F M (h := ?_); clear F a; intro a F) | refine pv1 (h := ?_) | (refine sv3 F M (h := ?_); clear M; intro w M) | (refine sv2 F M (h := ?_); clear F M a; intro nb a w F M) | refine pv3 (h := ?_) | (refine pv2 (h := ?_); intro nb) | ((first | refine svC F M (h := ?_) | refine svC0 F M (h := ?_) | refine pvC (h := ?_) | refine pvC0 (h := ?_)); (((refine acW (k := 191) (conditions_spec _) ?_); rintro u L' ⟨rfl, rfl⟩)); (first | refine ⟨rvsA, ?_⟩ | (clear F M a; intro a w F M) | (clear M; intro w M))) | (refine svK F (h := ?_); clear F a; intro a F) | refine svK0 F (h := ?_) | ((refine sx_guardb F rfl (fun hg => ?_) (fun hg => ?_)) <;> (rw [hg] at F; (try (exact no hg)))) | (refine pvF (h := ?_); intro nb) | refine pvK (h := ?_) | refine pvK0 (h := ?_) | (refine pv_nil ?_; intro a w F M; (try (replace F := F.filt [0, 1, 2, 3, 4, 5, 6, 7, 14] rfl))) | ((fail_if_success (with_reducible first | refine isW ?_ | refine isP ?_ | refine isL ?_)); (first | with_reducible refine sx_region ?_ | ((with_reducible refine isK ?_); (first | refine svT F (h := ?_) | refine svF F (h := ?_) | ((refine svB F (fun hc => ?_) (fun hc => ?_)) <;> (try (exact no hc))))) | ((with_reducible refine isD ?_); fail) | with_reducible refine wp_scope_straight ?_ | with_reducible refine wp_label ?_ | go_step))))
  refine svLoop F M (0 : Nat) (fun k => [(6, .int .i64 k)]) (fun _ => []) (fun k => k ≤ 20 ∧ checkGo c (20 - k) (k + 1) = r ∧ ∀ i, 1 ≤ i → i ≤ k → fieldB c i = true) (fun k => 20 - k) [] ⟨by omega, hR, by omega⟩ ?_
  (rintro k ⟨q1, q2, q3⟩ a w F M; (try simp only [List.cons_append, List.nil_append] at F M q1 q2 q3 ⊢))
  by_cases hk : k < 20
  · obtain ⟨f, hf, hd, hs⟩ := cond_at c k hk q3
    have hk2 : 20 - k = (20 - (k + 1)) + 1 := by omega
    rw [hk2, checkGo] at q2
    cases hb : fieldB c (k + 1) with
    | true =>
      rw [hb] at q2 hs
      (repeat' (first | ((first | refine sv1 F M (h := ?_) (hr := by ((apply rt_idxA; (exact rfl); (exact rfl); (exact rfl); (exact inferInstance); (exact inferInstance); omega; omega; (exact hd)))) | refine pv1 (h := ?_) (hr := by ((apply rt_idxA; (exact rfl); (exact rfl); (exact rfl); (exact inferInstance); (exact inferInstance); omega; omega; (exact hd))))); (try (clear F a; intro a F))) | (refine sx_nil ?_; (try (replace F := F.filt [0, 1, 2, 3, 4, 5, 6, 7, 14] rfl))) | (refine sv1 F M (h := ?_); clear F a; intro a F) | refine pv1 (h := ?_) | (refine sv3 F M (h := ?_); clear M; intro w M) | (refine sv2 F M (h := ?_); clear F M a; intro nb a w F M) | refine pv3 (h := ?_) | (refine pv2 (h := ?_); intro nb) | ((first | refine svC F M (h := ?_) | refine svC0 F M (h := ?_) | refine pvC (h := ?_) | refine pvC0 (h := ?_)); (((refine acW (k := f) (hs _) ?_); rintro u L' ⟨rfl, rfl⟩)); (first | refine ⟨rvsA, ?_⟩ | (clear F M a; intro a w F M) | (clear M; intro w M))) | (refine svK F (h := ?_); clear F a; intro a F) | refine svK0 F (h := ?_) | ((refine sx_guardb F rfl (fun hg => ?_) (fun hg => ?_)) <;> (rw [hg] at F; (try (exact no hg)))) | (refine pvF (h := ?_); intro nb) | refine pvK (h := ?_) | refine pvK0 (h := ?_) | (refine pv_nil ?_; intro a w F M; (try (replace F := F.filt [0, 1, 2, 3, 4, 5, 6, 7, 14] rfl))) | ((fail_if_success (with_reducible first | refine isW ?_ | refine isP ?_ | refine isL ?_)); (first | with_reducible refine sx_region ?_ | ((with_reducible refine isK ?_); (first | refine svT F (h := ?_) | refine svF F (h := ?_) | ((refine svB F (fun hc => ?_) (fun hc => ?_)) <;> (try (exact no hc))))) | ((with_reducible refine isD ?_); fail) | with_reducible refine wp_scope_straight ?_ | with_reducible refine wp_label ?_ | go_step))))
      refine sv_again F M (k + 1) kpA permsA ⟨by omega, by simpa using q2, fun i h1 h2 => ?_⟩ (by omega)
      rcases (by omega : i ≤ k ∨ i = k + 1) with h | rfl
      · exact q3 i h1 h
      · exact hb
    | false =>
      rw [hb] at q2 hs
      (repeat' (first | ((first | refine sv1 F M (h := ?_) (hr := by ((apply rt_idxA; (exact rfl); (exact rfl); (exact rfl); (exact inferInstance); (exact inferInstance); omega; omega; (exact hd)))) | refine pv1 (h := ?_) (hr := by ((apply rt_idxA; (exact rfl); (exact rfl); (exact rfl); (exact inferInstance); (exact inferInstance); omega; omega; (exact hd))))); (try (clear F a; intro a F))) | (refine sx_nil ?_; (try (replace F := F.filt [0, 1, 2, 3, 4, 5, 6, 7, 14] rfl))) | (refine sv1 F M (h := ?_); clear F a; intro a F) | refine pv1 (h := ?_) | (refine sv3 F M (h := ?_); clear M; intro w M) | (refine sv2 F M (h := ?_); clear F M a; intro nb a w F M) | refine pv3 (h := ?_) | (refine pv2 (h := ?_); intro nb) | ((first | refine svC F M (h := ?_) | refine svC0 F M (h := ?_) | refine pvC (h := ?_) | refine pvC0 (h := ?_)); (((refine acW (k := f) (hs _) ?_); rintro u L' ⟨rfl, rfl⟩)); (first | refine ⟨rvsA, ?_⟩ | (clear F M a; intro a w F M) | (clear M; intro w M))) | (refine svK F (h := ?_); clear F a; intro a F) | refine svK0 F (h := ?_) | ((refine sx_guardb F rfl (fun hg => ?_) (fun hg => ?_)) <;> (rw [hg] at F; (try (exact no hg)))) | (refine pvF (h := ?_); intro nb) | refine pvK (h := ?_) | refine pvK0 (h := ?_) | (refine pv_nil ?_; intro a w F M; (try (replace F := F.filt [0, 1, 2, 3, 4, 5, 6, 7, 14] rfl))) | ((fail_if_success (with_reducible first | refine isW ?_ | refine isP ?_ | refine isL ?_)); (first | with_reducible refine sx_region ?_ | ((with_reducible refine isK ?_); (first | refine svT F (h := ?_) | refine svF F (h := ?_) | ((refine svB F (fun hc => ?_) (fun hc => ?_)) <;> (try (exact no hc))))) | ((with_reducible refine isD ?_); fail) | with_reducible refine wp_scope_straight ?_ | with_reducible refine wp_label ?_ | go_step))))
      (all_goals ((first | refine svEnd F M ?_ | refine svRet F M ?_); exact ⟨_, _, rfl, ⟨by rw [← q2]; simp [tupOf], rfl⟩, M.perms permsA⟩))
  · obtain rfl : k = 20 := by omega
    (repeat' (first | (refine sx_nil ?_; (try (replace F := F.filt [0, 1, 2, 3, 4, 5, 6, 7, 14] rfl))) | (refine sv1 F M (h := ?_); clear F a; intro a F) | refine pv1 (h := ?_) | (refine sv3 F M (h := ?_); clear M; intro w M) | (refine sv2 F M (h := ?_); clear F M a; intro nb a w F M) | refine pv3 (h := ?_) | (refine pv2 (h := ?_); intro nb) | ((first | refine svC F M (h := ?_) | refine svC0 F M (h := ?_) | refine pvC (h := ?_) | refine pvC0 (h := ?_)); (fail); (first | refine ⟨rvsA, ?_⟩ | (clear F M a; intro a w F M) | (clear M; intro w M))) | (refine svK F (h := ?_); clear F a; intro a F) | refine svK0 F (h := ?_) | ((refine sx_guardb F rfl (fun hg => ?_) (fun hg => ?_)) <;> (rw [hg] at F; (try (exact no hg)))) | (refine pvF (h := ?_); intro nb) | refine pvK (h := ?_) | refine pvK0 (h := ?_) | (refine pv_nil ?_; intro a w F M; (try (replace F := F.filt [0, 1, 2, 3, 4, 5, 6, 7, 14] rfl))) | ((fail_if_success (with_reducible first | refine isW ?_ | refine isP ?_ | refine isL ?_)); (first | with_reducible refine sx_region ?_ | ((with_reducible refine isK ?_); (first | refine svT F (h := ?_) | refine svF F (h := ?_) | ((refine svB F (fun hc => ?_) (fun hc => ?_)) <;> (try (exact no hc))))) | ((with_reducible refine isD ?_); fail) | with_reducible refine wp_scope_straight ?_ | with_reducible refine wp_label ?_ | go_step))))
    (all_goals ((first | refine svEnd F M ?_ | refine svRet F M ?_); exact ⟨_, _, rfl, ⟨by rw [← q2]; rfl, rfl⟩, M.perms permsA⟩))
theorem valid_spec (R : List Asn) : Spec 52 [cfgV c] R fun u L' => u = .bool (decide (checkF c = 0)) ∧ L' = R := by
  (intro G w M; refine sx_enter (vs := ([cfgV c] : List Value)) Tryz.func52 (n := 6) rfl rfl rfl rfl ?_; intro a F; (try simp only [List.cons_append, List.nil_append] at M))
  (repeat' (first | (refine sx_nil ?_; (try (replace F := F.filt [0, 1, 2] rfl))) | (refine sv1 F M (h := ?_); clear F a; intro a F) | refine pv1 (h := ?_) | (refine sv3 F M (h := ?_); clear M; intro w M) | (refine sv2 F M (h := ?_); clear F M a; intro nb a w F M) | refine pv3 (h := ?_) | (refine pv2 (h := ?_); intro nb) | ((first | refine svC F M (h := ?_) | refine svC0 F M (h := ?_) | refine pvC (h := ?_) | refine pvC0 (h := ?_)); (((refine acW (k := 136) (check_spec c _) ?_); rintro u L' ⟨rfl, rfl⟩)); (first | refine ⟨rvsA, ?_⟩ | (clear F M a; intro a w F M) | (clear M; intro w M))) | (refine svK F (h := ?_); clear F a; intro a F) | refine svK0 F (h := ?_) | ((refine sx_guardb F rfl (fun hg => ?_) (fun hg => ?_)) <;> (rw [hg] at F; (try (exact no hg)))) | (refine pvF (h := ?_); intro nb) | refine pvK (h := ?_) | refine pvK0 (h := ?_) | (refine pv_nil ?_; intro a w F M; (try (replace F := F.filt [0, 1, 2] rfl))) | ((fail_if_success (with_reducible first | refine isW ?_ | refine isP ?_ | refine isL ?_)); (first | with_reducible refine sx_region ?_ | ((with_reducible refine isK ?_); (first | refine svT F (h := ?_) | refine svF F (h := ?_) | ((refine svB F (fun hc => ?_) (fun hc => ?_)) <;> (try (exact no hc))))) | ((with_reducible refine isD ?_); fail) | with_reducible refine wp_scope_straight ?_ | with_reducible refine wp_label ?_ | go_step))))
  (all_goals ((first | refine svEnd F M ?_ | refine svRet F M ?_); exact ⟨_, _, rfl, ⟨by simp [tupOf], rfl⟩, M.perms permsA⟩))
theorem default_spec (R : List Asn) : Spec 49 [] R fun u L' => u = cfgV Cfg.deflt ∧ L' = R := Spec.of_below (fun w => default_any w) ⟨rfl, rfl⟩
end Go.Proofs.YtopbohbkhljjgaaGreat
end
section
namespace Go.Proofs.YtopbohbkhljjgaaGreat
open Go.RowKit
set_option linter.unusedVariables false
set_option maxRecDepth 100000
set_option linter.unusedSimpArgs false
set_option maxHeartbeats 4000000
def pLeav (s : Int) : Bool := decide (3 ≤ s) && decide (s ≤ 6)
def pBond (v : Val) : Bool := decide (v.st = 4) || decide (v.st = 3) && decide (v.ex ≠ -1)
def pPend (v : Val) : Bool := decide (v.st = 1)
def pExit (v : Val) : Bool := decide (v.st = 3) && decide (v.ex = -1)
def pEpo (un : Int) (v : Val) : Bool := decide (v.ex = -1) || pLeav v.st && decide (v.rq < v.ex) && decide (un ≤ v.wd - v.ex)
def pEmp (v : Val) : Bool := decide (v.bal = 0) || !(decide (v.st = 6) || decide (v.st = 7))
def pSla (v : Val) : Bool := !v.sl || pLeav v.st && decide (v.dl = -1)
theorem leaving_spec (s : Int) (R : List Asn) : Spec 120 [.int .i64 s] R fun u L' => u = .bool (pLeav s) ∧ L' = R := by
  (intro G w M; refine sx_enter (vs := ([.int .i64 s] : List Value)) Tryz.func120 (n := 9) rfl rfl rfl rfl ?_; intro a F; (try simp only [List.cons_append, List.nil_append] at M))
  (repeat' (first | (refine sx_nil ?_; (try (replace F := F.filt [0, 2] rfl))) | (refine sv1 F M (h := ?_); clear F a; intro a F) | refine pv1 (h := ?_) | (refine sv3 F M (h := ?_); clear M; intro w M) | (refine sv2 F M (h := ?_); clear F M a; intro nb a w F M) | refine pv3 (h := ?_) | (refine pv2 (h := ?_); intro nb) | ((first | refine svC F M (h := ?_) | refine svC0 F M (h := ?_) | refine pvC (h := ?_) | refine pvC0 (h := ?_)); (fail); (first | refine ⟨rvsA, ?_⟩ | (clear F M a; intro a w F M) | (clear M; intro w M))) | (refine svK F (h := ?_); clear F a; intro a F) | refine svK0 F (h := ?_) | ((refine sx_guardb F rfl (fun hg => ?_) (fun hg => ?_)) <;> (rw [hg] at F; (try (exact no hg)))) | (refine pvF (h := ?_); intro nb) | refine pvK (h := ?_) | refine pvK0 (h := ?_) | (refine pv_nil ?_; intro a w F M; (try (replace F := F.filt [0, 2] rfl))) | ((fail_if_success (with_reducible first | refine isW ?_ | refine isP ?_ | refine isL ?_)); (first | with_reducible refine sx_region ?_ | ((with_reducible refine isK ?_); (first | refine svT F (h := ?_) | refine svF F (h := ?_) | ((refine svB F (fun hc => ?_) (fun hc => ?_)) <;> (try (exact no hc))))) | ((with_reducible refine isD ?_); fail) | with_reducible refine wp_scope_straight ?_ | with_reducible refine wp_label ?_ | go_step))))
  all_goals (first | refine svEnd F M ?_ | refine svRet F M ?_)
  all_goals exact ⟨_, _, rfl, ⟨by simp_all [tupOf, pLeav] <;> intros <;> omega, rfl⟩, M.perms permsA⟩
theorem bonded_spec (x : Val) (R : List Asn) : Spec 125 [valV x] R fun u L' => u = .bool (pBond x) ∧ L' = R := by
  (intro G w M; refine sx_enter (vs := ([valV x] : List Value)) Tryz.func125 (n := 16) rfl rfl rfl rfl ?_; intro a F; (try simp only [List.cons_append, List.nil_append] at M))
  (repeat' (first | (refine sx_nil ?_; (try (replace F := F.filt [0, 1, 2] rfl))) | (refine sv1 F M (h := ?_); clear F a; intro a F) | refine pv1 (h := ?_) | (refine sv3 F M (h := ?_); clear M; intro w M) | (refine sv2 F M (h := ?_); clear F M a; intro nb a w F M) | refine pv3 (h := ?_) | (refine pv2 (h := ?_); intro nb) | ((first | refine svC F M (h := ?_) | refine svC0 F M (h := ?_) | refine pvC (h := ?_) | refine pvC0 (h := ?_)); (fail); (first | refine ⟨rvsA, ?_⟩ | (clear F M a; intro a w F M) | (clear M; intro w M))) | (refine svK F (h := ?_); clear F a; intro a F) | refine svK0 F (h := ?_) | ((refine sx_guardb F rfl (fun hg => ?_) (fun hg => ?_)) <;> (rw [hg] at F; (try (exact no hg)))) | (refine pvF (h := ?_); intro nb) | refine pvK (h := ?_) | refine pvK0 (h := ?_) | (refine pv_nil ?_; intro a w F M; (try (replace F := F.filt [0, 1, 2] rfl))) | ((fail_if_success (with_reducible first | refine isW ?_ | refine isP ?_ | refine isL ?_)); (first | with_reducible refine sx_region ?_ | ((with_reducible refine isK ?_); (first | refine svT F (h := ?_) | refine svF F (h := ?_) | ((refine svB F (fun hc => ?_) (fun hc => ?_)) <;> (try (exact no hc))))) | ((with_reducible refine isD ?_); fail) | with_reducible refine wp_scope_straight ?_ | with_reducible refine wp_label ?_ | go_step))))
  all_goals (first | refine svEnd F M ?_ | refine svRet F M ?_)
  all_goals exact ⟨_, _, rfl, ⟨by simp_all [tupOf, pBond], rfl⟩, M.perms permsA⟩
theorem each_spec (x : Val) (R : List Asn) : Spec 107 [valV x] R fun u L' => u = .bool true ∧ L' = R := by
  (intro G w M; refine sx_enter (vs := ([valV x] : List Value)) Tryz.func107 (n := 3) rfl rfl rfl rfl ?_; intro a F; (try simp only [List.cons_append, List.nil_append] at M))
  (repeat' (first | (refine sx_nil ?_; (try (replace F := F.filt [0, 2] rfl))) | (refine sv1 F M (h := ?_); clear F a; intro a F) | refine pv1 (h := ?_) | (refine sv3 F M (h := ?_); clear M; intro w M) | (refine sv2 F M (h := ?_); clear F M a; intro nb a w F M) | refine pv3 (h := ?_) | (refine pv2 (h := ?_); intro nb) | ((first | refine svC F M (h := ?_) | refine svC0 F M (h := ?_) | refine pvC (h := ?_) | refine pvC0 (h := ?_)); (fail); (first | refine ⟨rvsA, ?_⟩ | (clear F M a; intro a w F M) | (clear M; intro w M))) | (refine svK F (h := ?_); clear F a; intro a F) | refine svK0 F (h := ?_) | ((refine sx_guardb F rfl (fun hg => ?_) (fun hg => ?_)) <;> (rw [hg] at F; (try (exact no hg)))) | (refine pvF (h := ?_); intro nb) | refine pvK (h := ?_) | refine pvK0 (h := ?_) | (refine pv_nil ?_; intro a w F M; (try (replace F := F.filt [0, 2] rfl))) | ((fail_if_success (with_reducible first | refine isW ?_ | refine isP ?_ | refine isL ?_)); (first | with_reducible refine sx_region ?_ | ((with_reducible refine isK ?_); (first | refine svT F (h := ?_) | refine svF F (h := ?_) | ((refine svB F (fun hc => ?_) (fun hc => ?_)) <;> (try (exact no hc))))) | ((with_reducible refine isD ?_); fail) | with_reducible refine wp_scope_straight ?_ | with_reducible refine wp_label ?_ | go_step))))
  (all_goals ((first | refine svEnd F M ?_ | refine svRet F M ?_); exact ⟨_, _, rfl, ⟨rfl, rfl⟩, M.perms permsA⟩))
theorem cLive_spec (x : Val) (R : List Asn) : Spec 110 [valV x] R fun u L' => u = .bool x.live ∧ L' = R := by
  (intro G w M; refine sx_enter (vs := ([valV x] : List Value)) Tryz.func110 (n := 6) rfl rfl rfl rfl ?_; intro a F; (try simp only [List.cons_append, List.nil_append] at M))
  (repeat' (first | (refine sx_nil ?_; (try (replace F := F.filt [0, 1, 2] rfl))) | (refine sv1 F M (h := ?_); clear F a; intro a F) | refine pv1 (h := ?_) | (refine sv3 F M (h := ?_); clear M; intro w M) | (refine sv2 F M (h := ?_); clear F M a; intro nb a w F M) | refine pv3 (h := ?_) | (refine pv2 (h := ?_); intro nb) | ((first | refine svC F M (h := ?_) | refine svC0 F M (h := ?_) | refine pvC (h := ?_) | refine pvC0 (h := ?_)); (((refine acW (k := 111) (live_spec _ _) ?_); rintro u L' ⟨rfl, rfl⟩)); (first | refine ⟨rvsA, ?_⟩ | (clear F M a; intro a w F M) | (clear M; intro w M))) | (refine svK F (h := ?_); clear F a; intro a F) | refine svK0 F (h := ?_) | ((refine sx_guardb F rfl (fun hg => ?_) (fun hg => ?_)) <;> (rw [hg] at F; (try (exact no hg)))) | (refine pvF (h := ?_); intro nb) | refine pvK (h := ?_) | refine pvK0 (h := ?_) | (refine pv_nil ?_; intro a w F M; (try (replace F := F.filt [0, 1, 2] rfl))) | ((fail_if_success (with_reducible first | refine isW ?_ | refine isP ?_ | refine isL ?_)); (first | with_reducible refine sx_region ?_ | ((with_reducible refine isK ?_); (first | refine svT F (h := ?_) | refine svF F (h := ?_) | ((refine svB F (fun hc => ?_) (fun hc => ?_)) <;> (try (exact no hc))))) | ((with_reducible refine isD ?_); fail) | with_reducible refine wp_scope_straight ?_ | with_reducible refine wp_label ?_ | go_step))))
  (all_goals ((first | refine svEnd F M ?_ | refine svRet F M ?_); exact ⟨_, _, rfl, ⟨rfl, rfl⟩, M.perms permsA⟩))
theorem cPend_spec (x : Val) (R : List Asn) : Spec 114 [valV x] R fun u L' => u = .bool (pPend x) ∧ L' = R := by
  (intro G w M; refine sx_enter (vs := ([valV x] : List Value)) Tryz.func114 (n := 6) rfl rfl rfl rfl ?_; intro a F; (try simp only [List.cons_append, List.nil_append] at M))
  (repeat' (first | (refine sx_nil ?_; (try (replace F := F.filt [0, 1, 2] rfl))) | (refine sv1 F M (h := ?_); clear F a; intro a F) | refine pv1 (h := ?_) | (refine sv3 F M (h := ?_); clear M; intro w M) | (refine sv2 F M (h := ?_); clear F M a; intro nb a w F M) | refine pv3 (h := ?_) | (refine pv2 (h := ?_); intro nb) | ((first | refine svC F M (h := ?_) | refine svC0 F M (h := ?_) | refine pvC (h := ?_) | refine pvC0 (h := ?_)); (fail); (first | refine ⟨rvsA, ?_⟩ | (clear F M a; intro a w F M) | (clear M; intro w M))) | (refine svK F (h := ?_); clear F a; intro a F) | refine svK0 F (h := ?_) | ((refine sx_guardb F rfl (fun hg => ?_) (fun hg => ?_)) <;> (rw [hg] at F; (try (exact no hg)))) | (refine pvF (h := ?_); intro nb) | refine pvK (h := ?_) | refine pvK0 (h := ?_) | (refine pv_nil ?_; intro a w F M; (try (replace F := F.filt [0, 1, 2] rfl))) | ((fail_if_success (with_reducible first | refine isW ?_ | refine isP ?_ | refine isL ?_)); (first | with_reducible refine sx_region ?_ | ((with_reducible refine isK ?_); (first | refine svT F (h := ?_) | refine svF F (h := ?_) | ((refine svB F (fun hc => ?_) (fun hc => ?_)) <;> (try (exact no hc))))) | ((with_reducible refine isD ?_); fail) | with_reducible refine wp_scope_straight ?_ | with_reducible refine wp_label ?_ | go_step))))
  (all_goals ((first | refine svEnd F M ?_ | refine svRet F M ?_); exact ⟨_, _, rfl, ⟨rfl, rfl⟩, M.perms permsA⟩))
theorem cExit_spec (x : Val) (R : List Asn) : Spec 116 [valV x] R fun u L' => u = .bool (pExit x) ∧ L' = R := by
  (intro G w M; refine sx_enter (vs := ([valV x] : List Value)) Tryz.func116 (n := 11) rfl rfl rfl rfl ?_; intro a F; (try simp only [List.cons_append, List.nil_append] at M))
  (repeat' (first | (refine sx_nil ?_; (try (replace F := F.filt [0, 1, 2] rfl))) | (refine sv1 F M (h := ?_); clear F a; intro a F) | refine pv1 (h := ?_) | (refine sv3 F M (h := ?_); clear M; intro w M) | (refine sv2 F M (h := ?_); clear F M a; intro nb a w F M) | refine pv3 (h := ?_) | (refine pv2 (h := ?_); intro nb) | ((first | refine svC F M (h := ?_) | refine svC0 F M (h := ?_) | refine pvC (h := ?_) | refine pvC0 (h := ?_)); (fail); (first | refine ⟨rvsA, ?_⟩ | (clear F M a; intro a w F M) | (clear M; intro w M))) | (refine svK F (h := ?_); clear F a; intro a F) | refine svK0 F (h := ?_) | ((refine sx_guardb F rfl (fun hg => ?_) (fun hg => ?_)) <;> (rw [hg] at F; (try (exact no hg)))) | (refine pvF (h := ?_); intro nb) | refine pvK (h := ?_) | refine pvK0 (h := ?_) | (refine pv_nil ?_; intro a w F M; (try (replace F := F.filt [0, 1, 2] rfl))) | ((fail_if_success (with_reducible first | refine isW ?_ | refine isP ?_ | refine isL ?_)); (first | with_reducible refine sx_region ?_ | ((with_reducible refine isK ?_); (first | refine svT F (h := ?_) | refine svF F (h := ?_) | ((refine svB F (fun hc => ?_) (fun hc => ?_)) <;> (try (exact no hc))))) | ((with_reducible refine isD ?_); fail) | with_reducible refine wp_scope_straight ?_ | with_reducible refine wp_label ?_ | go_step))))
  all_goals (first | refine svEnd F M ?_ | refine svRet F M ?_)
  all_goals exact ⟨_, _, rfl, ⟨by simp_all [tupOf, pExit], rfl⟩, M.perms permsA⟩
theorem cEmp_spec (x : Val) (R : List Asn) : Spec 122 [valV x] R fun u L' => u = .bool (pEmp x) ∧ L' = R := by
  (intro G w M; refine sx_enter (vs := ([valV x] : List Value)) Tryz.func122 (n := 12) rfl rfl rfl rfl ?_; intro a F; (try simp only [List.cons_append, List.nil_append] at M))
  (repeat' (first | (refine sx_nil ?_; (try (replace F := F.filt [0, 1, 2] rfl))) | (refine sv1 F M (h := ?_); clear F a; intro a F) | refine pv1 (h := ?_) | (refine sv3 F M (h := ?_); clear M; intro w M) | (refine sv2 F M (h := ?_); clear F M a; intro nb a w F M) | refine pv3 (h := ?_) | (refine pv2 (h := ?_); intro nb) | ((first | refine svC F M (h := ?_) | refine svC0 F M (h := ?_) | refine pvC (h := ?_) | refine pvC0 (h := ?_)); (((refine acW (k := 123) (final_spec _ _) ?_); rintro u L' ⟨rfl, rfl⟩)); (first | refine ⟨rvsA, ?_⟩ | (clear F M a; intro a w F M) | (clear M; intro w M))) | (refine svK F (h := ?_); clear F a; intro a F) | refine svK0 F (h := ?_) | ((refine sx_guardb F rfl (fun hg => ?_) (fun hg => ?_)) <;> (rw [hg] at F; (try (exact no hg)))) | (refine pvF (h := ?_); intro nb) | refine pvK (h := ?_) | refine pvK0 (h := ?_) | (refine pv_nil ?_; intro a w F M; (try (replace F := F.filt [0, 1, 2] rfl))) | ((fail_if_success (with_reducible first | refine isW ?_ | refine isP ?_ | refine isL ?_)); (first | with_reducible refine sx_region ?_ | ((with_reducible refine isK ?_); (first | refine svT F (h := ?_) | refine svF F (h := ?_) | ((refine svB F (fun hc => ?_) (fun hc => ?_)) <;> (try (exact no hc))))) | ((with_reducible refine isD ?_); fail) | with_reducible refine wp_scope_straight ?_ | with_reducible refine wp_label ?_ | go_step))))
  all_goals (first | refine svEnd F M ?_ | refine svRet F M ?_)
  all_goals exact ⟨_, _, rfl, ⟨by simp_all [tupOf, pEmp], rfl⟩, M.perms permsA⟩
theorem cSla_spec (x : Val) (R : List Asn) : Spec 129 [valV x] R fun u L' => u = .bool (pSla x) ∧ L' = R := by
  (intro G w M; refine sx_enter (vs := ([valV x] : List Value)) Tryz.func129 (n := 16) rfl rfl rfl rfl ?_; intro a F; (try simp only [List.cons_append, List.nil_append] at M))
  (repeat' (first | (refine sx_nil ?_; (try (replace F := F.filt [0, 1, 2] rfl))) | (refine sv1 F M (h := ?_); clear F a; intro a F) | refine pv1 (h := ?_) | (refine sv3 F M (h := ?_); clear M; intro w M) | (refine sv2 F M (h := ?_); clear F M a; intro nb a w F M) | refine pv3 (h := ?_) | (refine pv2 (h := ?_); intro nb) | ((first | refine svC F M (h := ?_) | refine svC0 F M (h := ?_) | refine pvC (h := ?_) | refine pvC0 (h := ?_)); (((refine acW (k := 120) (leaving_spec _ _) ?_); rintro u L' ⟨rfl, rfl⟩)); (first | refine ⟨rvsA, ?_⟩ | (clear F M a; intro a w F M) | (clear M; intro w M))) | (refine svK F (h := ?_); clear F a; intro a F) | refine svK0 F (h := ?_) | ((refine sx_guardb F rfl (fun hg => ?_) (fun hg => ?_)) <;> (rw [hg] at F; (try (exact no hg)))) | (refine pvF (h := ?_); intro nb) | refine pvK (h := ?_) | refine pvK0 (h := ?_) | (refine pv_nil ?_; intro a w F M; (try (replace F := F.filt [0, 1, 2] rfl))) | ((fail_if_success (with_reducible first | refine isW ?_ | refine isP ?_ | refine isL ?_)); (first | with_reducible refine sx_region ?_ | ((with_reducible refine isK ?_); (first | refine svT F (h := ?_) | refine svF F (h := ?_) | ((refine svB F (fun hc => ?_) (fun hc => ?_)) <;> (try (exact no hc))))) | ((with_reducible refine isD ?_); fail) | with_reducible refine wp_scope_straight ?_ | with_reducible refine wp_label ?_ | go_step))))
  all_goals (first | refine svEnd F M ?_ | refine svRet F M ?_)
  all_goals exact ⟨_, _, rfl, ⟨by simp_all [tupOf, pSla], rfl⟩, M.perms permsA⟩
/-- The epochs lie in the range of rule 7. -/
def epR (x : Val) : Prop := (-1152921504606846976 ≤ x.ex ∧ x.ex ≤ 1152921504606846976) ∧ (-1152921504606846976 ≤ x.wd ∧ x.wd ≤ 1152921504606846976)
theorem cEpo_spec (x : Val) (c : Cfg) (b : Nat) (hx : epR x) (R : List Asn) : Spec 119 [valV x, ptr b] (pt b (cfgL c) 30 :: R) fun u L' => u = .bool (pEpo c.unbonding x) ∧ L' = pt b (cfgL c) 30 :: R := by
  obtain ⟨⟨h1, h2⟩, h3, h4⟩ := hx
  (intro G w M; refine sx_enter (vs := ([valV x, ptr b] : List Value)) Tryz.func119 (n := 29) rfl rfl rfl rfl ?_; intro a F; (try simp only [List.cons_append, List.nil_append] at M))
  (repeat' (first | (refine sx_nil ?_; (try (replace F := F.filt [0, 1, 2, 3] rfl))) | (refine sv1 F M (h := ?_); clear F a; intro a F) | refine pv1 (h := ?_) | (refine sv3 F M (h := ?_); clear M; intro w M) | (refine sv2 F M (h := ?_); clear F M a; intro nb a w F M) | refine pv3 (h := ?_) | (refine pv2 (h := ?_); intro nb) | ((first | refine svC F M (h := ?_) | refine svC0 F M (h := ?_) | refine pvC (h := ?_) | refine pvC0 (h := ?_)); (((refine acW (k := 120) (leaving_spec _ _) ?_); rintro u L' ⟨rfl, rfl⟩)); (first | refine ⟨rvsA, ?_⟩ | (clear F M a; intro a w F M) | (clear M; intro w M))) | (refine svK F (h := ?_); clear F a; intro a F) | refine svK0 F (h := ?_) | ((refine sx_guardb F rfl (fun hg => ?_) (fun hg => ?_)) <;> (rw [hg] at F; (try (exact no hg)))) | (refine pvF (h := ?_); intro nb) | refine pvK (h := ?_) | refine pvK0 (h := ?_) | (refine pv_nil ?_; intro a w F M; (try (replace F := F.filt [0, 1, 2, 3] rfl))) | ((fail_if_success (with_reducible first | refine isW ?_ | refine isP ?_ | refine isL ?_)); (first | with_reducible refine sx_region ?_ | ((with_reducible refine isK ?_); (first | refine svT F (h := ?_) | refine svF F (h := ?_) | ((refine svB F (fun hc => ?_) (fun hc => ?_)) <;> (try (exact no hc))))) | ((with_reducible refine isD ?_); fail) | with_reducible refine wp_scope_straight ?_ | with_reducible refine wp_label ?_ | go_step))))
  all_goals (first | refine svEnd F M ?_ | refine svRet F M ?_)
  all_goals exact ⟨_, _, rfl, ⟨by simp_all [tupOf, pEpo] <;> intros <;> omega, rfl⟩, M.perms permsA⟩
end Go.Proofs.YtopbohbkhljjgaaGreat
end
section
namespace Go.Proofs.YtopbohbkhljjgaaGreat
open Go.RowKit
set_option linter.unusedVariables false
set_option maxRecDepth 100000
set_option linter.unusedSimpArgs false
set_option maxHeartbeats 4000000
/-- all's condition, and what it captures. -/
def allA (c : FuncId) (b : Nat) (caps : Array Value) (A : Asn) : Asn := exA fun _ : Unit => [pt b [.func (.func c) #[] caps] 170, A]
theorem allA_open (c : FuncId) {w : World} {L : List Asn} {b : Nat} {caps : Array Value} {A : Asn} (M : Mem w (allA c b caps A :: L)) : Mem w (pt b [.func (.func c) #[] caps] 170 :: A :: L) := by
  obtain ⟨_, M⟩ := M.exo
  exact M
theorem allA_close (c : FuncId) {w : World} {L : List Asn} {b : Nat} {caps : Array Value} {A : Asn} (M : Mem w (pt b [.func (.func c) #[] caps] 170 :: A :: L)) : Mem w (allA c b caps A :: L) := Mem.exc (f := fun _ : Unit => [pt b [.func (.func c) #[] caps] 170, A]) () M
section
variable (c : FuncId) [hfk : FK c] (p : Val → Bool) (V : List Val) (v : Value) (R : List Asn) (hg : GS R 7 v V.length (V.flatMap valL)) (hlen : V.length ≤ 1000000)
include hg hlen hfk in
theorem sum_spec (hcl : ∀ x ∈ V, ∀ R, Spec c [valV x] R fun u L' => u = .bool (p x) ∧ L' = R) (hb : ∀ x ∈ V, U64 x.bal) (h : SlH) (xs : List Int) (hxs : ∀ z ∈ xs, U64 z) (hxl : xs.length ≤ 10) :
    Spec 106 [v, .func (.func c) #[] #[], sl h] (ownT 23 u64L 1 (sl h) xs :: R) fun u L' => u = .tuple [.int .u64 (addR (xs ++ ((V.filter p).map (·.bal)))).1, .bool (addR (xs ++ ((V.filter p).map (·.bal)))).2].toArray ∧ L' = R := by
  have ha : ∀ {L : List Asn} {v : Value} {zs : List Int}, (∀ z ∈ zs, U64 z) → GS L 1 v zs.length (zs.flatMap u64L) → Reads 39 [v] (.tuple [.int .u64 (addR zs).1, .bool (addR zs).2].toArray) L := fun hz hg => gadd_reads _ _ hz hg
  (intro G w M; refine sx_enter (vs := ([v, .func (.func c) #[] #[], sl h] : List Value)) Tryz.func106 (n := 29) rfl rfl rfl rfl ?_; intro a F; (try simp only [List.cons_append, List.nil_append] at M))
  have hG : GS (R ++ G) 7 v V.length (V.flatMap valL) := Gives.app hg
  (repeat' (first | (refine sx_nil ?_; (try (replace F := F.filt [0, 1, 2, 6, 7, 9, 10, 11, 12, 13, 18] rfl))) | (refine sv1 F M (h := ?_); clear F a; intro a F) | refine pv1 (h := ?_) | (refine sv3 F M (h := ?_); clear M; intro w M) | (refine sv2 F M (h := ?_); clear F M a; intro nb a w F M) | refine pv3 (h := ?_) | (refine pv2 (h := ?_); intro nb) | ((first | refine svC F M (h := ?_) | refine svC0 F M (h := ?_) | refine pvC (h := ?_) | refine pvC0 (h := ?_)); (fail); (first | refine ⟨rvsA, ?_⟩ | (clear F M a; intro a w F M) | (clear M; intro w M))) | (refine svK F (h := ?_); clear F a; intro a F) | refine svK0 F (h := ?_) | ((refine sx_guardb F rfl (fun hg => ?_) (fun hg => ?_)) <;> (rw [hg] at F; (try (exact no hg)))) | (refine pvF (h := ?_); intro nb) | refine pvK (h := ?_) | refine pvK0 (h := ?_) | (refine pv_nil ?_; intro a w F M; (try (replace F := F.filt [0, 1, 2, 6, 7, 9, 10, 11, 12, 13, 18] rfl))) | ((fail_if_success (with_reducible first | refine isW ?_ | refine isP ?_ | refine isL ?_)); (first | with_reducible refine sx_region ?_ | ((with_reducible refine isK ?_); (first | refine svT F (h := ?_) | refine svF F (h := ?_) | ((refine svB F (fun hc => ?_) (fun hc => ?_)) <;> (try (exact no hc))))) | ((with_reducible refine isD ?_); fail) | with_reducible refine wp_scope_straight ?_ | with_reducible refine wp_label ?_ | go_step))))
  refine svLoop F M ((0, h) : Nat × SlH) (fun s => [(12, .int .i64 s.1), (2, sl s.2)]) (fun s => [ownT 23 u64L 1 (sl s.2) (xs ++ ((V.take s.1).filter p).map (·.bal))]) (fun s => s.1 ≤ V.length) (fun s => V.length - s.1) [9] (Nat.zero_le _) ?_ (hR := by simp only [List.take_zero, List.filter_nil, List.map_nil, List.append_nil]; exact .cons .here .nil)
  (rintro ⟨k, h⟩ q1 a w F M; (try simp only [List.cons_append, List.nil_append] at F M q1 ⊢))
  have hfl : ((V.take k).filter p).length ≤ V.length := Nat.le_trans (List.length_filter_le _ _) (by rw [List.length_take]; omega)
  by_cases hlt : k < V.length
  · obtain ⟨x, hx⟩ : ∃ x, V[k]? = some x := ⟨V[k], by simp [hlt]⟩
    have hs := hcl x (List.mem_of_getElem? hx)
    have ht : ((V.take (k + 1)).filter p).map (·.bal) = ((V.take k).filter p).map (·.bal) ++ (if p x = true then [x.bal] else []) := by
      rw [List.take_add_one, hx, List.filter_append, List.map_append]; cases hp : p x <;> simp [hp]
    cases hp : p x
    all_goals rw [hp] at hs ht
    · (repeat' (first | (refine sx_nil ?_; (try (replace F := F.filt [0, 1, 2, 6, 7, 9, 10, 11, 12, 13, 18] rfl))) | (refine sv1 F M (h := ?_); clear F a; intro a F) | refine pv1 (h := ?_) | (refine sv3 F M (h := ?_); clear M; intro w M) | (refine sv2 F M (h := ?_); clear F M a; intro nb a w F M) | refine pv3 (h := ?_) | (refine pv2 (h := ?_); intro nb) | ((first | refine svC F M (h := ?_) | refine svC0 F M (h := ?_) | refine pvC (h := ?_) | refine pvC0 (h := ?_)); ((first | ((refine acW (k := c) (hs _) ?_); rintro u L' ⟨rfl, rfl⟩) | (refine ac_appendH rfl rfl inferInstance rfl rfl pullA inferInstance (ys := [x.bal]) gsA rfl rfl (by simp; omega) ?_; intro nv))); (first | refine ⟨rvsA, ?_⟩ | (clear F M a; intro a w F M) | (clear M; intro w M))) | (refine svK F (h := ?_); clear F a; intro a F) | refine svK0 F (h := ?_) | ((refine sx_guardb F rfl (fun hg => ?_) (fun hg => ?_)) <;> (rw [hg] at F; (try (exact no hg)))) | (refine pvF (h := ?_); intro nb) | refine pvK (h := ?_) | refine pvK0 (h := ?_) | (refine pv_nil ?_; intro a w F M; (try (replace F := F.filt [0, 1, 2, 6, 7, 9, 10, 11, 12, 13, 18] rfl))) | ((fail_if_success (with_reducible first | refine isW ?_ | refine isP ?_ | refine isL ?_)); (first | with_reducible refine sx_region ?_ | ((with_reducible refine isK ?_); (first | refine svT F (h := ?_) | refine svF F (h := ?_) | ((refine svB F (fun hc => ?_) (fun hc => ?_)) <;> (try (exact no hc))))) | ((with_reducible refine isD ?_); fail) | with_reducible refine wp_scope_straight ?_ | with_reducible refine wp_label ?_ | go_step))))
      rw [if_neg (by decide), List.append_nil] at ht
      rw [← ht] at M
      refine sv_again F M (k + 1, h) kpA permsA (by simp only; omega) (by simp only; omega)
    · (repeat' (first | (refine sx_nil ?_; (try (replace F := F.filt [0, 1, 2, 6, 7, 9, 10, 11, 12, 13, 18] rfl))) | (refine sv1 F M (h := ?_); clear F a; intro a F) | refine pv1 (h := ?_) | (refine sv3 F M (h := ?_); clear M; intro w M) | (refine sv2 F M (h := ?_); clear F M a; intro nb a w F M) | refine pv3 (h := ?_) | (refine pv2 (h := ?_); intro nb) | ((first | refine svC F M (h := ?_) | refine svC0 F M (h := ?_) | refine pvC (h := ?_) | refine pvC0 (h := ?_)); ((first | ((refine acW (k := c) (hs _) ?_); rintro u L' ⟨rfl, rfl⟩) | (refine ac_appendH rfl rfl inferInstance rfl rfl pullA inferInstance (ys := [x.bal]) gsA rfl rfl (by simp; omega) ?_; intro nv))); (first | refine ⟨rvsA, ?_⟩ | (clear F M a; intro a w F M) | (clear M; intro w M))) | (refine svK F (h := ?_); clear F a; intro a F) | refine svK0 F (h := ?_) | ((refine sx_guardb F rfl (fun hg => ?_) (fun hg => ?_)) <;> (rw [hg] at F; (try (exact no hg)))) | (refine pvF (h := ?_); intro nb) | refine pvK (h := ?_) | refine pvK0 (h := ?_) | (refine pv_nil ?_; intro a w F M; (try (replace F := F.filt [0, 1, 2, 6, 7, 9, 10, 11, 12, 13, 18] rfl))) | ((fail_if_success (with_reducible first | refine isW ?_ | refine isP ?_ | refine isL ?_)); (first | with_reducible refine sx_region ?_ | ((with_reducible refine isK ?_); (first | refine svT F (h := ?_) | refine svF F (h := ?_) | ((refine svB F (fun hc => ?_) (fun hc => ?_)) <;> (try (exact no hc))))) | ((with_reducible refine isD ?_); fail) | with_reducible refine wp_scope_straight ?_ | with_reducible refine wp_label ?_ | go_step))))
      rw [if_pos rfl] at ht
      rw [List.append_assoc, ← ht] at M
      refine sv_again F M (k + 1, nv) kpA permsA (by simp only; omega) (by simp only; omega)
  · obtain rfl : k = V.length := by omega
    rw [List.take_length] at M
    have hall : ∀ z ∈ xs ++ (V.filter p).map (·.bal), U64 z := fun z hz => by
      rcases List.mem_append.1 hz with hz | hz
      · exact hxs z hz
      · obtain ⟨y, hy, rfl⟩ := List.mem_map.1 hz
        exact hb y (List.mem_filter.1 hy).1
    (repeat' (first | (refine sx_nil ?_; (try (replace F := F.filt [0, 1, 2, 6, 7, 9, 10, 11, 12, 13, 18] rfl))) | (refine sv1 F M (h := ?_); clear F a; intro a F) | refine pv1 (h := ?_) | (refine sv3 F M (h := ?_); clear M; intro w M) | (refine sv2 F M (h := ?_); clear F M a; intro nb a w F M) | refine pv3 (h := ?_) | (refine pv2 (h := ?_); intro nb) | ((first | refine svC F M (h := ?_) | refine svC0 F M (h := ?_) | refine pvC (h := ?_) | refine pvC0 (h := ?_)); (((refine acCall (k := 39) ?_); (refine Spec.of_reads (ha hall (gs_own pullA)) rfl ?_))); (first | refine ⟨rvsA, ?_⟩ | (clear F M a; intro a w F M) | (clear M; intro w M))) | (refine svK F (h := ?_); clear F a; intro a F) | refine svK0 F (h := ?_) | ((refine sx_guardb F rfl (fun hg => ?_) (fun hg => ?_)) <;> (rw [hg] at F; (try (exact no hg)))) | (refine pvF (h := ?_); intro nb) | refine pvK (h := ?_) | refine pvK0 (h := ?_) | (refine pv_nil ?_; intro a w F M; (try (replace F := F.filt [0, 1, 2, 6, 7, 9, 10, 11, 12, 13, 18] rfl))) | ((fail_if_success (with_reducible first | refine isW ?_ | refine isP ?_ | refine isL ?_)); (first | with_reducible refine sx_region ?_ | ((with_reducible refine isK ?_); (first | refine svT F (h := ?_) | refine svF F (h := ?_) | ((refine svB F (fun hc => ?_) (fun hc => ?_)) <;> (try (exact no hc))))) | ((with_reducible refine isD ?_); fail) | with_reducible refine wp_scope_straight ?_ | with_reducible refine wp_label ?_ | go_step))))
    (all_goals ((first | refine svEnd F M ?_ | refine svRet F M ?_); exact ⟨_, _, rfl, ⟨rfl, rfl⟩, M.perms permsA⟩))
include hg hlen hfk in
theorem idxV_spec (caps : Array Value) (A : Asn) (hcl : ∀ x ∈ V, ∀ R, Spec c (valV x :: caps.toList) (A :: R) fun u L' => u = .bool (p x) ∧ L' = A :: R) :
    Spec 247 [v, .func (.func c) #[] caps] (A :: R) fun u L' => u = .int .i64 (idxP p V 0) ∧ L' = A :: R := by
  generalize hX : idxP p V 0 = X
  (intro G w M; refine sx_enter (vs := ([v, .func (.func c) #[] caps] : List Value)) Tryz.func247 (n := 19) rfl rfl rfl rfl ?_; intro a F; (try simp only [List.cons_append, List.nil_append] at M))
  have hG : GS (R ++ G) 7 v V.length (V.flatMap valL) := Gives.app hg
  (repeat' (first | (refine sx_nil ?_; (try (replace F := F.filt [0, 1, 4, 5, 7, 8, 9, 16] rfl))) | (refine sv1 F M (h := ?_); clear F a; intro a F) | refine pv1 (h := ?_) | (refine sv3 F M (h := ?_); clear M; intro w M) | (refine sv2 F M (h := ?_); clear F M a; intro nb a w F M) | refine pv3 (h := ?_) | (refine pv2 (h := ?_); intro nb) | ((first | refine svC F M (h := ?_) | refine svC0 F M (h := ?_) | refine pvC (h := ?_) | refine pvC0 (h := ?_)); (fail); (first | refine ⟨rvsA, ?_⟩ | (clear F M a; intro a w F M) | (clear M; intro w M))) | (refine svK F (h := ?_); clear F a; intro a F) | refine svK0 F (h := ?_) | ((refine sx_guardb F rfl (fun hg => ?_) (fun hg => ?_)) <;> (rw [hg] at F; (try (exact no hg)))) | (refine pvF (h := ?_); intro nb) | refine pvK (h := ?_) | refine pvK0 (h := ?_) | (refine pv_nil ?_; intro a w F M; (try (replace F := F.filt [0, 1, 4, 5, 7, 8, 9, 16] rfl))) | ((fail_if_success (with_reducible first | refine isW ?_ | refine isP ?_ | refine isL ?_)); (first | with_reducible refine sx_region ?_ | ((with_reducible refine isK ?_); (first | refine svT F (h := ?_) | refine svF F (h := ?_) | ((refine svB F (fun hc => ?_) (fun hc => ?_)) <;> (try (exact no hc))))) | ((with_reducible refine isD ?_); fail) | with_reducible refine wp_scope_straight ?_ | with_reducible refine wp_label ?_ | go_step))))
  refine svLoop F M (0 : Nat) (fun k => [(8, .int .i64 k)]) (fun _ => []) (fun k => k ≤ V.length ∧ idxP p (V.drop k) k = X) (fun k => V.length - k) [5] ⟨by omega, by simpa using hX⟩ ?_
  (rintro k ⟨q1, q2⟩ a w F M; (try simp only [List.cons_append, List.nil_append] at F M q1 q2 ⊢))
  by_cases hlt : k < V.length
  · obtain ⟨x, hx⟩ : ∃ x, V[k]? = some x := ⟨V[k], by simp [hlt]⟩
    rw [drop_cons hx, idxP] at q2
    have hs := hcl x (List.mem_of_getElem? hx)
    cases hp : p x
    all_goals rw [hp] at hs q2
    · (repeat' (first | (refine sx_nil ?_; (try (replace F := F.filt [0, 1, 4, 5, 7, 8, 9, 16] rfl))) | (refine sv1 F M (h := ?_); clear F a; intro a F) | refine pv1 (h := ?_) | (refine sv3 F M (h := ?_); clear M; intro w M) | (refine sv2 F M (h := ?_); clear F M a; intro nb a w F M) | refine pv3 (h := ?_) | (refine pv2 (h := ?_); intro nb) | ((first | refine svC F M (h := ?_) | refine svC0 F M (h := ?_) | refine pvC (h := ?_) | refine pvC0 (h := ?_)); (((refine acK (k := c) (hs _) ?_); rintro u L' ⟨rfl, rfl⟩)); (first | refine ⟨rvsA, ?_⟩ | (clear F M a; intro a w F M) | (clear M; intro w M))) | (refine svK F (h := ?_); clear F a; intro a F) | refine svK0 F (h := ?_) | ((refine sx_guardb F rfl (fun hg => ?_) (fun hg => ?_)) <;> (rw [hg] at F; (try (exact no hg)))) | (refine pvF (h := ?_); intro nb) | refine pvK (h := ?_) | refine pvK0 (h := ?_) | (refine pv_nil ?_; intro a w F M; (try (replace F := F.filt [0, 1, 4, 5, 7, 8, 9, 16] rfl))) | ((fail_if_success (with_reducible first | refine isW ?_ | refine isP ?_ | refine isL ?_)); (first | with_reducible refine sx_region ?_ | ((with_reducible refine isK ?_); (first | refine svT F (h := ?_) | refine svF F (h := ?_) | ((refine svB F (fun hc => ?_) (fun hc => ?_)) <;> (try (exact no hc))))) | ((with_reducible refine isD ?_); fail) | with_reducible refine wp_scope_straight ?_ | with_reducible refine wp_label ?_ | go_step))))
      refine sv_again F M (k + 1) kpA permsA ⟨by omega, by simpa using q2⟩ (by omega)
    · simp only [if_true] at q2
      (repeat' (first | (refine sx_nil ?_; (try (replace F := F.filt [0, 1, 4, 5, 7, 8, 9, 16] rfl))) | (refine sv1 F M (h := ?_); clear F a; intro a F) | refine pv1 (h := ?_) | (refine sv3 F M (h := ?_); clear M; intro w M) | (refine sv2 F M (h := ?_); clear F M a; intro nb a w F M) | refine pv3 (h := ?_) | (refine pv2 (h := ?_); intro nb) | ((first | refine svC F M (h := ?_) | refine svC0 F M (h := ?_) | refine pvC (h := ?_) | refine pvC0 (h := ?_)); (((refine acK (k := c) (hs _) ?_); rintro u L' ⟨rfl, rfl⟩)); (first | refine ⟨rvsA, ?_⟩ | (clear F M a; intro a w F M) | (clear M; intro w M))) | (refine svK F (h := ?_); clear F a; intro a F) | refine svK0 F (h := ?_) | ((refine sx_guardb F rfl (fun hg => ?_) (fun hg => ?_)) <;> (rw [hg] at F; (try (exact no hg)))) | (refine pvF (h := ?_); intro nb) | refine pvK (h := ?_) | refine pvK0 (h := ?_) | (refine pv_nil ?_; intro a w F M; (try (replace F := F.filt [0, 1, 4, 5, 7, 8, 9, 16] rfl))) | ((fail_if_success (with_reducible first | refine isW ?_ | refine isP ?_ | refine isL ?_)); (first | with_reducible refine sx_region ?_ | ((with_reducible refine isK ?_); (first | refine svT F (h := ?_) | refine svF F (h := ?_) | ((refine svB F (fun hc => ?_) (fun hc => ?_)) <;> (try (exact no hc))))) | ((with_reducible refine isD ?_); fail) | with_reducible refine wp_scope_straight ?_ | with_reducible refine wp_label ?_ | go_step))))
      (all_goals ((first | refine svEnd F M ?_ | refine svRet F M ?_); exact ⟨_, _, rfl, ⟨by rw [← q2]; rfl, rfl⟩, M.perms permsA⟩))
  · rw [List.drop_of_length_le (by omega)] at q2
    simp only [idxP] at q2
    (repeat' (first | (refine sx_nil ?_; (try (replace F := F.filt [0, 1, 4, 5, 7, 8, 9, 16] rfl))) | (refine sv1 F M (h := ?_); clear F a; intro a F) | refine pv1 (h := ?_) | (refine sv3 F M (h := ?_); clear M; intro w M) | (refine sv2 F M (h := ?_); clear F M a; intro nb a w F M) | refine pv3 (h := ?_) | (refine pv2 (h := ?_); intro nb) | ((first | refine svC F M (h := ?_) | refine svC0 F M (h := ?_) | refine pvC (h := ?_) | refine pvC0 (h := ?_)); (fail); (first | refine ⟨rvsA, ?_⟩ | (clear F M a; intro a w F M) | (clear M; intro w M))) | (refine svK F (h := ?_); clear F a; intro a F) | refine svK0 F (h := ?_) | ((refine sx_guardb F rfl (fun hg => ?_) (fun hg => ?_)) <;> (rw [hg] at F; (try (exact no hg)))) | (refine pvF (h := ?_); intro nb) | refine pvK (h := ?_) | refine pvK0 (h := ?_) | (refine pv_nil ?_; intro a w F M; (try (replace F := F.filt [0, 1, 4, 5, 7, 8, 9, 16] rfl))) | ((fail_if_success (with_reducible first | refine isW ?_ | refine isP ?_ | refine isL ?_)); (first | with_reducible refine sx_region ?_ | ((with_reducible refine isK ?_); (first | refine svT F (h := ?_) | refine svF F (h := ?_) | ((refine svB F (fun hc => ?_) (fun hc => ?_)) <;> (try (exact no hc))))) | ((with_reducible refine isD ?_); fail) | with_reducible refine wp_scope_straight ?_ | with_reducible refine wp_label ?_ | go_step))))
    (all_goals ((first | refine svEnd F M ?_ | refine svRet F M ?_); exact ⟨_, _, rfl, ⟨by rw [← q2]; rfl, rfl⟩, M.perms permsA⟩))
theorem idxP_any (p : Val → Bool) (V : List Val) : decide (0 ≤ idxP p V 0) = V.any p := by
  rcases idxP_spec p V 0 with ⟨h1, h2⟩ | ⟨i, x, h1, h2, h3, h4⟩
  · rw [h1, List.any_eq_false.2 fun x hx => by rw [h2 x hx]; decide]; rfl
  · rw [h2, List.any_eq_true.2 ⟨x, List.mem_of_getElem? h1, h4⟩]; simp
include hg hlen hfk in
theorem conV_spec (caps : Array Value) (A : Asn) (hcl : ∀ x ∈ V, ∀ R, Spec c (valV x :: caps.toList) (A :: R) fun u L' => u = .bool (p x) ∧ L' = A :: R) :
    Spec 186 [v, .func (.func c) #[] caps] (A :: R) fun u L' => u = .bool (V.any p) ∧ L' = A :: R := by
  have hi := fun (R : List Asn) hg => idxV_spec c p V v R hg hlen caps A hcl
  (intro G w M; refine sx_enter (vs := ([v, .func (.func c) #[] caps] : List Value)) Tryz.func186 (n := 9) rfl rfl rfl rfl ?_; intro a F; (try simp only [List.cons_append, List.nil_append] at M))
  have hG : GS (R ++ G) 7 v V.length (V.flatMap valL) := Gives.app hg
  (repeat' (first | (refine sx_nil ?_; (try (replace F := F.filt [0, 1, 4] rfl))) | (refine sv1 F M (h := ?_); clear F a; intro a F) | refine pv1 (h := ?_) | (refine sv3 F M (h := ?_); clear M; intro w M) | (refine sv2 F M (h := ?_); clear F M a; intro nb a w F M) | refine pv3 (h := ?_) | (refine pv2 (h := ?_); intro nb) | ((first | refine svC F M (h := ?_) | refine svC0 F M (h := ?_) | refine pvC (h := ?_) | refine pvC0 (h := ?_)); (((refine acK (k := 247) (hi _ hG) ?_); rintro u L' ⟨rfl, rfl⟩)); (first | refine ⟨rvsA, ?_⟩ | (clear F M a; intro a w F M) | (clear M; intro w M))) | (refine svK F (h := ?_); clear F a; intro a F) | refine svK0 F (h := ?_) | ((refine sx_guardb F rfl (fun hg => ?_) (fun hg => ?_)) <;> (rw [hg] at F; (try (exact no hg)))) | (refine pvF (h := ?_); intro nb) | refine pvK (h := ?_) | refine pvK0 (h := ?_) | (refine pv_nil ?_; intro a w F M; (try (replace F := F.filt [0, 1, 4] rfl))) | ((fail_if_success (with_reducible first | refine isW ?_ | refine isP ?_ | refine isL ?_)); (first | with_reducible refine sx_region ?_ | ((with_reducible refine isK ?_); (first | refine svT F (h := ?_) | refine svF F (h := ?_) | ((refine svB F (fun hc => ?_) (fun hc => ?_)) <;> (try (exact no hc))))) | ((with_reducible refine isD ?_); fail) | with_reducible refine wp_scope_straight ?_ | with_reducible refine wp_label ?_ | go_step))))
  (all_goals ((first | refine svEnd F M ?_ | refine svRet F M ?_); exact ⟨_, _, rfl, ⟨by rw [← idxP_any]; rfl, rfl⟩, M.perms permsA⟩))
include hfk in
theorem allN_spec (b : Nat) (caps : Array Value) (A : Asn) (x : Val) (hcl : ∀ R, Spec c (valV x :: caps.toList) (A :: R) fun u L' => u = .bool (p x) ∧ L' = A :: R) (R : List Asn) :
    Spec 187 [valV x, ptr b] (allA c b caps A :: R) fun u L' => u = .bool (!p x) ∧ L' = allA c b caps A :: R := by
  intro G w M
  have M2 := allA_open c (L := R ++ G) M; clear M; have M := M2; clear M2
  (refine sx_enter (vs := ([valV x, ptr b] : List Value)) Tryz.func187 (n := 8) rfl rfl rfl rfl ?_; intro a F; (try simp only [List.cons_append, List.nil_append] at M))
  (repeat' (first | (refine sx_nil ?_; (try (replace F := F.filt [0, 1, 2, 3] rfl))) | (refine sv1 F M (h := ?_); clear F a; intro a F) | refine pv1 (h := ?_) | (refine sv3 F M (h := ?_); clear M; intro w M) | (refine sv2 F M (h := ?_); clear F M a; intro nb a w F M) | refine pv3 (h := ?_) | (refine pv2 (h := ?_); intro nb) | ((first | refine svC F M (h := ?_) | refine svC0 F M (h := ?_) | refine pvC (h := ?_) | refine pvC0 (h := ?_)); (((refine acK (k := c) (hcl _) ?_); rintro u L' ⟨rfl, rfl⟩)); (first | refine ⟨rvsA, ?_⟩ | (clear F M a; intro a w F M) | (clear M; intro w M))) | (refine svK F (h := ?_); clear F a; intro a F) | refine svK0 F (h := ?_) | ((refine sx_guardb F rfl (fun hg => ?_) (fun hg => ?_)) <;> (rw [hg] at F; (try (exact no hg)))) | (refine pvF (h := ?_); intro nb) | refine pvK (h := ?_) | refine pvK0 (h := ?_) | (refine pv_nil ?_; intro a w F M; (try (replace F := F.filt [0, 1, 2, 3] rfl))) | ((fail_if_success (with_reducible first | refine isW ?_ | refine isP ?_ | refine isL ?_)); (first | with_reducible refine sx_region ?_ | ((with_reducible refine isK ?_); (first | refine svT F (h := ?_) | refine svF F (h := ?_) | ((refine svB F (fun hc => ?_) (fun hc => ?_)) <;> (try (exact no hc))))) | ((with_reducible refine isD ?_); fail) | with_reducible refine wp_scope_straight ?_ | with_reducible refine wp_label ?_ | go_step))))
  all_goals (first | refine svEnd F M ?_ | refine svRet F M ?_)
  exact ⟨_, _, rfl, ⟨rfl, rfl⟩, allA_close c (M.perms permsA)⟩
include hg hlen hfk in
theorem all_spec (caps : Array Value) (A : Asn) (hcl : ∀ x ∈ V, ∀ R, Spec c (valV x :: caps.toList) (A :: R) fun u L' => u = .bool (p x) ∧ L' = A :: R) :
    Spec 118 [v, .func (.func c) #[] caps] (A :: R) fun u L' => u = .bool (V.all p) ∧ L' = A :: R := by
  (intro G w M; refine sx_enter (vs := ([v, .func (.func c) #[] caps] : List Value)) Tryz.func118 (n := 9) rfl rfl rfl rfl ?_; intro a F; (try simp only [List.cons_append, List.nil_append] at M))
  have hG : GS (R ++ G) 7 v V.length (V.flatMap valL) := Gives.app hg
  (repeat' (first | (refine sx_nil ?_; (try (replace F := F.filt [0, 1, 3, 4] rfl))) | (refine sv1 F M (h := ?_); clear F a; intro a F) | refine pv1 (h := ?_) | (refine sv3 F M (h := ?_); clear M; intro w M) | (refine sv2 F M (h := ?_); clear F M a; intro nb a w F M) | refine pv3 (h := ?_) | (refine pv2 (h := ?_); intro nb) | ((first | refine svC F M (h := ?_) | refine svC0 F M (h := ?_) | refine pvC (h := ?_) | refine pvC0 (h := ?_)); (fail); (first | refine ⟨rvsA, ?_⟩ | (clear F M a; intro a w F M) | (clear M; intro w M))) | (refine svK F (h := ?_); clear F a; intro a F) | refine svK0 F (h := ?_) | ((refine sx_guardb F rfl (fun hg => ?_) (fun hg => ?_)) <;> (rw [hg] at F; (try (exact no hg)))) | (refine pvF (h := ?_); intro nb) | refine pvK (h := ?_) | refine pvK0 (h := ?_) | (refine pv_nil ?_; intro a w F M; (try (replace F := F.filt [0, 1, 3, 4] rfl))) | ((fail_if_success (with_reducible first | refine isW ?_ | refine isP ?_ | refine isL ?_)); (first | with_reducible refine sx_region ?_ | ((with_reducible refine isK ?_); (first | refine svT F (h := ?_) | refine svF F (h := ?_) | ((refine svB F (fun hc => ?_) (fun hc => ?_)) <;> (try (exact no hc))))) | ((with_reducible refine isD ?_); fail) | with_reducible refine wp_scope_straight ?_ | with_reducible refine wp_label ?_ | go_step))))
  have M2 := allA_close c M; clear M; have M := M2; clear M2
  have hi := fun (R : List Asn) hg => conV_spec 187 (fun x => !p x) V v R hg hlen #[ptr nb] (allA c nb caps A) fun x hx R => allN_spec c p nb caps A x (hcl x hx) R
  (repeat' (first | (refine sx_nil ?_; (try (replace F := F.filt [0, 1, 3, 4] rfl))) | (refine sv1 F M (h := ?_); clear F a; intro a F) | refine pv1 (h := ?_) | (refine sv3 F M (h := ?_); clear M; intro w M) | (refine sv2 F M (h := ?_); clear F M a; intro nb a w F M) | refine pv3 (h := ?_) | (refine pv2 (h := ?_); intro nb) | ((first | refine svC F M (h := ?_) | refine svC0 F M (h := ?_) | refine pvC (h := ?_) | refine pvC0 (h := ?_)); (((refine acK (k := 186) (hi _ hG) ?_); rintro u L' ⟨rfl, rfl⟩)); (first | refine ⟨rvsA, ?_⟩ | (clear F M a; intro a w F M) | (clear M; intro w M))) | (refine svK F (h := ?_); clear F a; intro a F) | refine svK0 F (h := ?_) | ((refine sx_guardb F rfl (fun hg => ?_) (fun hg => ?_)) <;> (rw [hg] at F; (try (exact no hg)))) | (refine pvF (h := ?_); intro nb) | refine pvK (h := ?_) | refine pvK0 (h := ?_) | (refine pv_nil ?_; intro a w F M; (try (replace F := F.filt [0, 1, 3, 4] rfl))) | ((fail_if_success (with_reducible first | refine isW ?_ | refine isP ?_ | refine isL ?_)); (first | with_reducible refine sx_region ?_ | ((with_reducible refine isK ?_); (first | refine svT F (h := ?_) | refine svF F (h := ?_) | ((refine svB F (fun hc => ?_) (fun hc => ?_)) <;> (try (exact no hc))))) | ((with_reducible refine isD ?_); fail) | with_reducible refine wp_scope_straight ?_ | with_reducible refine wp_label ?_ | go_step))))
  all_goals (first | refine svEnd F M ?_ | refine svRet F M ?_)
  have M := allA_open c (M.perms (permsA : Perms _ (allA c nb caps A :: (R ++ G))))
  refine ⟨_, _, rfl, ⟨?_, rfl⟩, M.perms permsA⟩
  simp [tupOf, List.all_eq_not_any_not]
end
end Go.Proofs.YtopbohbkhljjgaaGreat
end
section
namespace Go.Proofs.YtopbohbkhljjgaaGreat
open Go.RowKit Go.Maps
set_option linter.unusedVariables false
set_option maxRecDepth 100000
set_option linter.unusedSimpArgs false
set_option maxHeartbeats 4000000
/-- The map holds the counts of a list. -/
def CntOf (P : List (Value × Value)) (xs : List Int) : Prop := (∀ p ∈ P, ∃ i, i ∈ xs ∧ p = (.int .i64 i, .int .i64 (xs.count i : Nat))) ∧ ∀ i ∈ xs, (Value.int .i64 i, Value.int .i64 (xs.count i : Nat)) ∈ P
theorem CntOf.nil : CntOf [] [] := ⟨by simp, by simp⟩
theorem CntOf.vals {P : List (Value × Value)} {xs : List Int} (h : CntOf P xs) : ∀ p ∈ P, ∃ v, p.2 = .int .i64 v := fun p hp => by
  obtain ⟨i, _, rfl⟩ := h.1 p hp
  exact ⟨_, rfl⟩
theorem CntOf.miss {P : List (Value × Value)} {xs : List Int} (h : CntOf P xs) {i : Int} (hi : i ∉ xs) : ∀ p ∈ P, p.1 ≠ .int .i64 i := fun p hp e => by
  obtain ⟨j, hj, rfl⟩ := h.1 p hp
  simp at e
  exact hi (e ▸ hj)
theorem CntOf.new {P : List (Value × Value)} {xs : List Int} (h : CntOf P xs) {i : Int} (hi : i ∉ xs) : CntOf ((.int .i64 i, .int .i64 1) :: P) (xs ++ [i]) := by
  have hc : xs.count i = 0 := List.count_eq_zero.2 hi
  refine ⟨fun p hp => ?_, fun j hj => ?_⟩
  · rcases List.mem_cons.1 hp with rfl | hp
    · exact ⟨i, by simp, by simp [List.count_append, hc]⟩
    · obtain ⟨j, hj, rfl⟩ := h.1 p hp
      have hne : ¬ i = j := fun e => hi (e ▸ hj)
      exact ⟨j, by simp [hj], by simp [List.count_append, List.count_cons, hne]⟩
  · rcases List.mem_append.1 hj with hj | hj
    · have hne : ¬ i = j := fun e => hi (e ▸ hj)
      refine List.mem_cons_of_mem _ ?_
      have := h.2 j hj
      simpa [List.count_append, List.count_cons, hne] using this
    · obtain rfl : j = i := by simpa using hj
      simp [List.count_append, hc]
theorem CntOf.upd {P : List (Value × Value)} {xs : List Int} (h : CntOf P xs) {i : Int} (hi : i ∈ xs) : CntOf (updP i (.int .i64 ((xs.count i : Nat) + 1 : Int)) P) (xs ++ [i]) := by
  refine ⟨fun p hp => ?_, fun j hj => ?_⟩
  · obtain ⟨q, hq, rfl⟩ := List.mem_map.1 hp
    obtain ⟨j, hj, rfl⟩ := h.1 q hq
    by_cases hji : j = i
    · subst hji
      rw [updF_hit]
      exact ⟨j, by simp, by simp [List.count_append]⟩
    · rw [updF_miss (by simp [hji])]
      exact ⟨j, by simp [hj], by simp [List.count_append, List.count_cons, Ne.symm hji]⟩
  · by_cases hji : j = i
    · subst hji
      refine List.mem_map.2 ⟨_, h.2 j hi, ?_⟩
      rw [updF_hit]
      simp [List.count_append]
    · have hj' : j ∈ xs := by
        rcases List.mem_append.1 hj with h | h
        · exact h
        · exact absurd (by simpa using h) hji
      refine List.mem_map.2 ⟨_, h.2 j hj', ?_⟩
      rw [updF_miss (by simp [hji])]
      simp [List.count_append, List.count_cons, Ne.symm hji]
theorem count_filter_ne {i j : Int} (h : j ≠ i) (xs : List Int) : (xs.filter (fun z => decide (z ≠ i))).count j = xs.count j := by
  rw [List.count_filter (by simp [h])]
theorem CntOf.del {P : List (Value × Value)} {xs : List Int} (h : CntOf P xs) (i : Int) : CntOf (delP i P) (xs.filter fun z => decide (z ≠ i)) := by
  refine ⟨fun p hp => ?_, fun j hj => ?_⟩
  · obtain ⟨hp1, hp2⟩ := List.mem_filter.1 hp
    obtain ⟨j, hj, rfl⟩ := h.1 p hp1
    have hji : j ≠ i := fun e => by subst e; simp [isInt] at hp2
    exact ⟨j, List.mem_filter.2 ⟨hj, by simp [hji]⟩, by rw [count_filter_ne hji]⟩
  · obtain ⟨hj1, hj2⟩ := List.mem_filter.1 hj
    have hji : j ≠ i := by simpa using hj2
    refine List.mem_filter.2 ⟨by rw [count_filter_ne hji]; exact h.2 j hj1, by simp [isInt, hji]⟩
theorem CntOf.len {P : List (Value × Value)} {xs : List Int} (h : CntOf P xs) : P.length = 0 ↔ xs = [] := by
  constructor
  · intro hp
    cases xs with
    | nil => rfl
    | cons x xs =>
      have := h.2 x (by simp)
      rw [List.length_eq_zero_iff.1 hp] at this
      cases this
  · rintro rfl
    cases P with
    | nil => rfl
    | cons p P => obtain ⟨i, hi, _⟩ := h.1 p (by simp); cases hi
/-- The list holds the places of just those that are meant, each once. -/
def onceGo (p : Val → Bool) : List Val → Nat → List Int → Bool
  | [], _, q => decide (q = [])
  | v :: V, i, q => decide ((q.count (i : Int) : Int) = if p v = true then 1 else 0) && onceGo p V (i + 1) (q.filter fun z => decide (z ≠ (i : Int)))
section
variable (c : FuncId) [hfk : FK c] (p : Val → Bool) (V : List Val) (v : Value) (R : List Asn) (hg : GS R 7 v V.length (V.flatMap valL)) (hlen : V.length ≤ 1000000)
include hg hlen hfk in
theorem once_spec (hcl : ∀ x ∈ V, ∀ R, Spec c [valV x] R fun u L' => u = .bool (p x) ∧ L' = R) (hq : SlH) (Q : List (SlH × List Int)) (hl : (catQ Q).length ≤ 1000000) (hn : Q.length ≤ 1000) (hi : ∀ z ∈ catQ Q, I64 z) (hG : ∀ p ∈ Q, GS R 1 (sl p.1) p.2.length (p.2.flatMap intL)) :
    Spec 113 [v, .func (.func c) #[] #[], sl hq] (ownT 24 shL 1 (sl hq) (qsL Q) :: R) fun u L' => u = .bool (onceGo p V 0 (catQ Q)) ∧ L' = R := by
  generalize hX : onceGo p V 0 (catQ Q) = X
  (intro G w M; refine sx_enter (vs := ([v, .func (.func c) #[] #[], sl hq] : List Value)) Tryz.func113 (n := 47) rfl rfl rfl rfl ?_; intro a F; (try simp only [List.cons_append, List.nil_append] at M))
  have hG0 : GS (R ++ G) 7 v V.length (V.flatMap valL) := Gives.app hg
  have hG' : ∀ p ∈ Q, GS (R ++ G) 1 (sl p.1) p.2.length (p.2.flatMap intL) := fun p hp => Gives.app (hG p hp)
  (repeat' (first | (refine sx_nil ?_; (try (replace F := F.filt [0, 1, 2, 6, 7, 9, 10, 11, 12, 15, 16, 17, 18, 26, 27, 28, 29, 35, 40] rfl))) | (refine sv1 F M (h := ?_); clear F a; intro a F) | refine pv1 (h := ?_) | (refine sv3 F M (h := ?_); clear M; intro w M) | (refine sv2 F M (h := ?_); clear F M a; intro nb a w F M) | refine pv3 (h := ?_) | (refine pv2 (h := ?_); intro nb) | ((first | refine svC F M (h := ?_) | refine svC0 F M (h := ?_) | refine pvC (h := ?_) | refine pvC0 (h := ?_)); ((first | (apply ac_makeMap; (exact rfl); (exact inferInstance); intro nm) | ((refine acK (k := 185) (concatI_spec hq Q hl hn (mp nm 3 [] :: (R ++ G)) (fun p hp => GS.tail (hG' p hp))) ?_); rintro u L' ⟨hc, rfl, rfl⟩))); (first | refine ⟨rvsA, ?_⟩ | (clear F M a; intro a w F M) | (clear M; intro w M))) | (refine svK F (h := ?_); clear F a; intro a F) | refine svK0 F (h := ?_) | ((refine sx_guardb F rfl (fun hg => ?_) (fun hg => ?_)) <;> (rw [hg] at F; (try (exact no hg)))) | (refine pvF (h := ?_); intro nb) | refine pvK (h := ?_) | refine pvK0 (h := ?_) | (refine pv_nil ?_; intro a w F M; (try (replace F := F.filt [0, 1, 2, 6, 7, 9, 10, 11, 12, 15, 16, 17, 18, 26, 27, 28, 29, 35, 40] rfl))) | ((fail_if_success (with_reducible first | refine isW ?_ | refine isP ?_ | refine isL ?_)); (first | with_reducible refine sx_region ?_ | ((with_reducible refine isK ?_); (first | refine svT F (h := ?_) | refine svF F (h := ?_) | ((refine svB F (fun hc => ?_) (fun hc => ?_)) <;> (try (exact no hc))))) | ((with_reducible refine isD ?_); fail) | with_reducible refine wp_scope_straight ?_ | with_reducible refine wp_label ?_ | go_step))))
  generalize catQ Q = q at *
  refine svLoop F M ((0, []) : Nat × List (Value × Value)) (fun s => [(17, .int .i64 s.1)]) (fun s => [mp nm 3 s.2]) (fun s => s.1 ≤ q.length ∧ CntOf s.2 (q.take s.1)) (fun s => q.length - s.1) [9] ⟨Nat.zero_le _, CntOf.nil⟩ ?_
  (rintro ⟨k, P⟩ ⟨q1, q2⟩ a w F M; (try simp only [List.cons_append, List.nil_append] at F M q1 q2 ⊢))
  by_cases hlt : k < q.length
  · obtain ⟨z, hz⟩ : ∃ z, q[k]? = some z := ⟨q[k], by simp [hlt]⟩
    have hst := hi z (List.mem_of_getElem? hz)
    have ht : q.take (k + 1) = q.take k ++ [z] := by rw [List.take_add_one, hz]; rfl
    have hcl2 : (q.take k).count z ≤ 1000000 := Nat.le_trans List.count_le_length (by rw [List.length_take]; omega)
    by_cases hm : z ∈ q.take k
    · have hin := q2.2 z hm
      (repeat' (first | ((first | refine sv1 F M (h := ?_) (hr := by ((first | (apply rt_hit1; (exact rfl); (exact rfl); (exact rfl); (exact inferInstance); (exact gives_mp pullA); (exact intKey hst); (exact hin)) | (apply rt_miss1; (exact rfl); (exact rfl); (exact rfl); (exact inferInstance); (exact gives_mp pullA); (exact intKey hst); (exact hno); (exact inferInstance))))) | refine pv1 (h := ?_) (hr := by ((first | (apply rt_hit1; (exact rfl); (exact rfl); (exact rfl); (exact inferInstance); (exact gives_mp pullA); (exact intKey hst); (exact hin)) | (apply rt_miss1; (exact rfl); (exact rfl); (exact rfl); (exact inferInstance); (exact gives_mp pullA); (exact intKey hst); (exact hno); (exact inferInstance)))))); (try (clear F a; intro a F))) | (refine sx_nil ?_; (try (replace F := F.filt [0, 1, 2, 6, 7, 9, 10, 11, 12, 15, 16, 17, 18, 26, 27, 28, 29, 35, 40] rfl))) | (refine sv1 F M (h := ?_); clear F a; intro a F) | refine pv1 (h := ?_) | (refine sv3 F M (h := ?_); clear M; intro w M) | (refine sv2 F M (h := ?_); clear F M a; intro nb a w F M) | refine pv3 (h := ?_) | (refine pv2 (h := ?_); intro nb) | ((first | refine svC F M (h := ?_) | refine svC0 F M (h := ?_) | refine pvC (h := ?_) | refine pvC0 (h := ?_)); ((first | (apply ac_mapHit; (exact rfl); (exact rfl); (exact rfl); (exact rfl); (exact inferInstance); (exact intKey hst); (focus ((repeat (first | exact Rep.here | apply Rep.there)); done)); (exact hin)) | (refine ac_mapNew rfl rfl rfl rfl inferInstance (intKey hst) (by (focus ((repeat (first | exact Rep.here | apply Rep.there)); done))) hno (List.Perm.refl _) ?_))); (first | refine ⟨rvsA, ?_⟩ | (clear F M a; intro a w F M) | (clear M; intro w M))) | (refine svK F (h := ?_); clear F a; intro a F) | refine svK0 F (h := ?_) | ((refine sx_guardb F rfl (fun hg => ?_) (fun hg => ?_)) <;> (rw [hg] at F; (try (exact no hg)))) | (refine pvF (h := ?_); intro nb) | refine pvK (h := ?_) | refine pvK0 (h := ?_) | (refine pv_nil ?_; intro a w F M; (try (replace F := F.filt [0, 1, 2, 6, 7, 9, 10, 11, 12, 15, 16, 17, 18, 26, 27, 28, 29, 35, 40] rfl))) | ((fail_if_success (with_reducible first | refine isW ?_ | refine isP ?_ | refine isL ?_)); (first | with_reducible refine sx_region ?_ | ((with_reducible refine isK ?_); (first | refine svT F (h := ?_) | refine svF F (h := ?_) | ((refine svB F (fun hc => ?_) (fun hc => ?_)) <;> (try (exact no hc))))) | ((with_reducible refine isD ?_); fail) | with_reducible refine wp_scope_straight ?_ | with_reducible refine wp_label ?_ | go_step))))
      refine sv_again F M (k + 1, _) kpA permsA ⟨by simp only; omega, ?_⟩ (by simp only; omega)
      rw [ht]; exact q2.upd hm
    · have hno := q2.miss hm
      (repeat' (first | ((first | refine sv1 F M (h := ?_) (hr := by ((first | (apply rt_hit1; (exact rfl); (exact rfl); (exact rfl); (exact inferInstance); (exact gives_mp pullA); (exact intKey hst); (exact hin)) | (apply rt_miss1; (exact rfl); (exact rfl); (exact rfl); (exact inferInstance); (exact gives_mp pullA); (exact intKey hst); (exact hno); (exact inferInstance))))) | refine pv1 (h := ?_) (hr := by ((first | (apply rt_hit1; (exact rfl); (exact rfl); (exact rfl); (exact inferInstance); (exact gives_mp pullA); (exact intKey hst); (exact hin)) | (apply rt_miss1; (exact rfl); (exact rfl); (exact rfl); (exact inferInstance); (exact gives_mp pullA); (exact intKey hst); (exact hno); (exact inferInstance)))))); (try (clear F a; intro a F))) | (refine sx_nil ?_; (try (replace F := F.filt [0, 1, 2, 6, 7, 9, 10, 11, 12, 15, 16, 17, 18, 26, 27, 28, 29, 35, 40] rfl))) | (refine sv1 F M (h := ?_); clear F a; intro a F) | refine pv1 (h := ?_) | (refine sv3 F M (h := ?_); clear M; intro w M) | (refine sv2 F M (h := ?_); clear F M a; intro nb a w F M) | refine pv3 (h := ?_) | (refine pv2 (h := ?_); intro nb) | ((first | refine svC F M (h := ?_) | refine svC0 F M (h := ?_) | refine pvC (h := ?_) | refine pvC0 (h := ?_)); ((first | (apply ac_mapHit; (exact rfl); (exact rfl); (exact rfl); (exact rfl); (exact inferInstance); (exact intKey hst); (focus ((repeat (first | exact Rep.here | apply Rep.there)); done)); (exact hin)) | (refine ac_mapNew rfl rfl rfl rfl inferInstance (intKey hst) (by (focus ((repeat (first | exact Rep.here | apply Rep.there)); done))) hno (List.Perm.refl _) ?_))); (first | refine ⟨rvsA, ?_⟩ | (clear F M a; intro a w F M) | (clear M; intro w M))) | (refine svK F (h := ?_); clear F a; intro a F) | refine svK0 F (h := ?_) | ((refine sx_guardb F rfl (fun hg => ?_) (fun hg => ?_)) <;> (rw [hg] at F; (try (exact no hg)))) | (refine pvF (h := ?_); intro nb) | refine pvK (h := ?_) | refine pvK0 (h := ?_) | (refine pv_nil ?_; intro a w F M; (try (replace F := F.filt [0, 1, 2, 6, 7, 9, 10, 11, 12, 15, 16, 17, 18, 26, 27, 28, 29, 35, 40] rfl))) | ((fail_if_success (with_reducible first | refine isW ?_ | refine isP ?_ | refine isL ?_)); (first | with_reducible refine sx_region ?_ | ((with_reducible refine isK ?_); (first | refine svT F (h := ?_) | refine svF F (h := ?_) | ((refine svB F (fun hc => ?_) (fun hc => ?_)) <;> (try (exact no hc))))) | ((with_reducible refine isD ?_); fail) | with_reducible refine wp_scope_straight ?_ | with_reducible refine wp_label ?_ | go_step))))
      refine sv_again F M (k + 1, _) kpA permsA ⟨by simp only; omega, ?_⟩ (by simp only; omega)
      rw [ht]; exact q2.new hm
  · obtain rfl : k = q.length := by omega
    rw [List.take_length] at q2
    (repeat' (first | (refine sx_nil ?_; (try (replace F := F.filt [0, 1, 2, 6, 7, 9, 10, 11, 12, 15, 16, 17, 18, 26, 27, 28, 29, 35, 40] rfl))) | (refine sv1 F M (h := ?_); clear F a; intro a F) | refine pv1 (h := ?_) | (refine sv3 F M (h := ?_); clear M; intro w M) | (refine sv2 F M (h := ?_); clear F M a; intro nb a w F M) | refine pv3 (h := ?_) | (refine pv2 (h := ?_); intro nb) | ((first | refine svC F M (h := ?_) | refine svC0 F M (h := ?_) | refine pvC (h := ?_) | refine pvC0 (h := ?_)); (fail); (first | refine ⟨rvsA, ?_⟩ | (clear F M a; intro a w F M) | (clear M; intro w M))) | (refine svK F (h := ?_); clear F a; intro a F) | refine svK0 F (h := ?_) | ((refine sx_guardb F rfl (fun hg => ?_) (fun hg => ?_)) <;> (rw [hg] at F; (try (exact no hg)))) | (refine pvF (h := ?_); intro nb) | refine pvK (h := ?_) | refine pvK0 (h := ?_) | (refine pv_nil ?_; intro a w F M; (try (replace F := F.filt [0, 1, 2, 6, 7, 9, 10, 11, 12, 15, 16, 17, 18, 26, 27, 28, 29, 35, 40] rfl))) | ((fail_if_success (with_reducible first | refine isW ?_ | refine isP ?_ | refine isL ?_)); (first | with_reducible refine sx_region ?_ | ((with_reducible refine isK ?_); (first | refine svT F (h := ?_) | refine svF F (h := ?_) | ((refine svB F (fun hc => ?_) (fun hc => ?_)) <;> (try (exact no hc))))) | ((with_reducible refine isD ?_); fail) | with_reducible refine wp_scope_straight ?_ | with_reducible refine wp_label ?_ | go_step))))
    refine svLoop F M ((0, P, q) : Nat × List (Value × Value) × List Int) (fun s => [(28, .int .i64 s.1)]) (fun s => [mp nm 3 s.2.1]) (fun s => s.1 ≤ V.length ∧ CntOf s.2.1 s.2.2 ∧ onceGo p (V.drop s.1) s.1 s.2.2 = X ∧ s.2.2.length ≤ 1000000) (fun s => V.length - s.1) [10, 11, 12] ⟨Nat.zero_le _, q2, by simpa using hX, hl⟩ ?_
    (rintro ⟨k, P, y⟩ ⟨q1, q2, q3, q4⟩ a w F M; (try simp only [List.cons_append, List.nil_append] at F M q1 q2 q3 q4 ⊢))
    by_cases hlt : k < V.length
    · obtain ⟨x, hx⟩ : ∃ x, V[k]? = some x := ⟨V[k], by simp [hlt]⟩
      have hs := hcl x (List.mem_of_getElem? hx)
      have hst : I64 (k : Int) := ⟨by omega, by omega⟩
      have hcl2 : y.count (k : Int) ≤ 1000000 := Nat.le_trans List.count_le_length q4
      rw [drop_cons hx, onceGo] at q3
      have hq4 : (y.filter fun z => decide (z ≠ (k : Int))).length ≤ 1000000 := Nat.le_trans (List.length_filter_le _ _) q4
      have hdel := q2.del (k : Int)
      by_cases hm : (k : Int) ∈ y
      · have hin := q2.2 _ hm
        cases hp : p x
        all_goals rw [hp] at hs q3
        all_goals (repeat' (first | ((first | refine sv1 F M (h := ?_) (hr := by ((first | (apply rt_hit1; (exact rfl); (exact rfl); (exact rfl); (exact inferInstance); (exact gives_mp pullA); (exact intKey hst); (exact hin)) | (apply rt_miss1; (exact rfl); (exact rfl); (exact rfl); (exact inferInstance); (exact gives_mp pullA); (exact intKey hst); (exact hno); (exact inferInstance))))) | refine pv1 (h := ?_) (hr := by ((first | (apply rt_hit1; (exact rfl); (exact rfl); (exact rfl); (exact inferInstance); (exact gives_mp pullA); (exact intKey hst); (exact hin)) | (apply rt_miss1; (exact rfl); (exact rfl); (exact rfl); (exact inferInstance); (exact gives_mp pullA); (exact intKey hst); (exact hno); (exact inferInstance)))))); (try (clear F a; intro a F))) | (refine sx_nil ?_; (try (replace F := F.filt [0, 1, 2, 6, 7, 9, 10, 11, 12, 15, 16, 17, 18, 26, 27, 28, 29, 35, 40] rfl))) | (refine sv1 F M (h := ?_); clear F a; intro a F) | refine pv1 (h := ?_) | (refine sv3 F M (h := ?_); clear M; intro w M) | (refine sv2 F M (h := ?_); clear F M a; intro nb a w F M) | refine pv3 (h := ?_) | (refine pv2 (h := ?_); intro nb) | ((first | refine svC F M (h := ?_) | refine svC0 F M (h := ?_) | refine pvC (h := ?_) | refine pvC0 (h := ?_)); ((first | ((refine acW (k := c) (hs _) ?_); rintro u L' ⟨rfl, rfl⟩) | (refine ac_mapDel rfl rfl rfl rfl inferInstance rfl (intKey hst) (by (focus ((repeat (first | exact Rep.here | apply Rep.there)); done))) ?_))); (first | refine ⟨rvsA, ?_⟩ | (clear F M a; intro a w F M) | (clear M; intro w M))) | (refine svK F (h := ?_); clear F a; intro a F) | refine svK0 F (h := ?_) | ((refine sx_guardb F rfl (fun hg => ?_) (fun hg => ?_)) <;> (rw [hg] at F; (try (exact no hg)))) | (refine pvF (h := ?_); intro nb) | refine pvK (h := ?_) | refine pvK0 (h := ?_) | (refine pv_nil ?_; intro a w F M; (try (replace F := F.filt [0, 1, 2, 6, 7, 9, 10, 11, 12, 15, 16, 17, 18, 26, 27, 28, 29, 35, 40] rfl))) | ((fail_if_success (with_reducible first | refine isW ?_ | refine isP ?_ | refine isL ?_)); (first | with_reducible refine sx_region ?_ | ((with_reducible refine isK ?_); (first | refine svT F (h := ?_) | refine svF F (h := ?_) | ((refine svB F (fun hc => ?_) (fun hc => ?_)) <;> (try (exact no hc))))) | ((with_reducible refine isD ?_); fail) | with_reducible refine wp_scope_straight ?_ | with_reducible refine wp_label ?_ | go_step))))
        all_goals first
          | ((first | refine svEnd F M ?_ | refine svRet F M ?_); refine ⟨_, _, rfl, ⟨?_, rfl⟩, M.perms permsA⟩; rw [← q3]; simp_all [tupOf]; done)
          | (refine sv_again F M (k + 1, _, y.filter fun z => decide (z ≠ (k : Int))) kpA permsA ⟨by simp only; omega, hdel, by simp_all, hq4⟩ (by simp only; omega))
      · have hno := q2.miss hm
        have hc0 : y.count (k : Int) = 0 := List.count_eq_zero.2 hm
        cases hp : p x
        all_goals rw [hp] at hs q3
        all_goals (repeat' (first | ((first | refine sv1 F M (h := ?_) (hr := by ((first | (apply rt_hit1; (exact rfl); (exact rfl); (exact rfl); (exact inferInstance); (exact gives_mp pullA); (exact intKey hst); (exact hin)) | (apply rt_miss1; (exact rfl); (exact rfl); (exact rfl); (exact inferInstance); (exact gives_mp pullA); (exact intKey hst); (exact hno); (exact inferInstance))))) | refine pv1 (h := ?_) (hr := by ((first | (apply rt_hit1; (exact rfl); (exact rfl); (exact rfl); (exact inferInstance); (exact gives_mp pullA); (exact intKey hst); (exact hin)) | (apply rt_miss1; (exact rfl); (exact rfl); (exact rfl); (exact inferInstance); (exact gives_mp pullA); (exact intKey hst); (exact hno); (exact inferInstance)))))); (try (clear F a; intro a F))) | (refine sx_nil ?_; (try (replace F := F.filt [0, 1, 2, 6, 7, 9, 10, 11, 12, 15, 16, 17, 18, 26, 27, 28, 29, 35, 40] rfl))) | (refine sv1 F M (h := ?_); clear F a; intro a F) | refine pv1 (h := ?_) | (refine sv3 F M (h := ?_); clear M; intro w M) | (refine sv2 F M (h := ?_); clear F M a; intro nb a w F M) | refine pv3 (h := ?_) | (refine pv2 (h := ?_); intro nb) | ((first | refine svC F M (h := ?_) | refine svC0 F M (h := ?_) | refine pvC (h := ?_) | refine pvC0 (h := ?_)); ((first | ((refine acW (k := c) (hs _) ?_); rintro u L' ⟨rfl, rfl⟩) | (refine ac_mapDel rfl rfl rfl rfl inferInstance rfl (intKey hst) (by (focus ((repeat (first | exact Rep.here | apply Rep.there)); done))) ?_))); (first | refine ⟨rvsA, ?_⟩ | (clear F M a; intro a w F M) | (clear M; intro w M))) | (refine svK F (h := ?_); clear F a; intro a F) | refine svK0 F (h := ?_) | ((refine sx_guardb F rfl (fun hg => ?_) (fun hg => ?_)) <;> (rw [hg] at F; (try (exact no hg)))) | (refine pvF (h := ?_); intro nb) | refine pvK (h := ?_) | refine pvK0 (h := ?_) | (refine pv_nil ?_; intro a w F M; (try (replace F := F.filt [0, 1, 2, 6, 7, 9, 10, 11, 12, 15, 16, 17, 18, 26, 27, 28, 29, 35, 40] rfl))) | ((fail_if_success (with_reducible first | refine isW ?_ | refine isP ?_ | refine isL ?_)); (first | with_reducible refine sx_region ?_ | ((with_reducible refine isK ?_); (first | refine svT F (h := ?_) | refine svF F (h := ?_) | ((refine svB F (fun hc => ?_) (fun hc => ?_)) <;> (try (exact no hc))))) | ((with_reducible refine isD ?_); fail) | with_reducible refine wp_scope_straight ?_ | with_reducible refine wp_label ?_ | go_step))))
        all_goals first
          | ((first | refine svEnd F M ?_ | refine svRet F M ?_); refine ⟨_, _, rfl, ⟨?_, rfl⟩, M.perms permsA⟩; rw [← q3]; simp_all [tupOf]; done)
          | (refine sv_again F M (k + 1, _, y.filter fun z => decide (z ≠ (k : Int))) kpA permsA ⟨by simp only; omega, hdel, by simp_all, hq4⟩ (by simp only; omega))
    · obtain rfl : k = V.length := by omega
      rw [List.drop_length] at q3
      (repeat' (first | ((first | refine sv1 F M (h := ?_) (hr := by ((apply rt_lenM; (exact rfl); (exact rfl); (exact rfl); (exact inferInstance); (exact gives_mp pullA)))) | refine pv1 (h := ?_) (hr := by ((apply rt_lenM; (exact rfl); (exact rfl); (exact rfl); (exact inferInstance); (exact gives_mp pullA))))); (try (clear F a; intro a F))) | (refine sx_nil ?_; (try (replace F := F.filt [0, 1, 2, 6, 7, 9, 10, 11, 12, 15, 16, 17, 18, 26, 27, 28, 29, 35, 40] rfl))) | (refine sv1 F M (h := ?_); clear F a; intro a F) | refine pv1 (h := ?_) | (refine sv3 F M (h := ?_); clear M; intro w M) | (refine sv2 F M (h := ?_); clear F M a; intro nb a w F M) | refine pv3 (h := ?_) | (refine pv2 (h := ?_); intro nb) | ((first | refine svC F M (h := ?_) | refine svC0 F M (h := ?_) | refine pvC (h := ?_) | refine pvC0 (h := ?_)); (fail); (first | refine ⟨rvsA, ?_⟩ | (clear F M a; intro a w F M) | (clear M; intro w M))) | (refine svK F (h := ?_); clear F a; intro a F) | refine svK0 F (h := ?_) | ((refine sx_guardb F rfl (fun hg => ?_) (fun hg => ?_)) <;> (rw [hg] at F; (try (exact no hg)))) | (refine pvF (h := ?_); intro nb) | refine pvK (h := ?_) | refine pvK0 (h := ?_) | (refine pv_nil ?_; intro a w F M; (try (replace F := F.filt [0, 1, 2, 6, 7, 9, 10, 11, 12, 15, 16, 17, 18, 26, 27, 28, 29, 35, 40] rfl))) | ((fail_if_success (with_reducible first | refine isW ?_ | refine isP ?_ | refine isL ?_)); (first | with_reducible refine sx_region ?_ | ((with_reducible refine isK ?_); (first | refine svT F (h := ?_) | refine svF F (h := ?_) | ((refine svB F (fun hc => ?_) (fun hc => ?_)) <;> (try (exact no hc))))) | ((with_reducible refine isD ?_); fail) | with_reducible refine wp_scope_straight ?_ | with_reducible refine wp_label ?_ | go_step))))
      all_goals (first | refine svEnd F M ?_ | refine svRet F M ?_)
      refine ⟨_, _, rfl, ⟨?_, rfl⟩, M.perms permsA⟩
      rw [← q3]
      have hl := q2.len
      simp [tupOf, onceGo, ← hl]
end
end Go.Proofs.YtopbohbkhljjgaaGreat
end
section
namespace Go.Proofs.YtopbohbkhljjgaaGreat
open Go.RowKit
set_option linter.unusedVariables false
set_option linter.unusedSimpArgs false
theorem bals_get {V : List Val} {i : Nat} {v : Val} (h : V[i]? = some v) : (bals V)[i]? = some v.bal := by simp [bals, h]
theorem sum_nonneg : ∀ (l : List Int), (∀ x ∈ l, 0 ≤ x) → 0 ≤ l.sum
  | [], _ => by simp
  | a :: l, h => by
    have := sum_nonneg l fun x hx => h x (by simp [hx])
    have := h a (by simp)
    simp only [List.sum_cons]; omega
end Go.Proofs.YtopbohbkhljjgaaGreat
end
section
namespace Go.Proofs.YtopbohbkhljjgaaGreat
open Go.RowKit
set_option linter.unusedVariables false
set_option maxRecDepth 100000
set_option linter.unusedSimpArgs false
set_option maxHeartbeats 4000000
/-- slices.Clone: clone_val the name, slices.Clone[[]egress/api.Validator,egress/api.Validator] the instance, valL the elements' cells, 7 so many cells, Val the elements, api.Validator their type. -/
theorem clone_val (h : SlH) (xs : List Val) {L : List Asn} (hu : GS L 7 (sl h) xs.length (xs.flatMap valL)) (hb : xs.length ≤ 1000000) :
    Spec 25 [sl h] L fun u L' => ∃ h', u = sl h' ∧ L' = ownT 48 valL 7 (sl h') xs :: L := by
  (intro G w M; refine sx_enter (vs := [sl h]) Tryz.func25 (n := 8) rfl rfl rfl rfl ?_; intro a F; (try simp only [List.cons_append, List.nil_append] at M))
  have hu' : GS (L ++ G) 7 (sl h) xs.length (xs.flatMap valL) := hu.imp fun w M => M.drop_app
  have hlv := hu'.len_le M
  obtain ⟨ha, hn, hc⟩ := h
  cases ha with
  | none =>
    have hx : xs = [] := by
      have := (hu' w M).nil_len
      exact List.eq_nil_of_length_eq_zero this
    subst hx
    (repeat' (first | (first | (refine sx_nil ?_; (try (replace F := F.filt [0, 2, 4] rfl))) | (refine sv1 F M (h := ?_) (hr := by fail); clear F a; intro a F) | (refine sv1 F M (h := ?_); clear F a; intro a F) | (refine sv3 F M (h := ?_); clear M; intro w M) | (refine sv2 F M (h := ?_); clear F M a; intro b a w F M) | (refine svC F M (h := ?_); fail; (clear F M a; intro a w F M)) | (refine svC0 F M (h := ?_); fail; (clear M; intro w M)) | (refine sv1 F M (h := ?_) (hr := by (apply rt_nils; (exact rfl); (exact rfl); (exact rfl); (exact inferInstance))); clear F a; intro a F) | (refine svK F (h := ?_); clear F a; intro a F) | (refine svK0 F (h := ?_)) | ((refine sx_guardb F rfl (fun hg => ?_) (fun hg => ?_)) <;> (rw [hg] at F; (try (exact no hg))))) | (first | (refine pv1 (h := ?_) (hr := by fail)) | (refine pv1 (h := ?_)) | (refine pv3 (h := ?_)) | (refine pv2 (h := ?_); intro b) | (refine pvC (h := ?_); fail; (refine ⟨?_, ?_⟩; (exact rvsA))) | (refine pvC0 (h := ?_); fail; (refine ⟨?_, ?_⟩; (exact rvsA))) | (refine pv1 (h := ?_) (hr := by (apply rt_nils; (exact rfl); (exact rfl); (exact rfl); (exact inferInstance)))) | (refine pvF (h := ?_); intro b) | (refine pvK (h := ?_)) | (refine pvK0 (h := ?_)) | (refine pv_nil ?_; intro a w F M; refine ql_open ?_) | (refine pv_nil ?_; intro a w F M; (try (replace F := F.filt [0, 2, 4] rfl)))) | ((fail_if_success (with_reducible show wpList _ _ _ _ _ _)); (fail_if_success (with_reducible show PW _ _ _ _ _ _ _ _ _ _)); (fail_if_success (with_reducible show Code.wp _ (Code.loop _) _ _ _)); (first | ((with_reducible show Code.wp _ (Code.region _ _ false) _ _ _); (refine sx_region ?_)) | ((with_reducible show Code.wp _ (Code.cond _ _ _) _ _ _); (first | (refine svT F (h := ?_)) | (refine svF F (h := ?_)) | ((refine svB F (fun hc => ?_) (fun hc => ?_)) <;> (try (exact no hc))))) | ((with_reducible show Code.wp _ (Code.region _ _ true) _ _ _); fail) | go_step))))
    all_goals (first | (refine svEnd F M ?_) | (refine svRet F M ?_))
    all_goals refine ⟨_, _, rfl, ⟨⟨none, 0, 0⟩, rfl, rfl⟩, ?_⟩
    all_goals exact M.own_nil _ _
  | some ad =>
    (repeat' (first | (first | (refine sx_nil ?_; (try (replace F := F.filt [0, 2, 4] rfl))) | (refine sv1 F M (h := ?_) (hr := by fail); clear F a; intro a F) | (refine sv1 F M (h := ?_); clear F a; intro a F) | (refine sv3 F M (h := ?_); clear M; intro w M) | (refine sv2 F M (h := ?_); clear F M a; intro b a w F M) | (refine svC F M (h := ?_); (first | (apply ac_appendH (xs := ([] : List Val)) (ys := xs) (f := valL); (exact rfl); (exact rfl); (exact inferInstance); (exact rfl); (exact rfl); (focus ((repeat (first | exact Pull.here | apply Pull.there)); done)); (exact inferInstance); (exact hu'.tail); (exact rfl); (exact rfl); (simp; omega); intro v')); (clear F M a; intro a w F M)) | (refine svC0 F M (h := ?_); (first | (apply ac_appendH (xs := ([] : List Val)) (ys := xs) (f := valL); (exact rfl); (exact rfl); (exact inferInstance); (exact rfl); (exact rfl); (focus ((repeat (first | exact Pull.here | apply Pull.there)); done)); (exact inferInstance); (exact hu'.tail); (exact rfl); (exact rfl); (simp; omega); intro v')); (clear M; intro w M)) | (refine sv1 F M (h := ?_) (hr := by (apply rt_nils; (exact rfl); (exact rfl); (exact rfl); (exact inferInstance))); clear F a; intro a F) | (refine svK F (h := ?_); clear F a; intro a F) | (refine svK0 F (h := ?_)) | ((refine sx_guardb F rfl (fun hg => ?_) (fun hg => ?_)) <;> (rw [hg] at F; (try (exact no hg))))) | (first | (refine pv1 (h := ?_) (hr := by fail)) | (refine pv1 (h := ?_)) | (refine pv3 (h := ?_)) | (refine pv2 (h := ?_); intro b) | (refine pvC (h := ?_); (first | (apply ac_appendH (xs := ([] : List Val)) (ys := xs) (f := valL); (exact rfl); (exact rfl); (exact inferInstance); (exact rfl); (exact rfl); (focus ((repeat (first | exact Pull.here | apply Pull.there)); done)); (exact inferInstance); (exact hu'.tail); (exact rfl); (exact rfl); (simp; omega); intro v')); (refine ⟨?_, ?_⟩; (exact rvsA))) | (refine pvC0 (h := ?_); (first | (apply ac_appendH (xs := ([] : List Val)) (ys := xs) (f := valL); (exact rfl); (exact rfl); (exact inferInstance); (exact rfl); (exact rfl); (focus ((repeat (first | exact Pull.here | apply Pull.there)); done)); (exact inferInstance); (exact hu'.tail); (exact rfl); (exact rfl); (simp; omega); intro v')); (refine ⟨?_, ?_⟩; (exact rvsA))) | (refine pv1 (h := ?_) (hr := by (apply rt_nils; (exact rfl); (exact rfl); (exact rfl); (exact inferInstance)))) | (refine pvF (h := ?_); intro b) | (refine pvK (h := ?_)) | (refine pvK0 (h := ?_)) | (refine pv_nil ?_; intro a w F M; refine ql_open ?_) | (refine pv_nil ?_; intro a w F M; (try (replace F := F.filt [0, 2, 4] rfl)))) | ((fail_if_success (with_reducible show wpList _ _ _ _ _ _)); (fail_if_success (with_reducible show PW _ _ _ _ _ _ _ _ _ _)); (fail_if_success (with_reducible show Code.wp _ (Code.loop _) _ _ _)); (first | ((with_reducible show Code.wp _ (Code.region _ _ false) _ _ _); (refine sx_region ?_)) | ((with_reducible show Code.wp _ (Code.cond _ _ _) _ _ _); (first | (refine svT F (h := ?_)) | (refine svF F (h := ?_)) | ((refine svB F (fun hc => ?_) (fun hc => ?_)) <;> (try (exact no hc))))) | ((with_reducible show Code.wp _ (Code.region _ _ true) _ _ _); fail) | go_step))))
    all_goals refine svC F M (h := ?_)
    all_goals (refine ac_appendH (f := valL) (xs := []) (ys := xs) rfl rfl inferInstance rfl rfl (by (focus ((repeat (first | exact Pull.here | apply Pull.there)); done))) inferInstance hu'.tail rfl rfl (by simp; omega) ?_)
    all_goals (intro v' a w F M)
    all_goals (repeat' (first | (first | (refine sx_nil ?_; (try (replace F := F.filt [0, 2, 4] rfl))) | (refine sv1 F M (h := ?_) (hr := by fail); clear F a; intro a F) | (refine sv1 F M (h := ?_); clear F a; intro a F) | (refine sv3 F M (h := ?_); clear M; intro w M) | (refine sv2 F M (h := ?_); clear F M a; intro b a w F M) | (refine svC F M (h := ?_); (first | (apply ac_appendH (xs := ([] : List Val)) (ys := xs) (f := valL); (exact rfl); (exact rfl); (exact inferInstance); (exact rfl); (exact rfl); (focus ((repeat (first | exact Pull.here | apply Pull.there)); done)); (exact inferInstance); (exact hu'.tail); (exact rfl); (exact rfl); (simp; omega); intro v')); (clear F M a; intro a w F M)) | (refine svC0 F M (h := ?_); (first | (apply ac_appendH (xs := ([] : List Val)) (ys := xs) (f := valL); (exact rfl); (exact rfl); (exact inferInstance); (exact rfl); (exact rfl); (focus ((repeat (first | exact Pull.here | apply Pull.there)); done)); (exact inferInstance); (exact hu'.tail); (exact rfl); (exact rfl); (simp; omega); intro v')); (clear M; intro w M)) | (refine sv1 F M (h := ?_) (hr := by (apply rt_nils; (exact rfl); (exact rfl); (exact rfl); (exact inferInstance))); clear F a; intro a F) | (refine svK F (h := ?_); clear F a; intro a F) | (refine svK0 F (h := ?_)) | ((refine sx_guardb F rfl (fun hg => ?_) (fun hg => ?_)) <;> (rw [hg] at F; (try (exact no hg))))) | (first | (refine pv1 (h := ?_) (hr := by fail)) | (refine pv1 (h := ?_)) | (refine pv3 (h := ?_)) | (refine pv2 (h := ?_); intro b) | (refine pvC (h := ?_); (first | (apply ac_appendH (xs := ([] : List Val)) (ys := xs) (f := valL); (exact rfl); (exact rfl); (exact inferInstance); (exact rfl); (exact rfl); (focus ((repeat (first | exact Pull.here | apply Pull.there)); done)); (exact inferInstance); (exact hu'.tail); (exact rfl); (exact rfl); (simp; omega); intro v')); (refine ⟨?_, ?_⟩; (exact rvsA))) | (refine pvC0 (h := ?_); (first | (apply ac_appendH (xs := ([] : List Val)) (ys := xs) (f := valL); (exact rfl); (exact rfl); (exact inferInstance); (exact rfl); (exact rfl); (focus ((repeat (first | exact Pull.here | apply Pull.there)); done)); (exact inferInstance); (exact hu'.tail); (exact rfl); (exact rfl); (simp; omega); intro v')); (refine ⟨?_, ?_⟩; (exact rvsA))) | (refine pv1 (h := ?_) (hr := by (apply rt_nils; (exact rfl); (exact rfl); (exact rfl); (exact inferInstance)))) | (refine pvF (h := ?_); intro b) | (refine pvK (h := ?_)) | (refine pvK0 (h := ?_)) | (refine pv_nil ?_; intro a w F M; refine ql_open ?_) | (refine pv_nil ?_; intro a w F M; (try (replace F := F.filt [0, 2, 4] rfl)))) | ((fail_if_success (with_reducible show wpList _ _ _ _ _ _)); (fail_if_success (with_reducible show PW _ _ _ _ _ _ _ _ _ _)); (fail_if_success (with_reducible show Code.wp _ (Code.loop _) _ _ _)); (first | ((with_reducible show Code.wp _ (Code.region _ _ false) _ _ _); (refine sx_region ?_)) | ((with_reducible show Code.wp _ (Code.cond _ _ _) _ _ _); (first | (refine svT F (h := ?_)) | (refine svF F (h := ?_)) | ((refine svB F (fun hc => ?_) (fun hc => ?_)) <;> (try (exact no hc))))) | ((with_reducible show Code.wp _ (Code.region _ _ true) _ _ _); fail) | go_step))))
    all_goals (first | (refine svEnd F M ?_) | (refine svRet F M ?_))
    all_goals (refine ⟨_, _, rfl, ⟨v', rfl, rfl⟩, ?_⟩; (try simp only [List.cons_append, List.nil_append]); exact M.perms permsA)
theorem reg_all (b : Nat) (cap : Int) (V : List Val) (hl : V.length ≤ 4096) (R : List Asn) : Spec 78 [ptr b] (regA b cap V :: R) fun u L' => ∃ h, u = sl h ∧ L' = ownT 48 valL 7 (sl h) V :: regA b cap V :: R := by
  intro G w M
  obtain ⟨h, m, M2⟩ := reg_open (L := R ++ G) M
  clear M; have M := M2; clear M2
  (refine sx_enter (vs := ([ptr b] : List Value)) Tryz.func78 (n := 10) rfl rfl rfl rfl ?_; intro a F; (try simp only [List.cons_append, List.nil_append] at M))
  (repeat' (first | (refine sx_nil ?_; (try (replace F := F.filt [0, 2, 4] rfl))) | (refine sv1 F M (h := ?_); clear F a; intro a F) | refine pv1 (h := ?_) | (refine sv3 F M (h := ?_); clear M; intro w M) | (refine sv2 F M (h := ?_); clear F M a; intro nb a w F M) | refine pv3 (h := ?_) | (refine pv2 (h := ?_); intro nb) | ((first | refine svC F M (h := ?_) | refine svC0 F M (h := ?_) | refine pvC (h := ?_) | refine pvC0 (h := ?_)); (((refine acW (k := 25) (clone_val h V (gs_own pullA) (by omega)) ?_); rintro u L' ⟨h', rfl, rfl⟩)); (first | refine ⟨rvsA, ?_⟩ | (clear F M a; intro a w F M) | (clear M; intro w M))) | (refine svK F (h := ?_); clear F a; intro a F) | refine svK0 F (h := ?_) | ((refine sx_guardb F rfl (fun hg => ?_) (fun hg => ?_)) <;> (rw [hg] at F; (try (exact no hg)))) | (refine pvF (h := ?_); intro nb) | refine pvK (h := ?_) | refine pvK0 (h := ?_) | (refine pv_nil ?_; intro a w F M; (try (replace F := F.filt [0, 2, 4] rfl))) | ((fail_if_success (with_reducible first | refine isW ?_ | refine isP ?_ | refine isL ?_)); (first | with_reducible refine sx_region ?_ | ((with_reducible refine isK ?_); (first | refine svT F (h := ?_) | refine svF F (h := ?_) | ((refine svB F (fun hc => ?_) (fun hc => ?_)) <;> (try (exact no hc))))) | ((with_reducible refine isD ?_); fail) | with_reducible refine wp_scope_straight ?_ | with_reducible refine wp_label ?_ | go_step))))
  all_goals (first | refine svEnd F M ?_ | refine svRet F M ?_)
  exact ⟨_, _, rfl, ⟨h', rfl, rfl⟩, (reg_close (M.perms (permsA : Perms _ (rgC b cap h _ _ m :: cntA m :: ownT 48 valL 7 (sl h) V :: ownT 48 valL 7 (sl h') V :: (R ++ G))))).perms permsA⟩
end Go.Proofs.YtopbohbkhljjgaaGreat
end
section
namespace Go.Proofs.YtopbohbkhljjgaaGreat
open Go.RowKit
set_option linter.unusedVariables false
set_option maxRecDepth 100000
set_option linter.unusedSimpArgs false
set_option maxHeartbeats 4000000
abbrev lnC (b r0 r1 : Nat) : Asn := pt b [ptr r0, ptr r1] 204
abbrev lnP (b r0 r1 size : Nat) (fo vo : List Nat) (R : List Asn) : List Asn := lnC b r0 r1 :: rgnA r0 size fo :: rgnA r1 size vo :: R
section
variable (b r0 r1 : Nat) (R : List Asn)
theorem of0 : Spec 229 [ptr b, .int .i64 0] (lnC b r0 r1 :: R) fun u L' => u = ptr r0 ∧ L' = lnC b r0 r1 :: R := by
  (intro G w M; refine sx_enter (vs := ([ptr b, .int .i64 0] : List Value)) Tryz.func229 (n := 21) rfl rfl rfl rfl ?_; intro a F; (try simp only [List.cons_append, List.nil_append] at M))
  (repeat' (first | (refine sx_nil ?_; (try (replace F := F.filt [0, 1, 4, 14] rfl))) | (refine sv1 F M (h := ?_); clear F a; intro a F) | refine pv1 (h := ?_) | (refine sv3 F M (h := ?_); clear M; intro w M) | (refine sv2 F M (h := ?_); clear F M a; intro nb a w F M) | refine pv3 (h := ?_) | (refine pv2 (h := ?_); intro nb) | ((first | refine svC F M (h := ?_) | refine svC0 F M (h := ?_) | refine pvC (h := ?_) | refine pvC0 (h := ?_)); (fail); (first | refine ⟨rvsA, ?_⟩ | (clear F M a; intro a w F M) | (clear M; intro w M))) | (refine svK F (h := ?_); clear F a; intro a F) | refine svK0 F (h := ?_) | ((refine sx_guardb F rfl (fun hg => ?_) (fun hg => ?_)) <;> (rw [hg] at F; (try (exact no hg)))) | (refine pvF (h := ?_); intro nb) | refine pvK (h := ?_) | refine pvK0 (h := ?_) | (refine pv_nil ?_; intro a w F M; (try (replace F := F.filt [0, 1, 4, 14] rfl))) | ((fail_if_success (with_reducible first | refine isW ?_ | refine isP ?_ | refine isL ?_)); (first | with_reducible refine sx_region ?_ | ((with_reducible refine isK ?_); (first | refine svT F (h := ?_) | refine svF F (h := ?_) | ((refine svB F (fun hc => ?_) (fun hc => ?_)) <;> (try (exact no hc))))) | ((with_reducible refine isD ?_); fail) | with_reducible refine wp_scope_straight ?_ | with_reducible refine wp_label ?_ | go_step))))
  (all_goals ((first | refine svEnd F M ?_ | refine svRet F M ?_); exact ⟨_, _, rfl, ⟨rfl, rfl⟩, M.perms permsA⟩))
theorem of1 : Spec 229 [ptr b, .int .i64 1] (lnC b r0 r1 :: R) fun u L' => u = ptr r1 ∧ L' = lnC b r0 r1 :: R := by
  (intro G w M; refine sx_enter (vs := ([ptr b, .int .i64 1] : List Value)) Tryz.func229 (n := 21) rfl rfl rfl rfl ?_; intro a F; (try simp only [List.cons_append, List.nil_append] at M))
  (repeat' (first | (refine sx_nil ?_; (try (replace F := F.filt [0, 1, 4, 14] rfl))) | (refine sv1 F M (h := ?_); clear F a; intro a F) | refine pv1 (h := ?_) | (refine sv3 F M (h := ?_); clear M; intro w M) | (refine sv2 F M (h := ?_); clear F M a; intro nb a w F M) | refine pv3 (h := ?_) | (refine pv2 (h := ?_); intro nb) | ((first | refine svC F M (h := ?_) | refine svC0 F M (h := ?_) | refine pvC (h := ?_) | refine pvC0 (h := ?_)); (fail); (first | refine ⟨rvsA, ?_⟩ | (clear F M a; intro a w F M) | (clear M; intro w M))) | (refine svK F (h := ?_); clear F a; intro a F) | refine svK0 F (h := ?_) | ((refine sx_guardb F rfl (fun hg => ?_) (fun hg => ?_)) <;> (rw [hg] at F; (try (exact no hg)))) | (refine pvF (h := ?_); intro nb) | refine pvK (h := ?_) | refine pvK0 (h := ?_) | (refine pv_nil ?_; intro a w F M; (try (replace F := F.filt [0, 1, 4, 14] rfl))) | ((fail_if_success (with_reducible first | refine isW ?_ | refine isP ?_ | refine isL ?_)); (first | with_reducible refine sx_region ?_ | ((with_reducible refine isK ?_); (first | refine svT F (h := ?_) | refine svF F (h := ?_) | ((refine svB F (fun hc => ?_) (fun hc => ?_)) <;> (try (exact no hc))))) | ((with_reducible refine isD ?_); fail) | with_reducible refine wp_scope_straight ?_ | with_reducible refine wp_label ?_ | go_step))))
  (all_goals ((first | refine svEnd F M ?_ | refine svRet F M ?_); exact ⟨_, _, rfl, ⟨rfl, rfl⟩, M.perms permsA⟩))
theorem class0 : Spec 161 [ptr b, .int .i64 0] (lnC b r0 r1 :: R) fun u L' => u = ptr r0 ∧ L' = lnC b r0 r1 :: R := by
  (intro G w M; refine sx_enter (vs := ([ptr b, .int .i64 0] : List Value)) Tryz.func161 (n := 12) rfl rfl rfl rfl ?_; intro a F; (try simp only [List.cons_append, List.nil_append] at M))
  (repeat' (first | (refine sx_nil ?_; (try (replace F := F.filt [0, 1, 4, 6] rfl))) | (refine sv1 F M (h := ?_); clear F a; intro a F) | refine pv1 (h := ?_) | (refine sv3 F M (h := ?_); clear M; intro w M) | (refine sv2 F M (h := ?_); clear F M a; intro nb a w F M) | refine pv3 (h := ?_) | (refine pv2 (h := ?_); intro nb) | ((first | refine svC F M (h := ?_) | refine svC0 F M (h := ?_) | refine pvC (h := ?_) | refine pvC0 (h := ?_)); (((refine acK (k := 229) (of0 b r0 r1 _) ?_); rintro u L' ⟨rfl, rfl⟩)); (first | refine ⟨rvsA, ?_⟩ | (clear F M a; intro a w F M) | (clear M; intro w M))) | (refine svK F (h := ?_); clear F a; intro a F) | refine svK0 F (h := ?_) | ((refine sx_guardb F rfl (fun hg => ?_) (fun hg => ?_)) <;> (rw [hg] at F; (try (exact no hg)))) | (refine pvF (h := ?_); intro nb) | refine pvK (h := ?_) | refine pvK0 (h := ?_) | (refine pv_nil ?_; intro a w F M; (try (replace F := F.filt [0, 1, 4, 6] rfl))) | ((fail_if_success (with_reducible first | refine isW ?_ | refine isP ?_ | refine isL ?_)); (first | with_reducible refine sx_region ?_ | ((with_reducible refine isK ?_); (first | refine svT F (h := ?_) | refine svF F (h := ?_) | ((refine svB F (fun hc => ?_) (fun hc => ?_)) <;> (try (exact no hc))))) | ((with_reducible refine isD ?_); fail) | with_reducible refine wp_scope_straight ?_ | with_reducible refine wp_label ?_ | go_step))))
  (all_goals ((first | refine svEnd F M ?_ | refine svRet F M ?_); exact ⟨_, _, rfl, ⟨rfl, rfl⟩, M.perms permsA⟩))
theorem class1 : Spec 161 [ptr b, .int .i64 1] (lnC b r0 r1 :: R) fun u L' => u = ptr r1 ∧ L' = lnC b r0 r1 :: R := by
  (intro G w M; refine sx_enter (vs := ([ptr b, .int .i64 1] : List Value)) Tryz.func161 (n := 12) rfl rfl rfl rfl ?_; intro a F; (try simp only [List.cons_append, List.nil_append] at M))
  (repeat' (first | (refine sx_nil ?_; (try (replace F := F.filt [0, 1, 4, 6] rfl))) | (refine sv1 F M (h := ?_); clear F a; intro a F) | refine pv1 (h := ?_) | (refine sv3 F M (h := ?_); clear M; intro w M) | (refine sv2 F M (h := ?_); clear F M a; intro nb a w F M) | refine pv3 (h := ?_) | (refine pv2 (h := ?_); intro nb) | ((first | refine svC F M (h := ?_) | refine svC0 F M (h := ?_) | refine pvC (h := ?_) | refine pvC0 (h := ?_)); (((refine acK (k := 229) (of1 b r0 r1 _) ?_); rintro u L' ⟨rfl, rfl⟩)); (first | refine ⟨rvsA, ?_⟩ | (clear F M a; intro a w F M) | (clear M; intro w M))) | (refine svK F (h := ?_); clear F a; intro a F) | refine svK0 F (h := ?_) | ((refine sx_guardb F rfl (fun hg => ?_) (fun hg => ?_)) <;> (rw [hg] at F; (try (exact no hg)))) | (refine pvF (h := ?_); intro nb) | refine pvK (h := ?_) | refine pvK0 (h := ?_) | (refine pv_nil ?_; intro a w F M; (try (replace F := F.filt [0, 1, 4, 6] rfl))) | ((fail_if_success (with_reducible first | refine isW ?_ | refine isP ?_ | refine isL ?_)); (first | with_reducible refine sx_region ?_ | ((with_reducible refine isK ?_); (first | refine svT F (h := ?_) | refine svF F (h := ?_) | ((refine svB F (fun hc => ?_) (fun hc => ?_)) <;> (try (exact no hc))))) | ((with_reducible refine isD ?_); fail) | with_reducible refine wp_scope_straight ?_ | with_reducible refine wp_label ?_ | go_step))))
  (all_goals ((first | refine svEnd F M ?_ | refine svRet F M ?_); exact ⟨_, _, rfl, ⟨rfl, rfl⟩, M.perms permsA⟩))
end
section
variable (b r0 r1 size : Nat) (fo vo : List Nat) (R : List Asn)
theorem lall0 (hq : fo.length ≤ 4096) : Spec 81 [ptr b, .int .i64 0] (lnP b r0 r1 size fo vo R) fun u L' => ∃ h, u = sl h ∧ L' = ownT 3 natL 1 (sl h) fo :: lnP b r0 r1 size fo vo R := by
  (intro G w M; refine sx_enter (vs := ([ptr b, .int .i64 0] : List Value)) Tryz.func81 (n := 9) rfl rfl rfl rfl ?_; intro a F; (try simp only [List.cons_append, List.nil_append] at M))
  (repeat' (first | (refine sx_nil ?_; (try (replace F := F.filt [0, 1, 4] rfl))) | (refine sv1 F M (h := ?_); clear F a; intro a F) | refine pv1 (h := ?_) | (refine sv3 F M (h := ?_); clear M; intro w M) | (refine sv2 F M (h := ?_); clear F M a; intro nb a w F M) | refine pv3 (h := ?_) | (refine pv2 (h := ?_); intro nb) | ((first | refine svC F M (h := ?_) | refine svC0 F M (h := ?_) | refine pvC (h := ?_) | refine pvC0 (h := ?_)); ((first | ((refine acK (k := 161) (class0 b r0 r1 _) ?_); rintro u L' ⟨rfl, rfl⟩) | ((refine acK (k := 80) (rgn_all r0 size fo hq _) ?_); rintro u L' ⟨h, rfl, rfl⟩))); (first | refine ⟨rvsA, ?_⟩ | (clear F M a; intro a w F M) | (clear M; intro w M))) | (refine svK F (h := ?_); clear F a; intro a F) | refine svK0 F (h := ?_) | ((refine sx_guardb F rfl (fun hg => ?_) (fun hg => ?_)) <;> (rw [hg] at F; (try (exact no hg)))) | (refine pvF (h := ?_); intro nb) | refine pvK (h := ?_) | refine pvK0 (h := ?_) | (refine pv_nil ?_; intro a w F M; (try (replace F := F.filt [0, 1, 4] rfl))) | ((fail_if_success (with_reducible first | refine isW ?_ | refine isP ?_ | refine isL ?_)); (first | with_reducible refine sx_region ?_ | ((with_reducible refine isK ?_); (first | refine svT F (h := ?_) | refine svF F (h := ?_) | ((refine svB F (fun hc => ?_) (fun hc => ?_)) <;> (try (exact no hc))))) | ((with_reducible refine isD ?_); fail) | with_reducible refine wp_scope_straight ?_ | with_reducible refine wp_label ?_ | go_step))))
  (all_goals ((first | refine svEnd F M ?_ | refine svRet F M ?_); exact ⟨_, _, rfl, ⟨h, rfl, rfl⟩, M.perms permsA⟩))
theorem lall1 (hq : vo.length ≤ 4096) : Spec 81 [ptr b, .int .i64 1] (lnP b r0 r1 size fo vo R) fun u L' => ∃ h, u = sl h ∧ L' = ownT 3 natL 1 (sl h) vo :: lnP b r0 r1 size fo vo R := by
  (intro G w M; refine sx_enter (vs := ([ptr b, .int .i64 1] : List Value)) Tryz.func81 (n := 9) rfl rfl rfl rfl ?_; intro a F; (try simp only [List.cons_append, List.nil_append] at M))
  (repeat' (first | (refine sx_nil ?_; (try (replace F := F.filt [0, 1, 4] rfl))) | (refine sv1 F M (h := ?_); clear F a; intro a F) | refine pv1 (h := ?_) | (refine sv3 F M (h := ?_); clear M; intro w M) | (refine sv2 F M (h := ?_); clear F M a; intro nb a w F M) | refine pv3 (h := ?_) | (refine pv2 (h := ?_); intro nb) | ((first | refine svC F M (h := ?_) | refine svC0 F M (h := ?_) | refine pvC (h := ?_) | refine pvC0 (h := ?_)); ((first | ((refine acK (k := 161) (class1 b r0 r1 _) ?_); rintro u L' ⟨rfl, rfl⟩) | ((refine acK (k := 80) (rgn_all r1 size vo hq _) ?_); rintro u L' ⟨h, rfl, rfl⟩))); (first | refine ⟨rvsA, ?_⟩ | (clear F M a; intro a w F M) | (clear M; intro w M))) | (refine svK F (h := ?_); clear F a; intro a F) | refine svK0 F (h := ?_) | ((refine sx_guardb F rfl (fun hg => ?_) (fun hg => ?_)) <;> (rw [hg] at F; (try (exact no hg)))) | (refine pvF (h := ?_); intro nb) | refine pvK (h := ?_) | refine pvK0 (h := ?_) | (refine pv_nil ?_; intro a w F M; (try (replace F := F.filt [0, 1, 4] rfl))) | ((fail_if_success (with_reducible first | refine isW ?_ | refine isP ?_ | refine isL ?_)); (first | with_reducible refine sx_region ?_ | ((with_reducible refine isK ?_); (first | refine svT F (h := ?_) | refine svF F (h := ?_) | ((refine svB F (fun hc => ?_) (fun hc => ?_)) <;> (try (exact no hc))))) | ((with_reducible refine isD ?_); fail) | with_reducible refine wp_scope_straight ?_ | with_reducible refine wp_label ?_ | go_step))))
  (all_goals ((first | refine svEnd F M ?_ | refine svRet F M ?_); exact ⟨_, _, rfl, ⟨h, rfl, rfl⟩, M.perms permsA⟩))
end
end Go.Proofs.YtopbohbkhljjgaaGreat
end
section
namespace Go.Proofs.YtopbohbkhljjgaaGreat
open Go.RowKit
set_option linter.unusedVariables false
set_option maxRecDepth 100000
set_option linter.unusedSimpArgs false
set_option maxHeartbeats 4000000
abbrev En := Int × Nat
def bkE (len : Nat) (E : List En) (k : Nat) : List En := E.filter fun e => decide ((e.1 % (len : Int)).toNat = k)
abbrev bkF (x : SlH × List En) : Asn := ownT 297 enL 2 (sl x.1) x.2
structure BkZ where
  h : SlH
  B : List (SlH × List En)
structure BkOk (len : Nat) (E : List En) (z : BkZ) : Prop where
  l : z.B.length = len
  p : 1 ≤ len ∧ len ≤ 4096
  g : ∀ k x, z.B[k]? = some x → x.2 = bkE len E k
  s : E.length ≤ 5000
abbrev bkQ (b : Nat) (n : Int) (h : SlH) (hs : List SlH) (R : List Asn) : List Asn := pt b [sl h, .int .i64 n] 191 :: ownT 295 shL 1 (sl h) hs :: R
abbrev bkP (b : Nat) (n : Int) (z : BkZ) (R : List Asn) : List Asn := bkQ b n z.h (z.B.map (·.1)) (arrA bkF z.B :: R)
def bkA (b len : Nat) (E : List En) : Asn := exA fun z : BkZ => factA (BkOk len E z) :: bkP b E.length z []
theorem bk_open {w : World} {L : List Asn} {b len : Nat} {E : List En} (M : Mem w (bkA b len E :: L)) : ∃ z, BkOk len E z ∧ Mem w (bkP b E.length z L) := by
  obtain ⟨z, M⟩ := M.exo
  obtain ⟨h, M⟩ := Mem.factO M
  exact ⟨z, h, M⟩
theorem bk_close {w : World} {L : List Asn} {b len : Nat} {E : List En} {z : BkZ} (h : BkOk len E z) (M : Mem w (bkP b E.length z L)) : Mem w (bkA b len E :: L) := Mem.exc z (Mem.fact h M)
section
variable (b len : Nat) (E : List En) (R : List Asn)
theorem bk_new (hl : 1 ≤ len ∧ len ≤ 4096) : Spec 56 [.int .i64 len] R fun u L' => ∃ b, u = ptr b ∧ L' = bkA b len [] :: R := by
  obtain ⟨h1, h2⟩ := hl
  (intro G w M; refine sx_enter (vs := ([.int .i64 len] : List Value)) Tryz.func56 (n := 13) rfl rfl rfl rfl ?_; intro a F; (try simp only [List.cons_append, List.nil_append] at M))
  (repeat' (first | (refine sx_nil ?_; (try (replace F := F.filt [0, 2, 8] rfl))) | (refine sv1 F M (h := ?_); clear F a; intro a F) | refine pv1 (h := ?_) | (refine sv3 F M (h := ?_); clear M; intro w M) | (refine sv2 F M (h := ?_); clear F M a; intro nb a w F M) | refine pv3 (h := ?_) | (refine pv2 (h := ?_); intro nb) | ((first | refine svC F M (h := ?_) | refine svC0 F M (h := ?_) | refine pvC (h := ?_) | refine pvC0 (h := ?_)); ((refine ac_makeT (f := shL) inferInstance nilH rfl rfl inferInstance rfl (m := len) rfl rfl (by omega) (by omega) ?_; intro nm)); (first | refine ⟨rvsA, ?_⟩ | (clear F M a; intro a w F M) | (clear M; intro w M))) | (refine svK F (h := ?_); clear F a; intro a F) | refine svK0 F (h := ?_) | ((refine sx_guardb F rfl (fun hg => ?_) (fun hg => ?_)) <;> (rw [hg] at F; (try (exact no hg)))) | (refine pvF (h := ?_); intro nb) | refine pvK (h := ?_) | refine pvK0 (h := ?_) | (refine pv_nil ?_; intro a w F M; (try (replace F := F.filt [0, 2, 8] rfl))) | ((fail_if_success (with_reducible first | refine isW ?_ | refine isP ?_ | refine isL ?_)); (first | with_reducible refine sx_region ?_ | ((with_reducible refine isK ?_); (first | refine svT F (h := ?_) | refine svF F (h := ?_) | ((refine svB F (fun hc => ?_) (fun hc => ?_)) <;> (try (exact no hc))))) | ((with_reducible refine isD ?_); fail) | with_reducible refine wp_scope_straight ?_ | with_reducible refine wp_label ?_ | go_step))))
  all_goals (first | refine svEnd F M ?_ | refine svRet F M ?_)
  refine ⟨_, _, rfl, ⟨nb, rfl, rfl⟩, ?_⟩
  have M := arr_rep (f := bkF) (x := (nilH, [])) (fun M => M.own_nil 297 2) M len
  refine bk_close (z := ⟨⟨some ⟨nm, 0, none⟩, len, len⟩, List.replicate len (nilH, [])⟩) ⟨by simp, ⟨h1, h2⟩, fun k x hx => ?_, by simp⟩ (by simp only [List.map_replicate, bkP, bkQ]; exact M.perms permsA)
  dsimp only at hx
  rw [List.getElem?_replicate] at hx
  split at hx
  · obtain rfl := Option.some.inj hx; rfl
  · cases hx
theorem bk_len : Spec 86 [ptr b] (bkA b len E :: R) fun u L' => u = .int .i64 E.length ∧ L' = bkA b len E :: R := by
  intro G w M
  obtain ⟨z, hz, M2⟩ := bk_open (L := R ++ G) M
  clear M; have M := M2; clear M2
  (refine sx_enter (vs := ([ptr b] : List Value)) Tryz.func86 (n := 9) rfl rfl rfl rfl ?_; intro a F; (try simp only [List.cons_append, List.nil_append] at M))
  (repeat' (first | (refine sx_nil ?_; (try (replace F := F.filt [0, 2, 4] rfl))) | (refine sv1 F M (h := ?_); clear F a; intro a F) | refine pv1 (h := ?_) | (refine sv3 F M (h := ?_); clear M; intro w M) | (refine sv2 F M (h := ?_); clear F M a; intro nb a w F M) | refine pv3 (h := ?_) | (refine pv2 (h := ?_); intro nb) | ((first | refine svC F M (h := ?_) | refine svC0 F M (h := ?_) | refine pvC (h := ?_) | refine pvC0 (h := ?_)); (fail); (first | refine ⟨rvsA, ?_⟩ | (clear F M a; intro a w F M) | (clear M; intro w M))) | (refine svK F (h := ?_); clear F a; intro a F) | refine svK0 F (h := ?_) | ((refine sx_guardb F rfl (fun hg => ?_) (fun hg => ?_)) <;> (rw [hg] at F; (try (exact no hg)))) | (refine pvF (h := ?_); intro nb) | refine pvK (h := ?_) | refine pvK0 (h := ?_) | (refine pv_nil ?_; intro a w F M; (try (replace F := F.filt [0, 2, 4] rfl))) | ((fail_if_success (with_reducible first | refine isW ?_ | refine isP ?_ | refine isL ?_)); (first | with_reducible refine sx_region ?_ | ((with_reducible refine isK ?_); (first | refine svT F (h := ?_) | refine svF F (h := ?_) | ((refine svB F (fun hc => ?_) (fun hc => ?_)) <;> (try (exact no hc))))) | ((with_reducible refine isD ?_); fail) | with_reducible refine wp_scope_straight ?_ | with_reducible refine wp_label ?_ | go_step))))
  all_goals (first | refine svEnd F M ?_ | refine svRet F M ?_)
  exact ⟨_, _, rfl, ⟨rfl, rfl⟩, bk_close hz (M.perms permsA)⟩
end
end Go.Proofs.YtopbohbkhljjgaaGreat
end
