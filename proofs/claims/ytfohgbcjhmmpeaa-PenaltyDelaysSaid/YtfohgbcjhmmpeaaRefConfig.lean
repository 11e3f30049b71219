/- Contracts of the reference of package config. -/
import Derived.Test.YtfohgbcjhmmpeaaDefault
namespace Go.Proofs.Ytfohgbcjhmmpeaa
open Go.RowKit
set_option linter.unusedVariables false
def bt (n lo hi : Int) : Bool := decide (lo ≤ n) && decide (n ≤ hi)
theorem ret_b {p q : Bool} (h : p = q) : Ending.returned (.bool p) = .returned (.bool q) := by rw [h]
set_option maxHeartbeats 1000000 in
theorem between_any (n lo hi : Int) (w : World) : Calls Try.prog 41 #[.int .i64 n, .int .i64 lo, .int .i64 hi] w fun r w' => r = .returned (.bool (bt n lo hi)) ∧ w = w' := by
  by_cases h : lo ≤ n
  · have HI : Hid (bt n lo hi = decide (n ≤ hi)) := by simp [Hid, bt, h]
    have hd : decide (lo ≤ n) = true := by simpa using h
    go_enter Try.func41, Try.ntmps41
    go_wp2
    go_ret
    exact ⟨ret_b HI.out.symm, rfl⟩
  · have HI : Hid (bt n lo hi = false) := by simp [Hid, bt, h]
    have hd : decide (lo ≤ n) = false := by simpa using h
    go_enter Try.func41, Try.ntmps41
    go_wp2
    go_ret
    exact ⟨ret_b HI.out.symm, rfl⟩
def fieldB (c : Cfg) : Nat → Bool
  | 1 => bt c.capacity 1 4096
  | 2 => bt c.queueSize 1 4096
  | 3 => decide (1 ≤ c.minDeposit)
  | 4 => decide (c.minDeposit ≤ c.maxDeposit)
  | 5 => decide (c.maxDeposit ≤ c.supplyCap) && decide (c.supplyCap ≤ 1152921504606846976)
  | 6 => decide (1 ≤ c.minBalance) && decide (c.minBalance ≤ c.minDeposit)
  | 7 => decide (c.maxDeposit ≤ c.maxBalance) && decide (c.maxBalance ≤ c.supplyCap)
  | 8 => decide (1 ≤ c.minChurn) && decide (c.minChurn ≤ 1152921504606846976)
  | 9 => decide (1 ≤ c.quotient)
  | 10 => decide (c.forcedCap ≤ 1152921504606846976)
  | 11 => bt c.unbonding 1 1048576
  | 12 => decide (c.unbonding < c.slashDelay) && decide (c.slashDelay ≤ 1048576)
  | 13 => bt c.ringLen 1 4096
  | 14 => bt c.epochLen 1 4096
  | 15 => bt c.visits 1 4096
  | 16 => bt c.payments 1 4096
  | 17 => decide (0 ≤ c.partials) && decide (c.partials < c.visits) && decide (c.partials < c.payments)
  | 18 => bt c.merges 0 4096
  | 19 => decide (c.penNum ≤ c.penDen)
  | 20 => decide (1 ≤ c.penDen) && decide (c.penDen ≤ 4294967296)
  | _ => true
set_option maxHeartbeats 1000000
set_option maxRecDepth 100000
theorem right_1 (c : Cfg) (w : World) : Calls Try.prog 24 #[.agg c.cells, .int .i64 1] w fun r w' => r = .returned (.bool (fieldB c 1)) ∧ Below w.heap.size w w' := by
  have HI : Hid (fieldB c 1 = bt c.capacity 1 4096) := rfl; obtain ⟨k1, k2, k3, k4, k5, k6, k7, k8, k9, k10, k11, k12, k13, k14, k15, k16, k17, k18, k19, k20⟩ := c; unfold Cfg.cells; (try simp only [] at *); go_enter Try.func24, Try.ntmps24; go_wp2_with (go_at_call 41; refine (between_any _ _ _ _).mono ?_; rintro r w1 ⟨rfl, rfl⟩); go_ret; exact ⟨ret_b HI.out.symm, by (repeat (with_reducible first | exact Below.refl _ _ | refine Below.drew ?_ | refine Below.alloc ?_ (by first | omega | (simp <;> omega)) _))⟩
theorem right_2 (c : Cfg) (w : World) : Calls Try.prog 24 #[.agg c.cells, .int .i64 2] w fun r w' => r = .returned (.bool (fieldB c 2)) ∧ Below w.heap.size w w' := by
  have HI : Hid (fieldB c 2 = bt c.queueSize 1 4096) := rfl; obtain ⟨k1, k2, k3, k4, k5, k6, k7, k8, k9, k10, k11, k12, k13, k14, k15, k16, k17, k18, k19, k20⟩ := c; unfold Cfg.cells; (try simp only [] at *); go_enter Try.func24, Try.ntmps24; go_wp2_with (go_at_call 41; refine (between_any _ _ _ _).mono ?_; rintro r w1 ⟨rfl, rfl⟩); go_ret; exact ⟨ret_b HI.out.symm, by (repeat (with_reducible first | exact Below.refl _ _ | refine Below.drew ?_ | refine Below.alloc ?_ (by first | omega | (simp <;> omega)) _))⟩
theorem right_3 (c : Cfg) (w : World) : Calls Try.prog 24 #[.agg c.cells, .int .i64 3] w fun r w' => r = .returned (.bool (fieldB c 3)) ∧ Below w.heap.size w w' := by
  have HI : Hid (fieldB c 3 = decide (1 ≤ c.minDeposit)) := rfl; obtain ⟨k1, k2, k3, k4, k5, k6, k7, k8, k9, k10, k11, k12, k13, k14, k15, k16, k17, k18, k19, k20⟩ := c; unfold Cfg.cells; (try simp only [] at *); go_enter Try.func24, Try.ntmps24; go_wp2_with (go_at_call 41; refine (between_any _ _ _ _).mono ?_; rintro r w1 ⟨rfl, rfl⟩); go_ret; exact ⟨ret_b HI.out.symm, by (repeat (with_reducible first | exact Below.refl _ _ | refine Below.drew ?_ | refine Below.alloc ?_ (by first | omega | (simp <;> omega)) _))⟩
theorem right_4 (c : Cfg) (w : World) : Calls Try.prog 24 #[.agg c.cells, .int .i64 4] w fun r w' => r = .returned (.bool (fieldB c 4)) ∧ Below w.heap.size w w' := by
  have HI : Hid (fieldB c 4 = decide (c.minDeposit ≤ c.maxDeposit)) := rfl; obtain ⟨k1, k2, k3, k4, k5, k6, k7, k8, k9, k10, k11, k12, k13, k14, k15, k16, k17, k18, k19, k20⟩ := c; unfold Cfg.cells; (try simp only [] at *); go_enter Try.func24, Try.ntmps24; go_wp2_with (go_at_call 41; refine (between_any _ _ _ _).mono ?_; rintro r w1 ⟨rfl, rfl⟩); go_ret; exact ⟨ret_b HI.out.symm, by (repeat (with_reducible first | exact Below.refl _ _ | refine Below.drew ?_ | refine Below.alloc ?_ (by first | omega | (simp <;> omega)) _))⟩
theorem right_5 (c : Cfg) (w : World) : Calls Try.prog 24 #[.agg c.cells, .int .i64 5] w fun r w' => r = .returned (.bool (fieldB c 5)) ∧ Below w.heap.size w w' := by
  by_cases h : c.maxDeposit ≤ c.supplyCap; (focus (have HI : Hid (fieldB c 5 = decide (c.supplyCap ≤ 1152921504606846976)) := (by simp [Hid, fieldB, h]); have hd : decide (c.maxDeposit ≤ c.supplyCap) = true := (by simpa using h); clear h; obtain ⟨k1, k2, k3, k4, k5, k6, k7, k8, k9, k10, k11, k12, k13, k14, k15, k16, k17, k18, k19, k20⟩ := c; unfold Cfg.cells; (try simp only [] at *); go_enter Try.func24, Try.ntmps24; go_wp2_with (go_at_call 41; refine (between_any _ _ _ _).mono ?_; rintro r w1 ⟨rfl, rfl⟩); go_ret; exact ⟨ret_b HI.out.symm, by (repeat (with_reducible first | exact Below.refl _ _ | refine Below.drew ?_ | refine Below.alloc ?_ (by first | omega | (simp <;> omega)) _))⟩)); (focus (have HI : Hid (fieldB c 5 = false) := (by simp [Hid, fieldB, h]); have hd : decide (c.maxDeposit ≤ c.supplyCap) = false := (by simpa using h); clear h; obtain ⟨k1, k2, k3, k4, k5, k6, k7, k8, k9, k10, k11, k12, k13, k14, k15, k16, k17, k18, k19, k20⟩ := c; unfold Cfg.cells; (try simp only [] at *); go_enter Try.func24, Try.ntmps24; go_wp2_with (go_at_call 41; refine (between_any _ _ _ _).mono ?_; rintro r w1 ⟨rfl, rfl⟩); go_ret; exact ⟨ret_b HI.out.symm, by (repeat (with_reducible first | exact Below.refl _ _ | refine Below.drew ?_ | refine Below.alloc ?_ (by first | omega | (simp <;> omega)) _))⟩))
theorem right_6 (c : Cfg) (w : World) : Calls Try.prog 24 #[.agg c.cells, .int .i64 6] w fun r w' => r = .returned (.bool (fieldB c 6)) ∧ Below w.heap.size w w' := by
  by_cases h : 1 ≤ c.minBalance; (focus (have HI : Hid (fieldB c 6 = decide (c.minBalance ≤ c.minDeposit)) := (by simp [Hid, fieldB, h]); have hd : decide (1 ≤ c.minBalance) = true := (by simpa using h); clear h; obtain ⟨k1, k2, k3, k4, k5, k6, k7, k8, k9, k10, k11, k12, k13, k14, k15, k16, k17, k18, k19, k20⟩ := c; unfold Cfg.cells; (try simp only [] at *); go_enter Try.func24, Try.ntmps24; go_wp2_with (go_at_call 41; refine (between_any _ _ _ _).mono ?_; rintro r w1 ⟨rfl, rfl⟩); go_ret; exact ⟨ret_b HI.out.symm, by (repeat (with_reducible first | exact Below.refl _ _ | refine Below.drew ?_ | refine Below.alloc ?_ (by first | omega | (simp <;> omega)) _))⟩)); (focus (have HI : Hid (fieldB c 6 = false) := (by simp [Hid, fieldB, h]); have hd : decide (1 ≤ c.minBalance) = false := (by simpa using h); clear h; obtain ⟨k1, k2, k3, k4, k5, k6, k7, k8, k9, k10, k11, k12, k13, k14, k15, k16, k17, k18, k19, k20⟩ := c; unfold Cfg.cells; (try simp only [] at *); go_enter Try.func24, Try.ntmps24; go_wp2_with (go_at_call 41; refine (between_any _ _ _ _).mono ?_; rintro r w1 ⟨rfl, rfl⟩); go_ret; exact ⟨ret_b HI.out.symm, by (repeat (with_reducible first | exact Below.refl _ _ | refine Below.drew ?_ | refine Below.alloc ?_ (by first | omega | (simp <;> omega)) _))⟩))
theorem right_7 (c : Cfg) (w : World) : Calls Try.prog 24 #[.agg c.cells, .int .i64 7] w fun r w' => r = .returned (.bool (fieldB c 7)) ∧ Below w.heap.size w w' := by
  by_cases h : c.maxDeposit ≤ c.maxBalance; (focus (have HI : Hid (fieldB c 7 = decide (c.maxBalance ≤ c.supplyCap)) := (by simp [Hid, fieldB, h]); have hd : decide (c.maxDeposit ≤ c.maxBalance) = true := (by simpa using h); clear h; obtain ⟨k1, k2, k3, k4, k5, k6, k7, k8, k9, k10, k11, k12, k13, k14, k15, k16, k17, k18, k19, k20⟩ := c; unfold Cfg.cells; (try simp only [] at *); go_enter Try.func24, Try.ntmps24; go_wp2_with (go_at_call 41; refine (between_any _ _ _ _).mono ?_; rintro r w1 ⟨rfl, rfl⟩); go_ret; exact ⟨ret_b HI.out.symm, by (repeat (with_reducible first | exact Below.refl _ _ | refine Below.drew ?_ | refine Below.alloc ?_ (by first | omega | (simp <;> omega)) _))⟩)); (focus (have HI : Hid (fieldB c 7 = false) := (by simp [Hid, fieldB, h]); have hd : decide (c.maxDeposit ≤ c.maxBalance) = false := (by simpa using h); clear h; obtain ⟨k1, k2, k3, k4, k5, k6, k7, k8, k9, k10, k11, k12, k13, k14, k15, k16, k17, k18, k19, k20⟩ := c; unfold Cfg.cells; (try simp only [] at *); go_enter Try.func24, Try.ntmps24; go_wp2_with (go_at_call 41; refine (between_any _ _ _ _).mono ?_; rintro r w1 ⟨rfl, rfl⟩); go_ret; exact ⟨ret_b HI.out.symm, by (repeat (with_reducible first | exact Below.refl _ _ | refine Below.drew ?_ | refine Below.alloc ?_ (by first | omega | (simp <;> omega)) _))⟩))
theorem right_8 (c : Cfg) (w : World) : Calls Try.prog 24 #[.agg c.cells, .int .i64 8] w fun r w' => r = .returned (.bool (fieldB c 8)) ∧ Below w.heap.size w w' := by
  by_cases h : 1 ≤ c.minChurn; (focus (have HI : Hid (fieldB c 8 = decide (c.minChurn ≤ 1152921504606846976)) := (by simp [Hid, fieldB, h]); have hd : decide (1 ≤ c.minChurn) = true := (by simpa using h); clear h; obtain ⟨k1, k2, k3, k4, k5, k6, k7, k8, k9, k10, k11, k12, k13, k14, k15, k16, k17, k18, k19, k20⟩ := c; unfold Cfg.cells; (try simp only [] at *); go_enter Try.func24, Try.ntmps24; go_wp2_with (go_at_call 41; refine (between_any _ _ _ _).mono ?_; rintro r w1 ⟨rfl, rfl⟩); go_ret; exact ⟨ret_b HI.out.symm, by (repeat (with_reducible first | exact Below.refl _ _ | refine Below.drew ?_ | refine Below.alloc ?_ (by first | omega | (simp <;> omega)) _))⟩)); (focus (have HI : Hid (fieldB c 8 = false) := (by simp [Hid, fieldB, h]); have hd : decide (1 ≤ c.minChurn) = false := (by simpa using h); clear h; obtain ⟨k1, k2, k3, k4, k5, k6, k7, k8, k9, k10, k11, k12, k13, k14, k15, k16, k17, k18, k19, k20⟩ := c; unfold Cfg.cells; (try simp only [] at *); go_enter Try.func24, Try.ntmps24; go_wp2_with (go_at_call 41; refine (between_any _ _ _ _).mono ?_; rintro r w1 ⟨rfl, rfl⟩); go_ret; exact ⟨ret_b HI.out.symm, by (repeat (with_reducible first | exact Below.refl _ _ | refine Below.drew ?_ | refine Below.alloc ?_ (by first | omega | (simp <;> omega)) _))⟩))
theorem right_9 (c : Cfg) (w : World) : Calls Try.prog 24 #[.agg c.cells, .int .i64 9] w fun r w' => r = .returned (.bool (fieldB c 9)) ∧ Below w.heap.size w w' := by
  have HI : Hid (fieldB c 9 = decide (1 ≤ c.quotient)) := rfl; obtain ⟨k1, k2, k3, k4, k5, k6, k7, k8, k9, k10, k11, k12, k13, k14, k15, k16, k17, k18, k19, k20⟩ := c; unfold Cfg.cells; (try simp only [] at *); go_enter Try.func24, Try.ntmps24; go_wp2_with (go_at_call 41; refine (between_any _ _ _ _).mono ?_; rintro r w1 ⟨rfl, rfl⟩); go_ret; exact ⟨ret_b HI.out.symm, by (repeat (with_reducible first | exact Below.refl _ _ | refine Below.drew ?_ | refine Below.alloc ?_ (by first | omega | (simp <;> omega)) _))⟩
theorem right_10 (c : Cfg) (w : World) : Calls Try.prog 24 #[.agg c.cells, .int .i64 10] w fun r w' => r = .returned (.bool (fieldB c 10)) ∧ Below w.heap.size w w' := by
  have HI : Hid (fieldB c 10 = decide (c.forcedCap ≤ 1152921504606846976)) := rfl; obtain ⟨k1, k2, k3, k4, k5, k6, k7, k8, k9, k10, k11, k12, k13, k14, k15, k16, k17, k18, k19, k20⟩ := c; unfold Cfg.cells; (try simp only [] at *); go_enter Try.func24, Try.ntmps24; go_wp2_with (go_at_call 41; refine (between_any _ _ _ _).mono ?_; rintro r w1 ⟨rfl, rfl⟩); go_ret; exact ⟨ret_b HI.out.symm, by (repeat (with_reducible first | exact Below.refl _ _ | refine Below.drew ?_ | refine Below.alloc ?_ (by first | omega | (simp <;> omega)) _))⟩
theorem right_11 (c : Cfg) (w : World) : Calls Try.prog 24 #[.agg c.cells, .int .i64 11] w fun r w' => r = .returned (.bool (fieldB c 11)) ∧ Below w.heap.size w w' := by
  have HI : Hid (fieldB c 11 = bt c.unbonding 1 1048576) := rfl; obtain ⟨k1, k2, k3, k4, k5, k6, k7, k8, k9, k10, k11, k12, k13, k14, k15, k16, k17, k18, k19, k20⟩ := c; unfold Cfg.cells; (try simp only [] at *); go_enter Try.func24, Try.ntmps24; go_wp2_with (go_at_call 41; refine (between_any _ _ _ _).mono ?_; rintro r w1 ⟨rfl, rfl⟩); go_ret; exact ⟨ret_b HI.out.symm, by (repeat (with_reducible first | exact Below.refl _ _ | refine Below.drew ?_ | refine Below.alloc ?_ (by first | omega | (simp <;> omega)) _))⟩
theorem right_12 (c : Cfg) (w : World) : Calls Try.prog 24 #[.agg c.cells, .int .i64 12] w fun r w' => r = .returned (.bool (fieldB c 12)) ∧ Below w.heap.size w w' := by
  by_cases h : c.unbonding < c.slashDelay; (focus (have HI : Hid (fieldB c 12 = decide (c.slashDelay ≤ 1048576)) := (by simp [Hid, fieldB, h]); have hd : decide (c.unbonding < c.slashDelay) = true := (by simpa using h); clear h; obtain ⟨k1, k2, k3, k4, k5, k6, k7, k8, k9, k10, k11, k12, k13, k14, k15, k16, k17, k18, k19, k20⟩ := c; unfold Cfg.cells; (try simp only [] at *); go_enter Try.func24, Try.ntmps24; go_wp2_with (go_at_call 41; refine (between_any _ _ _ _).mono ?_; rintro r w1 ⟨rfl, rfl⟩); go_ret; exact ⟨ret_b HI.out.symm, by (repeat (with_reducible first | exact Below.refl _ _ | refine Below.drew ?_ | refine Below.alloc ?_ (by first | omega | (simp <;> omega)) _))⟩)); (focus (have HI : Hid (fieldB c 12 = false) := (by simp [Hid, fieldB, h]); have hd : decide (c.unbonding < c.slashDelay) = false := (by simpa using h); clear h; obtain ⟨k1, k2, k3, k4, k5, k6, k7, k8, k9, k10, k11, k12, k13, k14, k15, k16, k17, k18, k19, k20⟩ := c; unfold Cfg.cells; (try simp only [] at *); go_enter Try.func24, Try.ntmps24; go_wp2_with (go_at_call 41; refine (between_any _ _ _ _).mono ?_; rintro r w1 ⟨rfl, rfl⟩); go_ret; exact ⟨ret_b HI.out.symm, by (repeat (with_reducible first | exact Below.refl _ _ | refine Below.drew ?_ | refine Below.alloc ?_ (by first | omega | (simp <;> omega)) _))⟩))
theorem right_13 (c : Cfg) (w : World) : Calls Try.prog 24 #[.agg c.cells, .int .i64 13] w fun r w' => r = .returned (.bool (fieldB c 13)) ∧ Below w.heap.size w w' := by
  have HI : Hid (fieldB c 13 = bt c.ringLen 1 4096) := rfl; obtain ⟨k1, k2, k3, k4, k5, k6, k7, k8, k9, k10, k11, k12, k13, k14, k15, k16, k17, k18, k19, k20⟩ := c; unfold Cfg.cells; (try simp only [] at *); go_enter Try.func24, Try.ntmps24; go_wp2_with (go_at_call 41; refine (between_any _ _ _ _).mono ?_; rintro r w1 ⟨rfl, rfl⟩); go_ret; exact ⟨ret_b HI.out.symm, by (repeat (with_reducible first | exact Below.refl _ _ | refine Below.drew ?_ | refine Below.alloc ?_ (by first | omega | (simp <;> omega)) _))⟩
theorem right_14 (c : Cfg) (w : World) : Calls Try.prog 24 #[.agg c.cells, .int .i64 14] w fun r w' => r = .returned (.bool (fieldB c 14)) ∧ Below w.heap.size w w' := by
  have HI : Hid (fieldB c 14 = bt c.epochLen 1 4096) := rfl; obtain ⟨k1, k2, k3, k4, k5, k6, k7, k8, k9, k10, k11, k12, k13, k14, k15, k16, k17, k18, k19, k20⟩ := c; unfold Cfg.cells; (try simp only [] at *); go_enter Try.func24, Try.ntmps24; go_wp2_with (go_at_call 41; refine (between_any _ _ _ _).mono ?_; rintro r w1 ⟨rfl, rfl⟩); go_ret; exact ⟨ret_b HI.out.symm, by (repeat (with_reducible first | exact Below.refl _ _ | refine Below.drew ?_ | refine Below.alloc ?_ (by first | omega | (simp <;> omega)) _))⟩
theorem right_15 (c : Cfg) (w : World) : Calls Try.prog 24 #[.agg c.cells, .int .i64 15] w fun r w' => r = .returned (.bool (fieldB c 15)) ∧ Below w.heap.size w w' := by
  have HI : Hid (fieldB c 15 = bt c.visits 1 4096) := rfl; obtain ⟨k1, k2, k3, k4, k5, k6, k7, k8, k9, k10, k11, k12, k13, k14, k15, k16, k17, k18, k19, k20⟩ := c; unfold Cfg.cells; (try simp only [] at *); go_enter Try.func24, Try.ntmps24; go_wp2_with (go_at_call 41; refine (between_any _ _ _ _).mono ?_; rintro r w1 ⟨rfl, rfl⟩); go_ret; exact ⟨ret_b HI.out.symm, by (repeat (with_reducible first | exact Below.refl _ _ | refine Below.drew ?_ | refine Below.alloc ?_ (by first | omega | (simp <;> omega)) _))⟩
theorem right_16 (c : Cfg) (w : World) : Calls Try.prog 24 #[.agg c.cells, .int .i64 16] w fun r w' => r = .returned (.bool (fieldB c 16)) ∧ Below w.heap.size w w' := by
  have HI : Hid (fieldB c 16 = bt c.payments 1 4096) := rfl; obtain ⟨k1, k2, k3, k4, k5, k6, k7, k8, k9, k10, k11, k12, k13, k14, k15, k16, k17, k18, k19, k20⟩ := c; unfold Cfg.cells; (try simp only [] at *); go_enter Try.func24, Try.ntmps24; go_wp2_with (go_at_call 41; refine (between_any _ _ _ _).mono ?_; rintro r w1 ⟨rfl, rfl⟩); go_ret; exact ⟨ret_b HI.out.symm, by (repeat (with_reducible first | exact Below.refl _ _ | refine Below.drew ?_ | refine Below.alloc ?_ (by first | omega | (simp <;> omega)) _))⟩
theorem right_18 (c : Cfg) (w : World) : Calls Try.prog 24 #[.agg c.cells, .int .i64 18] w fun r w' => r = .returned (.bool (fieldB c 18)) ∧ Below w.heap.size w w' := by
  have HI : Hid (fieldB c 18 = bt c.merges 0 4096) := rfl; obtain ⟨k1, k2, k3, k4, k5, k6, k7, k8, k9, k10, k11, k12, k13, k14, k15, k16, k17, k18, k19, k20⟩ := c; unfold Cfg.cells; (try simp only [] at *); go_enter Try.func24, Try.ntmps24; go_wp2_with (go_at_call 41; refine (between_any _ _ _ _).mono ?_; rintro r w1 ⟨rfl, rfl⟩); go_ret; exact ⟨ret_b HI.out.symm, by (repeat (with_reducible first | exact Below.refl _ _ | refine Below.drew ?_ | refine Below.alloc ?_ (by first | omega | (simp <;> omega)) _))⟩
theorem right_19 (c : Cfg) (w : World) : Calls Try.prog 24 #[.agg c.cells, .int .i64 19] w fun r w' => r = .returned (.bool (fieldB c 19)) ∧ Below w.heap.size w w' := by
  have HI : Hid (fieldB c 19 = decide (c.penNum ≤ c.penDen)) := rfl; obtain ⟨k1, k2, k3, k4, k5, k6, k7, k8, k9, k10, k11, k12, k13, k14, k15, k16, k17, k18, k19, k20⟩ := c; unfold Cfg.cells; (try simp only [] at *); go_enter Try.func24, Try.ntmps24; go_wp2_with (go_at_call 41; refine (between_any _ _ _ _).mono ?_; rintro r w1 ⟨rfl, rfl⟩); go_ret; exact ⟨ret_b HI.out.symm, by (repeat (with_reducible first | exact Below.refl _ _ | refine Below.drew ?_ | refine Below.alloc ?_ (by first | omega | (simp <;> omega)) _))⟩
theorem right_20 (c : Cfg) (w : World) : Calls Try.prog 24 #[.agg c.cells, .int .i64 20] w fun r w' => r = .returned (.bool (fieldB c 20)) ∧ Below w.heap.size w w' := by
  by_cases h : 1 ≤ c.penDen; (focus (have HI : Hid (fieldB c 20 = decide (c.penDen ≤ 4294967296)) := (by simp [Hid, fieldB, h]); have hd : decide (1 ≤ c.penDen) = true := (by simpa using h); clear h; obtain ⟨k1, k2, k3, k4, k5, k6, k7, k8, k9, k10, k11, k12, k13, k14, k15, k16, k17, k18, k19, k20⟩ := c; unfold Cfg.cells; (try simp only [] at *); go_enter Try.func24, Try.ntmps24; go_wp2_with (go_at_call 41; refine (between_any _ _ _ _).mono ?_; rintro r w1 ⟨rfl, rfl⟩); go_ret; exact ⟨ret_b HI.out.symm, by (repeat (with_reducible first | exact Below.refl _ _ | refine Below.drew ?_ | refine Below.alloc ?_ (by first | omega | (simp <;> omega)) _))⟩)); (focus (have HI : Hid (fieldB c 20 = false) := (by simp [Hid, fieldB, h]); have hd : decide (1 ≤ c.penDen) = false := (by simpa using h); clear h; obtain ⟨k1, k2, k3, k4, k5, k6, k7, k8, k9, k10, k11, k12, k13, k14, k15, k16, k17, k18, k19, k20⟩ := c; unfold Cfg.cells; (try simp only [] at *); go_enter Try.func24, Try.ntmps24; go_wp2_with (go_at_call 41; refine (between_any _ _ _ _).mono ?_; rintro r w1 ⟨rfl, rfl⟩); go_ret; exact ⟨ret_b HI.out.symm, by (repeat (with_reducible first | exact Below.refl _ _ | refine Below.drew ?_ | refine Below.alloc ?_ (by first | omega | (simp <;> omega)) _))⟩))
theorem right_17 (c : Cfg) (w : World) : Calls Try.prog 24 #[.agg c.cells, .int .i64 17] w fun r w' => r = .returned (.bool (fieldB c 17)) ∧ Below w.heap.size w w' := by
  by_cases h : 0 ≤ c.partials
  · by_cases h2 : c.partials < c.visits
    · have HI : Hid (fieldB c 17 = decide (c.partials < c.payments)) := by simp [Hid, fieldB, h, h2]
      have hd : decide (0 ≤ c.partials) = true := by simpa using h
      have hd2 : decide (c.partials < c.visits) = true := by simpa using h2
      clear h h2
      obtain ⟨k1, k2, k3, k4, k5, k6, k7, k8, k9, k10, k11, k12, k13, k14, k15, k16, k17, k18, k19, k20⟩ := c; unfold Cfg.cells; (try simp only [] at *); go_enter Try.func24, Try.ntmps24; go_wp2_with (go_at_call 41; refine (between_any _ _ _ _).mono ?_; rintro r w1 ⟨rfl, rfl⟩)
      go_ret; exact ⟨ret_b HI.out.symm, by (repeat (with_reducible first | exact Below.refl _ _ | refine Below.drew ?_ | refine Below.alloc ?_ (by first | omega | (simp <;> omega)) _))⟩
    · have HI : Hid (fieldB c 17 = false) := by simp [Hid, fieldB, h, h2]
      have hd : decide (0 ≤ c.partials) = true := by simpa using h
      have hd2 : decide (c.partials < c.visits) = false := by simpa using h2
      clear h h2
      obtain ⟨k1, k2, k3, k4, k5, k6, k7, k8, k9, k10, k11, k12, k13, k14, k15, k16, k17, k18, k19, k20⟩ := c; unfold Cfg.cells; (try simp only [] at *); go_enter Try.func24, Try.ntmps24; go_wp2_with (go_at_call 41; refine (between_any _ _ _ _).mono ?_; rintro r w1 ⟨rfl, rfl⟩)
      go_ret; exact ⟨ret_b HI.out.symm, by (repeat (with_reducible first | exact Below.refl _ _ | refine Below.drew ?_ | refine Below.alloc ?_ (by first | omega | (simp <;> omega)) _))⟩
  · have HI : Hid (fieldB c 17 = false) := by simp [Hid, fieldB, h]
    have hd : decide (0 ≤ c.partials) = false := by simpa using h
    clear h
    obtain ⟨k1, k2, k3, k4, k5, k6, k7, k8, k9, k10, k11, k12, k13, k14, k15, k16, k17, k18, k19, k20⟩ := c; unfold Cfg.cells; (try simp only [] at *); go_enter Try.func24, Try.ntmps24; go_wp2_with (go_at_call 41; refine (between_any _ _ _ _).mono ?_; rintro r w1 ⟨rfl, rfl⟩)
    go_ret; exact ⟨ret_b HI.out.symm, by (repeat (with_reducible first | exact Below.refl _ _ | refine Below.drew ?_ | refine Below.alloc ?_ (by first | omega | (simp <;> omega)) _))⟩
theorem right_any (c : Cfg) (i : Nat) (h1 : 1 ≤ i) (h2 : i ≤ 20) (w : World) : Calls Try.prog 24 #[.agg c.cells, .int .i64 i] w fun r w' => r = .returned (.bool (fieldB c i)) ∧ Below w.heap.size w w' := by
  have h : i = 1 ∨ i = 2 ∨ i = 3 ∨ i = 4 ∨ i = 5 ∨ i = 6 ∨ i = 7 ∨ i = 8 ∨ i = 9 ∨ i = 10 ∨ i = 11 ∨ i = 12 ∨ i = 13 ∨ i = 14 ∨ i = 15 ∨ i = 16 ∨ i = 17 ∨ i = 18 ∨ i = 19 ∨ i = 20 := by omega
  rcases h with rfl | rfl | rfl | rfl | rfl | rfl | rfl | rfl | rfl | rfl | rfl | rfl | rfl | rfl | rfl | rfl | rfl | rfl | rfl | rfl
  · rw [show ((1 : Nat) : Int) = 1 from rfl]; exact right_1 c w
  · rw [show ((2 : Nat) : Int) = 2 from rfl]; exact right_2 c w
  · rw [show ((3 : Nat) : Int) = 3 from rfl]; exact right_3 c w
  · rw [show ((4 : Nat) : Int) = 4 from rfl]; exact right_4 c w
  · rw [show ((5 : Nat) : Int) = 5 from rfl]; exact right_5 c w
  · rw [show ((6 : Nat) : Int) = 6 from rfl]; exact right_6 c w
  · rw [show ((7 : Nat) : Int) = 7 from rfl]; exact right_7 c w
  · rw [show ((8 : Nat) : Int) = 8 from rfl]; exact right_8 c w
  · rw [show ((9 : Nat) : Int) = 9 from rfl]; exact right_9 c w
  · rw [show ((10 : Nat) : Int) = 10 from rfl]; exact right_10 c w
  · rw [show ((11 : Nat) : Int) = 11 from rfl]; exact right_11 c w
  · rw [show ((12 : Nat) : Int) = 12 from rfl]; exact right_12 c w
  · rw [show ((13 : Nat) : Int) = 13 from rfl]; exact right_13 c w
  · rw [show ((14 : Nat) : Int) = 14 from rfl]; exact right_14 c w
  · rw [show ((15 : Nat) : Int) = 15 from rfl]; exact right_15 c w
  · rw [show ((16 : Nat) : Int) = 16 from rfl]; exact right_16 c w
  · rw [show ((17 : Nat) : Int) = 17 from rfl]; exact right_17 c w
  · rw [show ((18 : Nat) : Int) = 18 from rfl]; exact right_18 c w
  · rw [show ((19 : Nat) : Int) = 19 from rfl]; exact right_19 c w
  · rw [show ((20 : Nat) : Int) = 20 from rfl]; exact right_20 c w
/-- The first field from i on, of n, that is wrong, or 0. -/
def checkGo (c : Cfg) : Nat → Nat → Nat
  | 0, _ => 0
  | n + 1, i => if fieldB c i then checkGo c n (i + 1) else i
def checkF (c : Cfg) : Nat := checkGo c 20 1
theorem ret_i {k : IntKind} {x y : Int} (h : x = y) : Ending.returned (.int k x) = .returned (.int k y) := by rw [h]
theorem checkF_zero {c : Cfg} (h : checkF c = 0) : ∀ i, 1 ≤ i → i ≤ 20 → fieldB c i = true := by
  have key : ∀ n i, checkGo c n i = 0 → 1 ≤ i → ∀ j, i ≤ j → j < i + n → fieldB c j = true := by
    intro n
    induction n with
    | zero => intro i _ _ j h1 h2; omega
    | succ n ih =>
      intro i hi h0 j h1 h2
      rw [checkGo] at hi
      by_cases hf : fieldB c i = true
      · rw [if_pos hf] at hi
        by_cases hj : j = i
        · rw [hj]; exact hf
        · exact ih (i + 1) hi (by omega) j (by omega) (by omega)
      · rw [if_neg hf] at hi; omega
  intro i h1 h2
  exact key 20 1 h (by omega) i h1 (by omega)
theorem cfg_cell {w : World} {b : Nat} {c : Cfg} (h : BlockIs w b c.cells 30) : ∀ j (hj : j < 20), w.cell? ⟨b, j, none⟩ = some (c.cells[j]'(by simpa [Cfg.cells] using hj)) := fun j hj => h.cell (by rw [Array.getElem?_eq_getElem])
set_option maxHeartbeats 1000000 in
theorem rCheck_any (c : Cfg) (w : World) : Calls Try.prog 12 #[.agg c.cells] w fun r w' => r = .returned (.int .i64 (checkF c)) ∧ Below w.heap.size w w' := by
  have HR := Lib.hid (fun i h1 h2 w => right_any c i h1 h2 w)
  have hs : checkF c = checkGo c (21 - 1) 1 := rfl
  have hb := BlockIs.new w c.cells 30
  have HS := Lib.hid hs
  have HB := Lib.hid hb
  have HZ := Lib.hid (cfg_size c)
  clear hs hb
  have HCG : ∀ n k, n + 1 = 21 - k → checkGo c (21 - k) k = if fieldB c k then checkGo c n (k + 1) else k := fun n k h => by rw [← h]; rfl
  have HCH := Lib.hid HCG
  clear HCG
  generalize checkF c = R at *
  generalize c.cells = cs at *
  go_enter Try.func12, Try.ntmps12
  go_wp2
  go_loopw [3] (fun i wr => ∃ k : Nat, 1 ≤ k ∧ k ≤ 21 ∧ i = .int .i64 k ∧ Hid (R = checkGo c (21 - k) k) ∧ Hid (BlockIs wr w.heap.size cs 30) ∧ Below w.heap.size w wr) (fun i _ => (21 - intOf i).toNat)
  case atStart => exact ⟨1, by omega, by omega, rfl, HS, HB, by (repeat (with_reducible first | exact Below.refl _ _ | refine Below.drew ?_ | refine Below.alloc ?_ (by first | omega | (simp <;> omega)) _))⟩
  case round =>
    obtain ⟨k, hk1, hk2, rfl, HK, HW, hbel⟩ := hrel
    clear HS HB
    by_cases hlt : k ≤ 20
    · go_wp2_with (first | (go_at_call 24; fail) | ((with_reducible refine wpList_load_row ?_ 30 (.tmp 1) ?_ w.heap.size ?_ 30 cs (0, 0) _ ?_ Try.underlying30 rfl HZ.out ?_); (focus rfl); (focus rfl); (focus rfl); (focus exact HW.out)))
      refine (HR.out k hk1 hlt _).mono ?_
      rintro r w1 ⟨rfl, hb1⟩
      have HW1 : Hid (BlockIs w1 w.heap.size cs 30) := Lib.hid (HW.out.below hb1 HW.out.lt)
      have hbel1 : Below w.heap.size w w1 := hbel.trans (hb1.mono hbel.size)
      have HE := HCH.out (21 - (k + 1)) k (by omega)
      by_cases hf : fieldB c k = true
      · have HN : Hid (R = checkGo c (21 - (k + 1)) (k + 1)) := by
          have h1 := HK.out
          rw [HE, if_pos hf] at h1
          exact h1
        rw [hf]
        clear HK HE hf
        go_wp2
        go_roundw
        case rel => exact ⟨k + 1, by omega, by omega, by go_num, HN, HW1, hbel1⟩
        case measure => simp [intOf] <;> omega
      · have HN : Hid (R = k) := by
          have h1 := HK.out
          rw [HE, if_neg hf] at h1
          exact h1
        have hf' : fieldB c k = false := by simpa using hf
        rw [hf']
        clear HK HE hf hf'
        go_wp2
        go_ret
        exact ⟨ret_i (by rw [HN.out]), hbel1⟩
    · have HN : Hid (R = 0) := by
        have h1 := HK.out
        rw [show 21 - k = 0 by omega] at h1
        exact h1
      clear HK
      go_wp2
      go_ret
      exact ⟨ret_i (by rw [HN.out]; rfl), hbel⟩
end Go.Proofs.Ytfohgbcjhmmpeaa
