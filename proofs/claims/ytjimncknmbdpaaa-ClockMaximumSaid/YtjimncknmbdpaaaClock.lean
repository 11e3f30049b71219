/- Contracts of package clock. -/
import Derived.Test.YtjimncknmbdpaaaBase
namespace Go.Proofs.Ytjimncknmbdpaaa
open Go.RowKit
set_option maxHeartbeats 400000 in
theorem epochOf_zero (a n : Int) (w : World) (h : a < 0 ∨ n < 1) :
    Calls Try.prog 17 #[.int .i64 a, .int .i64 n] w fun e w' => e = .returned (.int .i64 0) ∧ w = w' := by
  rcases h with h | h
  · go_enter Try.func17, Try.ntmps17
    go_wp2
    go_ret
    exact ⟨rfl, rfl⟩
  · by_cases h0 : a < 0
    · go_enter Try.func17, Try.ntmps17
      go_wp2
      go_ret
      exact ⟨rfl, rfl⟩
    · go_enter Try.func17, Try.ntmps17
      go_wp2
      go_ret
      exact ⟨rfl, rfl⟩
set_option maxHeartbeats 400000 in
theorem epochOf_div (a n : Int) (w : World) (h : 0 ≤ a) (hn : 1 ≤ n) (hb : a ≤ 9223372036854775807) (hc : n ≤ 9223372036854775807) :
    Calls Try.prog 17 #[.int .i64 a, .int .i64 n] w fun e w' => e = .returned (.int .i64 (a / n)) ∧ w = w' := by
  go_enter Try.func17, Try.ntmps17
  go_wp2
  go_ret
  exact ⟨rfl, rfl⟩
set_option maxHeartbeats 400000 in
theorem new_none (n : Int) (w : World) (h : n < 1) :
    Calls Try.prog 9 #[.int .i64 n] w fun e w' => e = .returned (.pointer none) ∧ w = w' := by
  go_enter Try.func9, Try.ntmps9
  go_wp2
  go_ret
  exact ⟨rfl, rfl⟩
set_option maxHeartbeats 400000 in
theorem new_some (n : Int) (w : World) (h : 1 ≤ n) :
    Calls Try.prog 9 #[.int .i64 n] w fun e w' => e = .returned (.pointer (some ⟨w.heap.size, 0, none⟩)) ∧ w.alloc (.cells #[.int .i64 0, .int .i64 n] 44) = w' := by
  go_enter Try.func9, Try.ntmps9
  go_wp2
  go_ret
  exact ⟨rfl, rfl⟩
/-- A clock at block number b. -/
def IsClock (w : World) (b : Nat) (k n : Int) : Prop :=
  w.cell? ⟨b, 0, none⟩ = some (.int .i64 k) ∧ w.cell? ⟨b, 1, none⟩ = some (.int .i64 n) ∧ w.frozen? ⟨b, 0, none⟩ = false
theorem IsClock.below {w w' : World} {B b : Nat} {k n : Int} (h : IsClock w b k n) (hb : Below B w w') (hlt : b < B) : IsClock w' b k n :=
  ⟨by rw [hb.cell (p := ⟨b, 0, none⟩) hlt]; exact h.1, by rw [hb.cell (p := ⟨b, 1, none⟩) hlt]; exact h.2.1, by rw [hb.frozen (p := ⟨b, 0, none⟩) hlt]; exact h.2.2⟩
set_option maxHeartbeats 400000 in
theorem next_any (b : Nat) (k n : Int) (w : World) (h : IsClock w b k n) (hk : 0 ≤ k) (hk' : k < 9223372036854775807) :
    Calls Try.prog 23 #[.pointer (some ⟨b, 0, none⟩)] w fun e w' => e = .returned (.tuple #[]) ∧ w.setCell ⟨b, 0, none⟩ (.int .i64 (k + 1)) = w' := by
  obtain ⟨h0, h1, hf⟩ := h
  go_enter Try.func23, Try.ntmps23
  go_wp2
  go_end0
  exact ⟨rfl, rfl⟩
set_option maxHeartbeats 400000 in
theorem now_any (b : Nat) (k n : Int) (w : World) (h : IsClock w b k n) :
    Calls Try.prog 22 #[.pointer (some ⟨b, 0, none⟩)] w fun e w' => e = .returned (.int .i64 k) ∧ w = w' := by
  obtain ⟨h0, h1, hf⟩ := h
  go_enter Try.func22, Try.ntmps22
  go_wp2
  go_ret
  exact ⟨rfl, rfl⟩
set_option maxHeartbeats 400000 in
theorem tick_nil (w : World) :
    Calls Try.prog 13 #[.pointer none] w fun e w' => e = .returned (.bool false) ∧ w = w' := by
  go_enter Try.func13, Try.ntmps13
  go_wp2
  go_ret
  exact ⟨rfl, rfl⟩
set_option maxHeartbeats 400000 in
theorem tick_some (b : Nat) (k n : Int) (w : World) (h : IsClock w b k n) (hk : 0 ≤ k) (hk' : k < 9223372036854775807) (hn : 1 ≤ n) (hn' : n ≤ 9223372036854775807) :
    Calls Try.prog 13 #[.pointer (some ⟨b, 0, none⟩)] w fun e w' => e = .returned (.bool ((k + 1) % n == 0)) ∧ ∃ d, w' = (w.setCell ⟨b, 0, none⟩ (.int .i64 (k + 1))).drewN d := by
  obtain ⟨h0, h1, hf⟩ := h
  go_enter Try.func13, Try.ntmps13
  go_wp2_with (go_at_call 23; refine (next_any b k n _ ⟨h0, h1, hf⟩ hk hk').mono ?_; rintro e w' ⟨rfl, rfl⟩)
  have H0 : (w.setCell ⟨b, 0, none⟩ (.int .i64 (k + 1))).cell? ⟨b, 0, none⟩ = some (.int .i64 (k + 1)) := by go_simp
  have H1 : (w.setCell ⟨b, 0, none⟩ (.int .i64 (k + 1))).cell? ⟨b, 1, none⟩ = some (.int .i64 n) := by go_simp
  go_quiet ((go_at_call 22; exact quiet_eq (now_any b (k+1) n _ ⟨by go_simp, by go_simp, by go_simp⟩)))
  go_wp2
  go_ret
  exact ⟨rfl, _, rfl⟩
set_option maxHeartbeats 400000 in
theorem block_some (b : Nat) (k n : Int) (w : World) (h : IsClock w b k n) :
    Calls Try.prog 11 #[.pointer (some ⟨b, 0, none⟩)] w fun e w' => e = .returned (.int .i64 k) ∧ w = w' := by
  go_enter Try.func11, Try.ntmps11
  go_wp2_with (go_at_call 22; refine (now_any b k n _ h).mono ?_; rintro e w' ⟨rfl, rfl⟩)
  go_ret
  exact ⟨rfl, rfl⟩
set_option maxHeartbeats 400000 in
theorem epoch_some (b : Nat) (k n : Int) (w : World) (h : IsClock w b k n) (hk : 0 ≤ k) (hn : 1 ≤ n) (hk' : k ≤ 9223372036854775807) (hn' : n ≤ 9223372036854775807) :
    Calls Try.prog 12 #[.pointer (some ⟨b, 0, none⟩)] w fun e w' => e = .returned (.int .i64 (k / n)) ∧ ∃ d, w' = w.drewN d := by
  obtain ⟨h0, h1, hf⟩ := h
  go_enter Try.func12, Try.ntmps12
  go_wp2_with fail
  go_quiet ((first | (go_at_call 22; exact quiet_eq (now_any b k n _ ⟨by go_simp, by go_simp, by go_simp⟩)) | (go_at_call 17; exact quiet_eq (epochOf_div k n _ hk hn hk' hn'))))
  go_wp2
  go_ret
  exact ⟨rfl, _, rfl⟩
set_option maxHeartbeats 400000 in
theorem first_ok (a n : Int) (w : World) (h : 0 ≤ a) (h1 : a ≤ 1099511627776) (h2 : 1 ≤ n) (h3 : n ≤ 1048576) :
    Calls Try.prog 15 #[.int .i64 a, .int .i64 n] w fun e w' => e = .returned (.tuple #[.int .i64 (a * n), .bool true]) ∧ w = w' := by
  have hm : a * n ≤ 1099511627776 * 1048576 := Int.mul_le_mul h1 h3 (by omega) (by omega)
  have hm0 : 0 ≤ a * n := Int.mul_nonneg h (by omega)
  go_enter Try.func15, Try.ntmps15
  go_wp2
  go_ret2
  exact ⟨rfl, rfl⟩
set_option maxHeartbeats 400000 in
theorem first_no (a n : Int) (w : World) (h : a < 0 ∨ 1099511627776 < a ∨ n < 1 ∨ 1048576 < n) :
    Calls Try.prog 15 #[.int .i64 a, .int .i64 n] w fun e w' => e = .returned (.tuple #[.int .i64 0, .bool false]) ∧ w = w' := by
  by_cases h1 : a < 0
  · go_enter Try.func15, Try.ntmps15
    go_wp2
    go_ret2
    exact ⟨rfl, rfl⟩
  · by_cases h2 : 1099511627776 < a
    · go_enter Try.func15, Try.ntmps15
      go_wp2
      go_ret2
      exact ⟨rfl, rfl⟩
    · by_cases h3 : n < 1
      · go_enter Try.func15, Try.ntmps15
        go_wp2
        go_ret2
        exact ⟨rfl, rfl⟩
      · have h4 : 1048576 < n := by omega
        go_enter Try.func15, Try.ntmps15
        go_wp2
        go_ret2
        exact ⟨rfl, rfl⟩
/-! ### Plain functions, and contracts for all inputs -/
def epochF (a n : Int) : Int := if a < 0 ∨ n < 1 then 0 else a / n
def firstF (a n : Int) : Int := if a < 0 ∨ 1099511627776 < a ∨ n < 1 ∨ 1048576 < n then 0 else a * n
def firstB (a n : Int) : Bool := !decide (a < 0 ∨ 1099511627776 < a ∨ n < 1 ∨ 1048576 < n)
theorem epochOf_any (a n : Int) (w : World) (hb : a ≤ 9223372036854775807) (hc : n ≤ 9223372036854775807) :
    Calls Try.prog 17 #[.int .i64 a, .int .i64 n] w fun e w' => e = .returned (.int .i64 (epochF a n)) ∧ w = w' := by
  unfold epochF
  by_cases h : a < 0 ∨ n < 1
  · rw [if_pos h]; exact epochOf_zero a n w h
  · rw [if_neg h]; exact epochOf_div a n w (by omega) (by omega) hb hc
theorem first_any (a n : Int) (w : World) :
    Calls Try.prog 15 #[.int .i64 a, .int .i64 n] w fun e w' => e = .returned (.tuple #[.int .i64 (firstF a n), .bool (firstB a n)]) ∧ w = w' := by
  unfold firstF firstB
  by_cases h : a < 0 ∨ 1099511627776 < a ∨ n < 1 ∨ 1048576 < n
  · rw [if_pos h, decide_eq_true h]; exact first_no a n w h
  · rw [if_neg h, decide_eq_false h]; exact first_ok a n w (by omega) (by omega) (by omega) (by omega)
set_option maxHeartbeats 400000 in
theorem block_nil (w : World) :
    Calls Try.prog 11 #[.pointer none] w fun e w' => e = .returned (.int .i64 0) ∧ w = w' := by
  go_enter Try.func11, Try.ntmps11
  go_wp2
  go_ret
  exact ⟨rfl, rfl⟩
set_option maxHeartbeats 400000 in
theorem epoch_nil (w : World) :
    Calls Try.prog 12 #[.pointer none] w fun e w' => e = .returned (.int .i64 0) ∧ w = w' := by
  go_enter Try.func12, Try.ntmps12
  go_wp2
  go_ret
  exact ⟨rfl, rfl⟩
end Go.Proofs.Ytjimncknmbdpaaa
