/- Contracts of gwei.MulDiv. -/
import Derived.Test.YthogepcblloaiaaDoorGweiDiv
namespace Go.Proofs.YthogepcblloaiaaDoor
open Go.RowKit
/-- Does the quotient fit into a word? -/
def mulB (a b d : Int) : Bool := decide (a * b < d * 18446744073709551616)
def mulF (a b d : Int) : Int := if a * b < d * 18446744073709551616 then a * b / d else 0
set_option maxHeartbeats 1000000 in
theorem product_any (a b : Int) (w : World) (ha0 : 0 ≤ a) (ha : a ≤ 18446744073709551615) (hb0 : 0 ≤ b) (hb : b ≤ 18446744073709551615) :
    Calls Tryd.prog 14 #[.int .u64 a, .int .u64 b] w fun e w' => e = .returned (.agg #[.int .u64 (a * b / 18446744073709551616), .int .u64 (a * b % 18446744073709551616)]) ∧ Below w.heap.size w w' := by
  have HM : Hid (∀ w, Calls Tryd.prog 19 #[.int .u64 a, .int .u64 b] w fun e w' => e = .returned (.tuple #[.int .u64 (a * b / 18446744073709551616), .int .u64 (a * b % 18446744073709551616)]) ∧ w = w') := fun w => by
    obtain ⟨x, rfl⟩ := Int.eq_ofNat_of_zero_le ha0
    obtain ⟨y, rfl⟩ := Int.eq_ofNat_of_zero_le hb0
    have := mul64 x y (by omega) (by omega) w
    simpa using this
  generalize a * b / 18446744073709551616 = hi at *
  generalize a * b % 18446744073709551616 = lo at *
  go_enter Tryd.func14, Tryd.ntmps14
  go_wp2_with (go_at_call 19; refine (HM.out _).mono ?_; rintro e w' ⟨rfl, rfl⟩)
  refine bodyPost_ret (v := .agg #[.int .u64 hi, .int .u64 lo]) (by simp [results, Tryd.results14, go_sem]) rfl ⟨rfl, ?_⟩
  exact (Below.refl _ _).alloc (Nat.le_refl _) _
set_option maxHeartbeats 1000000 in
theorem mulDiv_no (a b d : Int) (w : World) (ha0 : 0 ≤ a) (ha : a ≤ 18446744073709551615) (hb0 : 0 ≤ b) (hb : b ≤ 18446744073709551615) (hd : d ≤ a * b / 18446744073709551616) :
    Calls Tryd.prog 9 #[.int .u64 a, .int .u64 b, .int .u64 d] w fun e w' => e = .returned (.tuple #[.int .u64 0, .bool false]) ∧ Below w.heap.size w w' := by
  have HP := Lib.hid (fun w => product_any a b w ha0 ha hb0 hb)
  generalize a * b / 18446744073709551616 = hi at *
  generalize a * b % 18446744073709551616 = lo at *
  go_enter Tryd.func9, Tryd.ntmps9
  go_wp2_with (go_at_call 14; refine (HP.out _).mono ?_; rintro e w1 ⟨rfl, hb1⟩)
  go_ret2
  exact ⟨rfl, by refine Below.alloc hb1 hb1.size _⟩
set_option maxHeartbeats 1000000 in
theorem mulDiv_yes (a b d q : Int) (w : World) (ha0 : 0 ≤ a) (ha : a ≤ 18446744073709551615) (hb0 : 0 ≤ b) (hb : b ≤ 18446744073709551615) (hd : a * b / 18446744073709551616 < d)
    (HD : Hid (∀ w, Calls Tryd.prog 15 #[.int .u64 (a * b / 18446744073709551616), .int .u64 (a * b % 18446744073709551616), .int .u64 d] w fun e w' => (∃ r : Int, e = .returned (.tuple #[.int .u64 q, .int .u64 r])) ∧ Same w w')) :
    Calls Tryd.prog 9 #[.int .u64 a, .int .u64 b, .int .u64 d] w fun e w' => e = .returned (.tuple #[.int .u64 q, .bool true]) ∧ Below w.heap.size w w' := by
  have HP := Lib.hid (fun w => product_any a b w ha0 ha hb0 hb)
  generalize a * b / 18446744073709551616 = hi at *
  generalize a * b % 18446744073709551616 = lo at *
  go_enter Tryd.func9, Tryd.ntmps9
  go_wp2_with (first
    | (go_at_call 14; refine (HP.out _).mono ?_; rintro e w1 ⟨rfl, hb1⟩)
    | (go_at_call 15; refine (HD.out _).mono ?_; rintro e w2 ⟨⟨r, rfl⟩, hs⟩))
  go_ret2
  exact ⟨rfl, (Below.alloc hb1 hb1.size _).trans (hs.below _)⟩
theorem mulDiv_any (a b d : Int) (w : World) (ha0 : 0 ≤ a) (ha : a ≤ 18446744073709551615) (hb0 : 0 ≤ b) (hb : b ≤ 18446744073709551615) (hd0 : 0 ≤ d) (hd : d ≤ 18446744073709551615) :
    Calls Tryd.prog 9 #[.int .u64 a, .int .u64 b, .int .u64 d] w fun e w' => e = .returned (.tuple #[.int .u64 (mulF a b d), .bool (mulB a b d)]) ∧ Below w.heap.size w w' := by
  unfold mulF mulB
  obtain ⟨x, rfl⟩ := Int.eq_ofNat_of_zero_le ha0
  obtain ⟨y, rfl⟩ := Int.eq_ofNat_of_zero_le hb0
  obtain ⟨z, rfl⟩ := Int.eq_ofNat_of_zero_le hd0
  have e : (x : Int) * (y : Int) = ((x * y : Nat) : Int) := (Int.natCast_mul _ _).symm
  by_cases h : (x : Int) * (y : Int) < (z : Int) * 18446744073709551616
  · rw [if_pos h, decide_eq_true h]
    refine mulDiv_yes _ _ _ _ w ha0 ha hb0 hb (by omega) ?_
    show ∀ w, _
    intro w
    have h2 := div64_any (x * y / 18446744073709551616) (x * y % 18446744073709551616) z (by omega) (Nat.mod_lt _ (by decide)) (by omega) w
    rw [show x * y / 18446744073709551616 * 18446744073709551616 + x * y % 18446744073709551616 = x * y by omega] at h2
    simpa using h2
  · rw [if_neg h, decide_eq_false h]
    exact mulDiv_no _ _ _ w ha0 ha hb0 hb (by omega)
end Go.Proofs.YthogepcblloaiaaDoor
