/- The plain mathematics of a long division of two words by one. -/
import Derived.Lib.BitFns
import Derived.Lib.ItoaNum
namespace Go.Proofs.YthogepcblloaiaaDoor.DM
theorem split_y {y yn1 yn0 q u r un1 : Nat} (hy : y = yn1 * 4294967296 + yn0) (hq : q * yn1 + r = u) :
    q * y = (q * yn1) * 4294967296 + q * yn0 ∧ u * 4294967296 + un1 = (q * yn1) * 4294967296 + r * 4294967296 + un1 := by
  constructor
  · rw [hy, Nat.mul_add, Nat.mul_assoc]
  · rw [← hq, Nat.add_mul]
/-- What the loop keeps: the guess and its remainder. -/
def Inv (y yn1 u un1 q r : Nat) : Prop := q * yn1 + r = u ∧ (u * 4294967296 + un1) / y ≤ q ∧ q ≤ 4294967297 ∧ r < 4294967296
theorem quot_lt {y u un1 : Nat} (hu : u < y) (h1 : un1 < 4294967296) : (u * 4294967296 + un1) / y < 4294967296 := by
  rw [Nat.div_lt_iff_lt_mul (by omega)]
  have : (u + 1) * 4294967296 ≤ y * 4294967296 := Nat.mul_le_mul_right _ (by omega)
  rw [Nat.mul_comm 4294967296 y]
  omega
theorem leG {a b c y : Nat} (h : b * c ≤ y) : a * b * c ≤ a * y := by rw [Nat.mul_assoc]; exact Nat.mul_le_mul_left a h
theorem inv_start {y yn1 yn0 u un1 : Nat} (hy : y = yn1 * 4294967296 + yn0) (h0 : yn0 < 4294967296) (hn : 2147483648 ≤ yn1) (hn' : yn1 < 4294967296) (hu : u < y) (h1 : un1 < 4294967296) : Inv y yn1 u un1 (u / yn1) (u % yn1) := by
  have e : u / yn1 * yn1 + u % yn1 = u := by rw [Nat.mul_comm]; exact Nat.div_add_mod u yn1
  have hr : u % yn1 < yn1 := Nat.mod_lt _ (by omega)
  have h5 : yn1 * 4294967296 ≤ y := by rw [hy]; exact Nat.le_add_right _ _
  refine ⟨e, ?_, ?_, by omega⟩
  · have hlt : (u * 4294967296 + un1) / y < u / yn1 + 1 := by
      rw [Nat.div_lt_iff_lt_mul (by omega)]
      have h2 : u < (u / yn1 + 1) * yn1 := by rw [Nat.add_mul]; omega
      have h3 : (u + 1) * 4294967296 ≤ (u / yn1 + 1) * yn1 * 4294967296 := Nat.mul_le_mul_right _ (by omega : u + 1 ≤ (u / yn1 + 1) * yn1)
      have h4 : (u / yn1 + 1) * yn1 * 4294967296 ≤ (u / yn1 + 1) * y := leG h5
      omega
    omega
  · have : u / yn1 < 4294967298 := by
      rw [Nat.div_lt_iff_lt_mul (by omega)]
      omega
    omega
/-- The test of the loop. -/
theorem test_iff {y yn1 yn0 u un1 q r : Nat} (hy : y = yn1 * 4294967296 + yn0) (hq : q * yn1 + r = u) : (4294967296 * r + un1 < q * yn0) ↔ u * 4294967296 + un1 < q * y := by
  obtain ⟨h1, h2⟩ := split_y (un1 := un1) hy hq
  rw [h1, h2]
  omega
theorem over {y yn1 yn0 u un1 q r : Nat} (hy : y = yn1 * 4294967296 + yn0) (hu : u < y) (h1 : un1 < 4294967296) (hI : Inv y yn1 u un1 q r) (ht : 4294967296 ≤ q ∨ 4294967296 * r + un1 < q * yn0) :
    1 ≤ q ∧ (q - 1) * yn1 + (r + yn1) = u ∧ (u * 4294967296 + un1) / y ≤ q - 1 := by
  obtain ⟨e, hle, hq, hr⟩ := hI
  have hlt : (u * 4294967296 + un1) / y < q := by
    rcases ht with ht | ht
    · exact Nat.lt_of_lt_of_le (quot_lt hu h1) ht
    · rw [test_iff hy e] at ht
      rw [Nat.div_lt_iff_lt_mul (by omega)]
      exact ht
  have hq1 : 1 ≤ q := Nat.lt_of_le_of_lt (Nat.zero_le _) hlt
  refine ⟨hq1, ?_, Nat.le_sub_one_of_lt hlt⟩
  rw [Nat.sub_mul, Nat.one_mul]
  have : yn1 ≤ q * yn1 := Nat.le_mul_of_pos_left _ hq1
  omega
theorem inv_next {y yn1 yn0 u un1 q r : Nat} (hy : y = yn1 * 4294967296 + yn0) (hu : u < y) (h1 : un1 < 4294967296) (hI : Inv y yn1 u un1 q r) (ht : 4294967296 ≤ q ∨ 4294967296 * r + un1 < q * yn0) (hr : r + yn1 < 4294967296) :
    Inv y yn1 u un1 (q - 1) (r + yn1) := by
  obtain ⟨h2, h3, h4⟩ := over hy hu h1 hI ht
  exact ⟨h3, h4, by have := hI.2.2.1; omega, hr⟩
theorem at_end {y yn1 yn0 u un1 q r : Nat} (hy : y = yn1 * 4294967296 + yn0) (hy0 : 0 < y) (e : q * yn1 + r = u) (hle : (u * 4294967296 + un1) / y ≤ q) (ht : ¬ 4294967296 * r + un1 < q * yn0) :
    q = (u * 4294967296 + un1) / y := by
  rw [test_iff hy e] at ht
  have : q ≤ (u * 4294967296 + un1) / y := by rw [Nat.le_div_iff_mul_le hy0]; omega
  omega
theorem at_break {y yn1 yn0 u un1 q r : Nat} (hy : y = yn1 * 4294967296 + yn0) (h0 : yn0 < 4294967296) (hu : u < y) (h1 : un1 < 4294967296) (hI : Inv y yn1 u un1 q r) (ht : 4294967296 ≤ q ∨ 4294967296 * r + un1 < q * yn0) (hr : 4294967296 ≤ r + yn1) :
    q - 1 = (u * 4294967296 + un1) / y := by
  obtain ⟨h2, h3, h4⟩ := over hy hu h1 hI ht
  refine at_end hy (by omega) h3 h4 ?_
  have hq : q - 1 ≤ 4294967296 := by have := hI.2.2.1; omega
  have : (q - 1) * yn0 ≤ 4294967296 * 4294967295 := Nat.mul_le_mul hq (by omega)
  omega
theorem rest_eq {y u un1 : Nat} : u * 4294967296 + un1 - (u * 4294967296 + un1) / y * y = (u * 4294967296 + un1) % y := by
  have h := Nat.div_add_mod (u * 4294967296 + un1) y
  have e : y * ((u * 4294967296 + un1) / y) = (u * 4294967296 + un1) / y * y := Nat.mul_comm _ _
  omega
theorem rest_le {y u un1 : Nat} : (u * 4294967296 + un1) / y * y ≤ u * 4294967296 + un1 := Nat.div_mul_le_self _ _
theorem two_stepsG {B V y un0 : Nat} (hy : 0 < y) : (V * B + un0) / y = V / y * B + (V % y * B + un0) / y := by
  have h := Nat.div_add_mod V y
  have e : V * B + un0 = y * (V / y * B) + (V % y * B + un0) := by
    rw [← Nat.mul_assoc, ← Nat.add_assoc, ← Nat.add_mul, h]
  rw [e, Nat.mul_add_div hy]
theorem two_steps {y u un1 un0 : Nat} (hy : 0 < y) :
    ((u * 4294967296 + un1) * 4294967296 + un0) / y = (u * 4294967296 + un1) / y * 4294967296 + ((u * 4294967296 + un1) % y * 4294967296 + un0) / y := two_stepsG hy
theorem shiftedG {A hi lo d p q : Nat} (e1 : q * p = A) (hp : 0 < p) (hq : 0 < q) (hlo : lo < A) (hd : hi < d) :
    (hi * p + lo / q) * A + lo * p % A = (hi * A + lo) * p ∧ hi * p + lo / q < d * p ∧ lo / q < p := by
  have e2 : lo * p / A = lo / q := by rw [← e1, Nat.mul_div_mul_right _ _ hp]
  have e3 := Nat.div_add_mod (lo * p) A
  rw [e2, Nat.mul_comm] at e3
  have e4 : lo / q < p := by
    rw [Nat.div_lt_iff_lt_mul hq, Nat.mul_comm, e1]; exact hlo
  refine ⟨?_, ?_, e4⟩
  · rw [Nat.add_mul (hi * A) lo, Nat.add_mul (hi * p)]
    have : hi * p * A = hi * A * p := Nat.mul_right_comm _ _ _
    omega
  · have : (hi + 1) * p ≤ d * p := Nat.mul_le_mul_right _ hd
    rw [Nat.add_mul] at this
    omega
theorem shifted {hi lo d s : Nat} (hlo : lo < 18446744073709551616) (hs : s ≤ 63) (hd : hi < d) :
    (hi * 2 ^ s + lo / 2 ^ (64 - s)) * 18446744073709551616 + lo * 2 ^ s % 18446744073709551616 = (hi * 18446744073709551616 + lo) * 2 ^ s ∧ hi * 2 ^ s + lo / 2 ^ (64 - s) < d * 2 ^ s ∧ lo / 2 ^ (64 - s) < 2 ^ s :=
  shiftedG (by rw [← Nat.pow_add, show 64 - s + s = 64 by omega]) (Nat.two_pow_pos s) (Nat.two_pow_pos _) hlo hd
theorem quot_of {hi lo d s u un1 un0 : Nat} (h : (u * 4294967296 + un1) * 4294967296 + un0 = (hi * 18446744073709551616 + lo) * 2 ^ s) : ((u * 4294967296 + un1) * 4294967296 + un0) / (d * 2 ^ s) = (hi * 18446744073709551616 + lo) / d := by
  rw [h, Nat.mul_div_mul_right _ _ (Nat.two_pow_pos s)]
theorem or_add {a b s : Nat} (hb : b < 2 ^ s) : (a * 2 ^ s) ||| b = a * 2 ^ s + b := by
  rw [Nat.mul_comm, Nat.two_pow_add_eq_or_of_lt hb]
theorem norm_of {d : Nat} (h0 : 0 < d) (h1 : d < 18446744073709551616) : Lib.bitLen d ≤ 64 ∧ 1 ≤ Lib.bitLen d ∧ 9223372036854775808 ≤ d * 2 ^ (64 - Lib.bitLen d) ∧ d * 2 ^ (64 - Lib.bitLen d) < 18446744073709551616 := by
  have hle : Lib.bitLen d ≤ 64 := by
    have := Lib.bitLenAux_bounds 64 d h1 (by omega)
    unfold Lib.bitLen
    by_cases h : Lib.bitLenAux 64 d ≤ 64
    · exact h
    · exfalso
      have h2 : 2 ^ 64 ≤ 2 ^ (Lib.bitLenAux 64 d - 1) := Nat.pow_le_pow_right (by decide) (by omega)
      omega
  obtain ⟨h2, h3, h4⟩ := Lib.bitLenAux_bounds 64 d h1 (by omega)
  have e1 : (2 : Nat) ^ Lib.bitLen d * 2 ^ (64 - Lib.bitLen d) = 18446744073709551616 := by rw [← Nat.pow_add, show Lib.bitLen d + (64 - Lib.bitLen d) = 64 by omega]
  have e2 : (2 : Nat) ^ (Lib.bitLen d - 1) * 2 ^ (64 - Lib.bitLen d) = 9223372036854775808 := by
    rw [← Nat.pow_add, show Lib.bitLen d - 1 + (64 - Lib.bitLen d) = 63 by unfold Lib.bitLen at *; omega]
  refine ⟨hle, h2, ?_, ?_⟩
  · rw [← e2]; exact Nat.mul_le_mul_right _ h3
  · rw [← e1]; exact Nat.mul_lt_mul_of_pos_right h4 (Nat.two_pow_pos _)
theorem parts (U L : Nat) : (U * 4294967296 + L / 4294967296) * 4294967296 + L % 4294967296 = U * 18446744073709551616 + L := by omega
/-! ### The same over Int -/
structure Set (y yn1 yn0 u un1 : Int) : Prop where
  hy : y = yn1 * 4294967296 + yn0
  n0 : 0 ≤ yn0
  n0' : yn0 ≤ 4294967295
  n1 : 2147483648 ≤ yn1
  n1' : yn1 ≤ 4294967295
  u0 : 0 ≤ u
  uy : u < y
  v0 : 0 ≤ un1
  v1 : un1 ≤ 4294967295
def InvI (y yn1 u un1 q r : Int) : Prop := 0 ≤ q ∧ 0 ≤ r ∧ Inv y.toNat yn1.toNat u.toNat un1.toNat q.toNat r.toNat
theorem InvI.bd {y yn1 u un1 q r : Int} (h : InvI y yn1 u un1 q r) : 0 ≤ q ∧ q ≤ 4294967297 ∧ 0 ≤ r ∧ r ≤ 4294967295 := by
  obtain ⟨a, b, c⟩ := h
  have h1 := c.2.2.1
  have h2 := c.2.2.2
  exact ⟨a, by omega, b, by omega⟩
section
variable {y yn1 yn0 u un1 q r : Int}
theorem Set.nat (h : Set y yn1 yn0 u un1) : y.toNat = yn1.toNat * 4294967296 + yn0.toNat ∧ yn0.toNat < 4294967296 ∧ u.toNat < y.toNat ∧ un1.toNat < 4294967296 ∧ 0 < y.toNat := by
  obtain ⟨h1, h2, h3, h4, h5, h6, h7, h8, h9⟩ := h
  refine ⟨?_, ?_, ?_, ?_, ?_⟩ <;> omega
theorem test_nat (h : Set y yn1 yn0 u un1) (hq : 0 ≤ q) (hr : 0 ≤ r) : (4294967296 * r + un1 < q * yn0) ↔ 4294967296 * r.toNat + un1.toNat < q.toNat * yn0.toNat := by
  have e : ((q.toNat * yn0.toNat : Nat) : Int) = q * yn0 := by
    rw [Int.natCast_mul, Int.toNat_of_nonneg hq, Int.toNat_of_nonneg h.n0]
  have := h.v0
  omega
theorem start_I (h : Set y yn1 yn0 u un1) : InvI y yn1 u un1 (u / yn1) (u % yn1) := by
  have h1 := h.nat
  have h4 := h.n1
  have h5 := h.n1'
  have hu := h.u0
  refine ⟨Int.ediv_nonneg hu (by omega), Int.emod_nonneg _ (by omega), ?_⟩
  have := inv_start h1.1 h1.2.1 (by omega : 2147483648 ≤ yn1.toNat) (by omega) h1.2.2.1 h1.2.2.2.1
  have e1 : (u / yn1).toNat = u.toNat / yn1.toNat := by
    have : u / yn1 = ((u.toNat / yn1.toNat : Nat) : Int) := by rw [Int.natCast_ediv, Int.toNat_of_nonneg hu, Int.toNat_of_nonneg (by omega)]
    rw [this, Int.toNat_natCast]
  have e2 : (u % yn1).toNat = u.toNat % yn1.toNat := by
    have : u % yn1 = ((u.toNat % yn1.toNat : Nat) : Int) := by rw [Int.natCast_emod, Int.toNat_of_nonneg hu, Int.toNat_of_nonneg (by omega)]
    rw [this, Int.toNat_natCast]
  rw [e1, e2]
  exact this
theorem over_I (h : Set y yn1 yn0 u un1) (hI : InvI y yn1 u un1 q r) (ht : 4294967296 ≤ q ∨ 4294967296 * r + un1 < q * yn0) : 1 ≤ q := by
  have h1 := h.nat
  have ht' : 4294967296 ≤ q.toNat ∨ 4294967296 * r.toNat + un1.toNat < q.toNat * yn0.toNat := by
    rcases ht with ht | ht
    · left; omega
    · right; exact (test_nat h hI.1 hI.2.1).1 ht
  have := (over h1.1 h1.2.2.1 h1.2.2.2.1 hI.2.2 ht').1
  omega
theorem next_I (h : Set y yn1 yn0 u un1) (hI : InvI y yn1 u un1 q r) (ht : 4294967296 ≤ q ∨ 4294967296 * r + un1 < q * yn0) (hr : r + yn1 ≤ 4294967295) : InvI y yn1 u un1 (q - 1) (r + yn1) := by
  have h1 := h.nat
  have hq := over_I h hI ht
  have h4 := h.n1
  have ht' : 4294967296 ≤ q.toNat ∨ 4294967296 * r.toNat + un1.toNat < q.toNat * yn0.toNat := by
    rcases ht with ht | ht
    · left; omega
    · right; exact (test_nat h hI.1 hI.2.1).1 ht
  have hr0 := hI.2.1
  have h2 := inv_next h1.1 h1.2.2.1 h1.2.2.2.1 hI.2.2 ht' (by omega)
  refine ⟨by omega, by omega, ?_⟩
  rw [show (q - 1).toNat = q.toNat - 1 by omega, show (r + yn1).toNat = r.toNat + yn1.toNat by omega]
  exact h2
theorem quot_nat (h : Set y yn1 yn0 u un1) : (u * 4294967296 + un1) / y = (((u.toNat * 4294967296 + un1.toNat) / y.toNat : Nat) : Int) := by
  have h1 := h.u0
  have h2 := h.v0
  have h3 := h.uy
  rw [Int.natCast_ediv, Int.natCast_add, Int.natCast_mul, Int.toNat_of_nonneg h1, Int.toNat_of_nonneg h2, Int.toNat_of_nonneg (by omega)]
  rfl
theorem break_I (h : Set y yn1 yn0 u un1) (hI : InvI y yn1 u un1 q r) (ht : 4294967296 ≤ q ∨ 4294967296 * r + un1 < q * yn0) (hr : 4294967296 ≤ r + yn1) : q - 1 = (u * 4294967296 + un1) / y := by
  have h1 := h.nat
  have hq := over_I h hI ht
  have h4 := h.n1
  have ht' : 4294967296 ≤ q.toNat ∨ 4294967296 * r.toNat + un1.toNat < q.toNat * yn0.toNat := by
    rcases ht with ht | ht
    · left; omega
    · right; exact (test_nat h hI.1 hI.2.1).1 ht
  have h2 := at_break h1.1 h1.2.1 h1.2.2.1 h1.2.2.2.1 hI.2.2 ht' (by omega)
  rw [quot_nat h, ← h2]
  omega
theorem end_I (h : Set y yn1 yn0 u un1) (hI : InvI y yn1 u un1 q r) (ht : ¬ 4294967296 * r + un1 < q * yn0) : q = (u * 4294967296 + un1) / y := by
  have h1 := h.nat
  have ht' := fun k => ht ((test_nat h hI.1 hI.2.1).2 k)
  have h2 := at_end h1.1 h1.2.2.2.2 hI.2.2.1 hI.2.2.2.1 ht'
  rw [quot_nat h, ← h2]
  have := hI.1
  omega
end
end Go.Proofs.YthogepcblloaiaaDoor.DM
