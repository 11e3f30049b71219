/- Contracts of bits.Div64 and of gwei.MulDiv. -/
import Derived.Test.YthogepcblloaiaaDoorBase
import Derived.Test.YthogepcblloaiaaDoorShelf
import Derived.Test.YthogepcblloaiaaDoorDivMath
import Derived.Deep.DeepCutAuto
import Derived.Deep.CutBlock
namespace Go.Proofs.YthogepcblloaiaaDoor
open Go.RowKit
theorem mul64 (x y : Nat) (hx : x < 18446744073709551616) (hy : y < 18446744073709551616) (w : World) :
    Calls Tryd.prog 19 #[.int .u64 x, .int .u64 y] w fun e w' => e = .returned (.tuple #[.int .u64 ((x * y / 18446744073709551616 : Nat) : Int), .int .u64 ((x * y % 18446744073709551616 : Nat) : Int)]) ∧ w = w' :=
  (Tryd.bits_Mul64 x y hx hy w).mono fun _ _ ⟨a, b⟩ => ⟨a, b.symm⟩
theorem lz64 (x : Nat) (h1 : x < 18446744073709551616) (w : World) :
    Calls Tryd.prog 20 #[.int .u64 x] w fun e w' => e = .returned (.int .i64 (64 - (Lib.bitLen x : Int))) ∧ w = w' :=
  (Tryd.bits_LeadingZeros64 x w (by omega) (by omega)).mono fun _ _ ⟨a, b⟩ => ⟨by rw [a]; rfl, b.symm⟩
theorem lz64s (x s : Nat) (h1 : x < 18446744073709551616) (w : World) (hs : Hid (s = 64 - Lib.bitLen x)) :
    Calls Tryd.prog 20 #[.int .u64 x] w fun e w' => e = .returned (.int .i64 (s : Int)) ∧ w = w' :=
  (lz64 x h1 w).mono fun _ _ ⟨a, b⟩ => ⟨by
    rw [a, hs.out]
    congr 2
    by_cases h : x = 0
    · subst h; rfl
    · have := DM.norm_of (by omega) h1; omega, b⟩
theorem u64_id {n : Int} (h0 : 0 ≤ n) (h1 : n < 18446744073709551616) : IntKind.u64.wrap n = n := by
  simp only [IntKind.wrap, IntKind.bits, IntKind.signed]; simp; omega
set_option maxHeartbeats 1000000 in
theorem div64_small (lo y : Nat) (hl : lo < 18446744073709551616) (h0 : 0 < y) (h1 : y < 18446744073709551616) (w : World) :
    Calls Tryd.prog 15 #[.int .u64 0, .int .u64 lo, .int .u64 y] w fun e w' => (∃ r : Int, e = .returned (.tuple #[.int .u64 ((lo / y : Nat) : Int), .int .u64 r])) ∧ Same w w' := by
  have hb1 : ((y : Int) == 0) = false := by rw [beq_eq_false_iff_ne]; omega
  have hq : IntKind.u64.wrap ((lo : Int) / y) = (lo : Int) / y := u64_id (Int.ediv_nonneg (by omega) (by omega)) (by
    have : lo / y ≤ lo := Nat.div_le_self _ _
    have : ((lo / y : Nat) : Int) ≤ lo := by omega
    rw [Int.natCast_ediv] at this; omega)
  go_enter Tryd.func15, Tryd.ntmps15
  go_wp2_with fail
  go_quiet (fail)
  go_wp2
  go_ret2
  exact ⟨⟨_, rfl⟩, Same.of⟩
set_option maxRecDepth 100000 in
set_option maxHeartbeats 4000000 in
theorem div64_big (hi lo y Y U L yn1 yn0 un1 un0 Q0 R0 Q R Q1 R1 Q2 F : Int) (s : Nat) (w : World)
    (hh : 1 ≤ hi) (h0 : hi < y) (h1 : y ≤ 18446744073709551615) (l0 : 0 ≤ lo) (hl : lo ≤ 18446744073709551615) (L0 : 0 ≤ L) (iL : L ≤ 18446744073709551615)
    (HZ : Hid (∀ w : World, Calls Tryd.prog 20 #[.int .u64 y] w fun e w' => e = .returned (.int .i64 (s : Int)) ∧ w = w')) (hs63 : s ≤ 63) (hY : IntKind.u64.wrap (y * 2 ^ s) = Y) (Y0 : 1 ≤ Y) (iY1 : Y ≤ 18446744073709551615)
    (hyn1 : Y / 4294967296 = yn1) (hyn0 : bits .and .u64 Y 4294967295 = yn0) (iy1l : 2147483648 ≤ yn1) (iy1 : yn1 ≤ 4294967295) (h0n : 0 ≤ yn0) (iy0 : yn0 ≤ 4294967295)
    (hU : bits .or .u64 (IntKind.u64.wrap (hi * 2 ^ s)) (lo / 2 ^ (64 - s)) = U) (U0 : 0 ≤ U) (hUY : U < Y)
    (hL : IntKind.u64.wrap (lo * 2 ^ s) = L)
    (hun1 : L / 4294967296 = un1) (hun0 : bits .and .u64 L 4294967295 = un0) (u10 : 0 ≤ un1) (iu1 : un1 ≤ 4294967295) (u00 : 0 ≤ un0) (iu0 : un0 ≤ 4294967295)
    (HS1 : Hid (DM.Set Y yn1 yn0 U un1)) (hQ0 : U / yn1 = Q0) (hQR : Q0 * yn1 = U - R0) (Q00 : 0 ≤ Q0) (iQ0 : Q0 ≤ 4294967297) (R00 : 0 ≤ R0) (hR0 : R0 ≤ U) (HI0 : Hid (DM.InvI Y yn1 U un1 Q0 R0)) (HQ : Hid ((U * 4294967296 + un1) / Y = Q))
    (R0' : 0 ≤ R) (hRY : R < Y) (hRe : IntKind.u64.wrap (IntKind.u64.wrap (IntKind.u64.wrap (U * 4294967296) + un1) - IntKind.u64.wrap (Q * Y)) = R)
    (HS2 : Hid (DM.Set Y yn1 yn0 R un0)) (hQ1 : R / yn1 = Q1) (hQR1 : Q1 * yn1 = R - R1) (Q10 : 0 ≤ Q1) (iQ1 : Q1 ≤ 4294967297) (R10 : 0 ≤ R1) (hR1 : R1 ≤ R) (HI1 : Hid (DM.InvI Y yn1 R un0 Q1 R1)) (HQ2 : Hid ((R * 4294967296 + un0) / Y = Q2))
    (Qn : 0 ≤ Q) (iQ : Q ≤ 4294967295) (Q2n : 0 ≤ Q2) (iQ2 : Q2 ≤ 4294967295) (HF : Hid (F = Q * 4294967296 + Q2)) :
    Calls Tryd.prog 15 #[.int .u64 hi, .int .u64 lo, .int .u64 y] w fun e w' => (∃ r : Int, e = .returned (.tuple #[.int .u64 F, .int .u64 r])) ∧ Same w w' := by
  have hb1 : (y == 0) = false := by rw [beq_eq_false_iff_ne]; omega
  have hb2 : (hi == 0) = false := by rw [beq_eq_false_iff_ne]; omega
  have hb3 : decide (y ≤ hi) = false := by simp; omega
  have hmin : min s 64 = s := by omega
  have hmin2 : min (64 - s) 64 = 64 - s := by omega
  go_enter Tryd.func15, Tryd.ntmps15
  go_upto_block 0 with (go_at_call 20; refine (HZ.out _).mono ?_; rintro e w' ⟨rfl, rfl⟩)
  have HQ0 := Lib.hid hQ0
  clear hY hyn1 hyn0 hU hL hun1 hun0 hQ0 hQR hmin hmin2
  go_cut [15, 16] (fun a _ wx => a = .int .u64 Q ∧ wx = w)
  case first =>
    go_wp2_with fail
    go_loop [15, 16] (fun a b => ∃ q r : Int, a = .int .u64 q ∧ b = .int .u64 r ∧ Hid (DM.InvI Y yn1 U un1 q r)) (fun a _ => (intOf a).toNat)
    case atStart => exact ⟨Q0, R0, by first | rfl | rw [HQ0.out], by first | go_num | (congr 1; omega), HI0⟩
    case round =>
      obtain ⟨q, r, rfl, rfl, HI⟩ := hrel
      obtain ⟨q0, iqu, r0, iru⟩ := HI.out.bd
      have hp0 : 0 ≤ q * yn0 := Int.mul_nonneg q0 h0n
      by_cases hq : 4294967296 ≤ q
      · by_cases hr : 4294967296 ≤ r + yn1
        · have hQ : q - 1 = Q := (DM.break_I HS1.out HI.out (.inl hq) hr).trans HQ.out
          go_wp2_with fail
          go_meet
          exact ⟨by first | rfl | rw [hQ], rfl⟩
        · have ir : r + yn1 ≤ 4294967295 := by omega
          have HN := Lib.hid (DM.next_I HS1.out HI.out (.inl hq) ir)
          clear hr
          go_wp2_with fail
          go_round
          case rel => exact ⟨q - 1, r + yn1, by go_num, by go_num, HN.out⟩
          case measure => simp [intOf]; omega
      · have iq : q ≤ 4294967295 := by omega
        clear hq
        have hp1 : q * yn0 ≤ 18446744073709551615 := by
          have : q * yn0 ≤ 4294967295 * 4294967295 := Int.mul_le_mul iq iy0 h0n (by omega)
          omega
        by_cases hti : 4294967296 * r + un1 < q * yn0
        · have hq1 := DM.over_I HS1.out HI.out (.inr hti)
          by_cases hr : 4294967296 ≤ r + yn1
          · have hQ : q - 1 = Q := (DM.break_I HS1.out HI.out (.inr hti) hr).trans HQ.out
            go_wp2_with fail
            go_meet
            exact ⟨by first | rfl | rw [hQ], rfl⟩
          · have ir : r + yn1 ≤ 4294967295 := by omega
            have HN := Lib.hid (DM.next_I HS1.out HI.out (.inr hti) ir)
            clear hr
            go_wp2_with fail
            go_round
            case rel => exact ⟨q - 1, r + yn1, by go_num, by go_num, HN.out⟩
            case measure => simp [intOf]; omega
        · have HQQ : Hid (q = Q) := (DM.end_I HS1.out HI.out hti).trans HQ.out
          go_wp2_with fail
          go_meet
          exact ⟨by rw [HQQ.out], rfl⟩
  case rest =>
    obtain ⟨rfl, rfl⟩ := hcut
    go_upto_block 2 with (fail)
    have HQ1 := Lib.hid hQ1
    clear hRe hQ1 hQR1
    go_cut [18, 16] (fun a _ wx => a = .int .u64 Q2 ∧ wx = wc)
    case first =>
      go_wp2_with fail
      go_loop [18, 16] (fun a b => ∃ q r : Int, a = .int .u64 q ∧ b = .int .u64 r ∧ Hid (DM.InvI Y yn1 R un0 q r)) (fun a _ => (intOf a).toNat)
      case atStart => exact ⟨Q1, R1, by first | rfl | rw [HQ1.out], by first | go_num | (congr 1; omega), HI1⟩
      case round =>
        obtain ⟨q, r, rfl, rfl, HI⟩ := hrel
        obtain ⟨q0, iqu, r0, iru⟩ := HI.out.bd
        have hp0 : 0 ≤ q * yn0 := Int.mul_nonneg q0 h0n
        by_cases hq : 4294967296 ≤ q
        · by_cases hr : 4294967296 ≤ r + yn1
          · have hQ : q - 1 = Q2 := (DM.break_I HS2.out HI.out (.inl hq) hr).trans HQ2.out
            go_wp2_with fail
            go_meet
            exact ⟨by first | rfl | rw [hQ], rfl⟩
          · have ir : r + yn1 ≤ 4294967295 := by omega
            have HN := Lib.hid (DM.next_I HS2.out HI.out (.inl hq) ir)
            clear hr
            go_wp2_with fail
            go_round
            case rel => exact ⟨q - 1, r + yn1, by go_num, by go_num, HN.out⟩
            case measure => simp [intOf]; omega
        · have iq : q ≤ 4294967295 := by omega
          clear hq
          have hp1 : q * yn0 ≤ 18446744073709551615 := by
            have : q * yn0 ≤ 4294967295 * 4294967295 := Int.mul_le_mul iq iy0 h0n (by omega)
            omega
          by_cases hti : 4294967296 * r + un0 < q * yn0
          · have hq1 := DM.over_I HS2.out HI.out (.inr hti)
            by_cases hr : 4294967296 ≤ r + yn1
            · have hQ : q - 1 = Q2 := (DM.break_I HS2.out HI.out (.inr hti) hr).trans HQ2.out
              go_wp2_with fail
              go_meet
              exact ⟨by first | rfl | rw [hQ], rfl⟩
            · have ir : r + yn1 ≤ 4294967295 := by omega
              have HN := Lib.hid (DM.next_I HS2.out HI.out (.inr hti) ir)
              clear hr
              go_wp2_with fail
              go_round
              case rel => exact ⟨q - 1, r + yn1, by go_num, by go_num, HN.out⟩
              case measure => simp [intOf]; omega
          · have HQQ : Hid (q = Q2) := (DM.end_I HS2.out HI.out hti).trans HQ2.out
            go_wp2_with fail
            go_meet
            exact ⟨by rw [HQQ.out], rfl⟩
    case rest =>
      obtain ⟨rfl, rfl⟩ := hcut
      go_wp2
      go_ret2
      exact ⟨⟨_, by rw [HF.out]; rfl⟩, Same.refl _⟩
theorem _root_.Int.emod_le_self_nat (a b : Nat) : (a : Int) % (b : Int) ≤ a := by
  have := Nat.mod_le a b
  have e : ((a % b : Nat) : Int) = (a : Int) % (b : Int) := by simp
  omega
theorem i64p (a : Nat) : ((a : Int) * 2 ^ 0) = a := by simp
theorem mulpow (a s : Nat) : (a : Int) * 2 ^ s = ((a * 2 ^ s : Nat) : Int) := by simp
theorem divpow (a s : Nat) : (a : Int) / 2 ^ s = ((a / 2 ^ s : Nat) : Int) := by simp
theorem u64_mod (a : Nat) : IntKind.u64.wrap (a : Int) = ((a % 18446744073709551616 : Nat) : Int) := by
  simp only [IntKind.wrap, IntKind.bits, IntKind.signed]; simp
theorem u64_wrap_eq {n m : Int} (h0 : 0 ≤ m) (h1 : m ≤ 18446744073709551615) (k : Int) (h : n = m + 18446744073709551616 * k) : IntKind.u64.wrap n = m := by
  simp only [IntKind.wrap, IntKind.bits, IntKind.signed]; simp; omega
theorem rem_wrap {U un1 Q Y R : Int} (h : U * 4294967296 + un1 - Q * Y = R) (h0 : 0 ≤ R) (h1 : R ≤ 18446744073709551615) :
    IntKind.u64.wrap (IntKind.u64.wrap (IntKind.u64.wrap (U * 4294967296) + un1) - IntKind.u64.wrap (Q * Y)) = R := by
  generalize Q * Y = P at *
  simp only [IntKind.wrap, IntKind.bits, IntKind.signed]; simp; omega
theorem div64_mid (hi lo y s Y U L Q R Q2 : Nat) (hz : 1 ≤ hi) (h0 : hi < y) (hl : lo < 18446744073709551616) (h1 : y < 18446744073709551616) (n3 : 9223372036854775808 ≤ Y) (n4 : Y < 18446744073709551616) (hs63 : s ≤ 63)
    (HZ : Hid (∀ w : World, Calls Tryd.prog 20 #[.int .u64 y] w fun e w' => e = .returned (.int .i64 (s : Int)) ∧ w = w')) (hY : y * 2 ^ s = Y)
    (hor : bits .or .u64 (IntKind.u64.wrap ((hi : Int) * 2 ^ s)) ((lo : Int) / 2 ^ (64 - s)) = (U : Int)) (s2 : U < Y) (hL : IntKind.u64.wrap ((lo : Int) * 2 ^ s) = (L : Int)) (hLlt : L < 18446744073709551616)
    (hS1 : DM.Set (Y : Int) ((Y / 4294967296 : Nat) : Int) ((Y % 4294967296 : Nat) : Int) (U : Int) ((L / 4294967296 : Nat) : Int)) (hq1 : Q < 4294967296) (hlt : R < Y)
    (hRe : IntKind.u64.wrap (IntKind.u64.wrap (IntKind.u64.wrap ((U : Int) * 4294967296) + ((L / 4294967296 : Nat) : Int)) - IntKind.u64.wrap ((Q : Int) * (Y : Int))) = (R : Int))
    (hQe : ((U : Int) * 4294967296 + ((L / 4294967296 : Nat) : Int)) / (Y : Int) = (Q : Int)) (hQ2 : Q2 = (R * 4294967296 + L % 4294967296) / Y) (w : World) :
    Calls Tryd.prog 15 #[.int .u64 hi, .int .u64 lo, .int .u64 y] w fun e w' => (∃ r : Int, e = .returned (.tuple #[.int .u64 ((Q * 4294967296 + Q2 : Nat) : Int), .int .u64 r])) ∧ Same w w' := by
  have hS2 : DM.Set (Y : Int) ((Y / 4294967296 : Nat) : Int) ((Y % 4294967296 : Nat) : Int) (R : Int) ((L % 4294967296 : Nat) : Int) := by constructor <;> omega
  have hq2 := DM.quot_lt (y := Y) (u := R) (un1 := L % 4294967296) hlt (Nat.mod_lt _ (by decide))
  rw [← hQ2] at hq2
  have hI1 := DM.start_I hS1
  have hI2 := DM.start_I hS2
  have b1 := hI1.bd
  have b2 := hI2.bd
  have m1 := Int.mul_ediv_add_emod (U : Int) ((Y / 4294967296 : Nat) : Int)
  have m2 := Int.mul_ediv_add_emod (R : Int) ((Y / 4294967296 : Nat) : Int)
  refine div64_big hi lo y Y U L ((Y / 4294967296 : Nat) : Int) ((Y % 4294967296 : Nat) : Int) ((L / 4294967296 : Nat) : Int) ((L % 4294967296 : Nat) : Int)
    ((U : Int) / ((Y / 4294967296 : Nat) : Int)) ((U : Int) % ((Y / 4294967296 : Nat) : Int)) Q R ((R : Int) / ((Y / 4294967296 : Nat) : Int)) ((R : Int) % ((Y / 4294967296 : Nat) : Int)) (Q2 : Int)
    ((Q * 4294967296 + Q2 : Nat) : Int) s w (by omega) (by omega) (by omega) (by omega) (by omega) (by omega) (by omega) HZ hs63 ?_ (by omega) (by omega)
    (by simp) ?_ (by omega) (by omega) (by omega) (by omega) hor (by omega) (by omega) hL (by simp) ?_ (by omega) (by omega) (by omega) (by omega) hS1 rfl ?_ b1.1 b1.2.1 b1.2.2.1 ?_ hI1 ?_
    (by omega) (by omega) hRe hS2 rfl ?_ b2.1 b2.2.1 b2.2.2.1 ?_ hI2 ?_ (by omega) (by omega) (by omega) (by omega) ?_
  · rw [mulpow, hY, u64_id (by omega) (by omega)]
  · rw [show (4294967295 : Int) = ((2 ^ 32 - 1 : Nat) : Int) from rfl, bits_and_u64_nat _ _ (by omega) (by decide), Nat.and_two_pow_sub_one_eq_mod]
  · rw [show (4294967295 : Int) = ((2 ^ 32 - 1 : Nat) : Int) from rfl, bits_and_u64_nat _ _ (by omega) (by decide), Nat.and_two_pow_sub_one_eq_mod]
  · rw [Int.mul_comm]; omega
  · have := Int.emod_le_self_nat U (Y / 4294967296); omega
  · exact hQe
  · rw [Int.mul_comm]; omega
  · have := Int.emod_le_self_nat R (Y / 4294967296); omega
  · show _ = _; rw [hQ2]; simp
  · show _ = _; omega
theorem div64_any (hi lo y : Nat) (h0 : hi < y) (hl : lo < 18446744073709551616) (h1 : y < 18446744073709551616) (w : World) :
    Calls Tryd.prog 15 #[.int .u64 hi, .int .u64 lo, .int .u64 y] w fun e w' => (∃ r : Int, e = .returned (.tuple #[.int .u64 (((hi * 18446744073709551616 + lo) / y : Nat) : Int), .int .u64 r])) ∧ Same w w' := by
  by_cases hz : hi = 0
  · subst hz
    simpa using div64_small lo y hl h0 h1 w
  · obtain ⟨n1, n2, n3, n4⟩ := DM.norm_of (by omega : 0 < y) h1
    have hs63 : 64 - Lib.bitLen y ≤ 63 := by omega
    have HZ : Hid (∀ w : World, Calls Tryd.prog 20 #[.int .u64 y] w fun e w' => e = .returned (.int .i64 ((64 - Lib.bitLen y : Nat) : Int)) ∧ w = w') := fun w => lz64s y _ h1 w rfl
    generalize 64 - Lib.bitLen y = s at *
    obtain ⟨s1, s2, s3⟩ := DM.shifted hl hs63 h0
    have hor : bits .or .u64 (IntKind.u64.wrap ((hi : Int) * 2 ^ s)) ((lo : Int) / 2 ^ (64 - s)) = ((hi * 2 ^ s + lo / 2 ^ (64 - s) : Nat) : Int) := by
      have t1 : hi * 2 ^ s < 18446744073709551616 := Nat.lt_of_le_of_lt (Nat.le_add_right _ _) (Nat.lt_trans s2 n4)
      have t2 : lo / 2 ^ (64 - s) < 18446744073709551616 := Nat.lt_of_le_of_lt (Nat.div_le_self _ _) hl
      rw [mulpow, divpow, u64_id (Int.natCast_nonneg _) (Int.ofNat_lt.2 t1), bits_or_u64_nat _ _ t1 t2, DM.or_add s3]
    generalize hY : y * 2 ^ s = Y at *
    generalize hU : hi * 2 ^ s + lo / 2 ^ (64 - s) = U at *
    have hL : IntKind.u64.wrap ((lo : Int) * 2 ^ s) = ((lo * 2 ^ s % 18446744073709551616 : Nat) : Int) := by rw [mulpow, u64_mod]
    have hLlt : lo * 2 ^ s % 18446744073709551616 < 18446744073709551616 := Nat.mod_lt _ (by decide)
    generalize lo * 2 ^ s % 18446744073709551616 = L at *
    have hS1 : DM.Set (Y : Int) ((Y / 4294967296 : Nat) : Int) ((Y % 4294967296 : Nat) : Int) (U : Int) ((L / 4294967296 : Nat) : Int) := by constructor <;> omega
    have hq1 := DM.quot_lt (y := Y) (u := U) (un1 := L / 4294967296) s2 (by omega)
    have hQe : ((U : Int) * 4294967296 + ((L / 4294967296 : Nat) : Int)) / (Y : Int) = (((U * 4294967296 + L / 4294967296) / Y : Nat) : Int) := by simp
    have hlt : (U * 4294967296 + L / 4294967296) % Y < Y := Nat.mod_lt _ (by omega)
    have hR := DM.rest_eq (y := Y) (u := U) (un1 := L / 4294967296)
    have hRle := DM.rest_le (y := Y) (u := U) (un1 := L / 4294967296)
    have h2 := DM.two_steps (y := Y) (u := U) (un1 := L / 4294967296) (un0 := L % 4294967296) (by omega)
    have hX : (U * 4294967296 + L / 4294967296) * 4294967296 + L % 4294967296 = (hi * 18446744073709551616 + lo) * 2 ^ s := (DM.parts U L).trans s1
    rw [hX, ← hY, Nat.mul_div_mul_right _ _ (Nat.two_pow_pos s), hY] at h2
    rw [h2]
    have hRe := rem_wrap (U := U) (un1 := ((L / 4294967296 : Nat) : Int)) (Q := (((U * 4294967296 + L / 4294967296) / Y : Nat) : Int)) (Y := Y) (R := (((U * 4294967296 + L / 4294967296) % Y : Nat) : Int)) (by
      have e : (((U * 4294967296 + L / 4294967296) / Y * Y : Nat) : Int) = (((U * 4294967296 + L / 4294967296) / Y : Nat) : Int) * (Y : Int) := Int.natCast_mul _ _
      rw [← e, ← hR]; omega) (by omega) (by omega)
    exact div64_mid hi lo y s Y U L _ _ _ (by omega) h0 hl h1 n3 n4 hs63 HZ hY hor s2 hL hLlt hS1 hq1 hlt hRe hQe rfl w
end Go.Proofs.YthogepcblloaiaaDoor
