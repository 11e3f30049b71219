/- Contracts of the reference of package gwei: MulDiv. -/
import Derived.Test.YtfohgbcjhmmpeaaDoorGweiMul
namespace Go.Proofs.YtfohgbcjhmmpeaaDoor
open Go.RowKit
set_option maxHeartbeats 400000 in
theorem rMax1_any (w : World) : Calls Tryd.prog 16 #[] w fun e w' => e = .returned (.int .u64 18446744073709551615) ∧ w = w' := by
  go_enter Tryd.func16, Tryd.ntmps16
  go_wp2
  go_ret
  exact ⟨rfl, rfl⟩
set_option maxHeartbeats 1000000 in
theorem rAdd_lo (q r x d : Int) (w : World) (r0 : 0 ≤ r) (x0 : 0 ≤ x) (xd : x ≤ d) (d1 : d ≤ 18446744073709551615) (h : r < d - x) :
    Calls Tryd.prog 20 #[.int .u64 q, .int .u64 r, .int .u64 x, .int .u64 d] w fun e w' => e = .returned (.tuple #[.int .u64 q, .int .u64 (r + x), .bool true]) ∧ w = w' := by
  go_enter Tryd.func20, Tryd.ntmps20
  go_wp2_with (go_at_call 16; refine (rMax1_any _).mono ?_; rintro e w' ⟨rfl, rfl⟩)
  go_ret3
  exact ⟨rfl, rfl⟩
set_option maxHeartbeats 1000000 in
theorem rAdd_hi (q r x d : Int) (w : World) (q0 : 0 ≤ q) (q1 : q ≤ 18446744073709551614) (r0 : 0 ≤ r) (rd : r ≤ d) (x0 : 0 ≤ x) (xd : x ≤ d) (d1 : d ≤ 18446744073709551615) (h : ¬ r < d - x) :
    Calls Tryd.prog 20 #[.int .u64 q, .int .u64 r, .int .u64 x, .int .u64 d] w fun e w' => e = .returned (.tuple #[.int .u64 (q + 1), .int .u64 (r - (d - x)), .bool true]) ∧ w = w' := by
  have hb : (q == 18446744073709551615) = false := by rw [beq_eq_false_iff_ne]; omega
  go_enter Tryd.func20, Tryd.ntmps20
  go_wp2_with (go_at_call 16; refine (rMax1_any _).mono ?_; rintro e w' ⟨rfl, rfl⟩)
  go_ret3
  exact ⟨rfl, rfl⟩
set_option maxHeartbeats 1000000 in
theorem rAdd_over (r x d : Int) (w : World) (r0 : 0 ≤ r) (x0 : 0 ≤ x) (xd : x ≤ d) (d1 : d ≤ 18446744073709551615) (h : ¬ r < d - x) :
    Calls Tryd.prog 20 #[.int .u64 18446744073709551615, .int .u64 r, .int .u64 x, .int .u64 d] w fun e w' => e = .returned (.tuple #[.int .u64 0, .int .u64 0, .bool false]) ∧ w = w' := by
  go_enter Tryd.func20, Tryd.ntmps20
  go_wp2_with (go_at_call 16; refine (rMax1_any _).mono ?_; rintro e w' ⟨rfl, rfl⟩)
  go_ret3
  exact ⟨rfl, rfl⟩
theorem rAdd_any (q r x d : Int) (q0 : 0 ≤ q) (q1 : q ≤ 18446744073709551615) (r0 : 0 ≤ r) (rd : r < d) (x0 : 0 ≤ x) (xd : x < d) (d1 : d ≤ 18446744073709551615) :
    (∃ q' r', (∀ w, Calls Tryd.prog 20 #[.int .u64 q, .int .u64 r, .int .u64 x, .int .u64 d] w fun e w' => e = .returned (.tuple #[.int .u64 q', .int .u64 r', .bool true]) ∧ w = w') ∧
      q' * d + r' = q * d + r + x ∧ 0 ≤ q' ∧ q' ≤ 18446744073709551615 ∧ 0 ≤ r' ∧ r' < d) ∨
    ((∀ w, Calls Tryd.prog 20 #[.int .u64 q, .int .u64 r, .int .u64 x, .int .u64 d] w fun e w' => e = .returned (.tuple #[.int .u64 0, .int .u64 0, .bool false]) ∧ w = w') ∧
      q = 18446744073709551615 ∧ d ≤ r + x) := by
  by_cases h : r < d - x
  · exact .inl ⟨q, r + x, fun w => rAdd_lo q r x d w r0 x0 (by omega) d1 h, by omega, q0, q1, by omega, by omega⟩
  · by_cases hq : q = 18446744073709551615
    · subst hq
      exact .inr ⟨fun w => rAdd_over r x d w r0 x0 (by omega) d1 h, rfl, by omega⟩
    · refine .inl ⟨q + 1, r - (d - x), fun w => rAdd_hi q r x d w q0 (by omega) r0 (by omega) x0 (by omega) d1 h, ?_, by omega, by omega, by omega, by omega⟩
      rw [Int.add_mul]; omega
/-! ### The plain mathematics of the loop -/
theorem up_le {a b d p B : Int} (ha : 0 ≤ a) (hp : 0 ≤ p) (hB : B * p ≤ b) {n : Int} (h : n * d ≤ a * B) : n * p * d ≤ a * b := by
  have h1 : a * (B * p) ≤ a * b := Int.mul_le_mul_of_nonneg_left hB ha
  have h2 : n * d * p ≤ a * B * p := Int.mul_le_mul_of_nonneg_right h hp
  rw [Int.mul_right_comm n p d]
  exact Int.le_trans h2 (by rw [Int.mul_assoc]; exact h1)
theorem pow_split (b : Int) (k : Nat) : b / 2 ^ k = 2 * (b / 2 ^ (k + 1)) + b / 2 ^ k % 2 ∧ (b / 2 ^ k % 2 = 0 ∨ b / 2 ^ k % 2 = 1) := by
  have e : b / 2 ^ (k + 1) = b / 2 ^ k / 2 := by rw [Int.pow_succ, Int.ediv_ediv_of_nonneg (Int.le_of_lt (Int.pow_pos (by decide)))]
  rw [e]; omega
theorem pow_le (b : Int) (k : Nat) : b / 2 ^ k * 2 ^ k ≤ b := Int.ediv_mul_le _ (Int.ne_of_gt (Int.pow_pos (by decide)))
/-- The quotient does not fit, as soon as a part of it does not. -/
theorem big_of {a b d n : Int} {k : Nat} (ha : 0 ≤ a) (hd : 0 ≤ d) (hn : 18446744073709551616 ≤ n * 2 ^ k) (h : n * d ≤ a * (b / 2 ^ k)) : d * 18446744073709551616 ≤ a * b := by
  have h1 := up_le (p := 2 ^ k) ha (Int.le_of_lt (Int.pow_pos (by decide))) (pow_le b k) h
  have h2 := Int.mul_le_mul_of_nonneg_right hn hd
  rw [Int.mul_comm d]
  exact Int.le_trans h2 h1
theorem and_one (x : Int) (h0 : 0 ≤ x) (h1 : x ≤ 18446744073709551615) : bits .and .u64 x 1 = x % 2 := by
  obtain ⟨n, rfl⟩ := Int.eq_ofNat_of_zero_le h0
  rw [show (1 : Int) = ((1 : Nat) : Int) from rfl, bits_and_u64_nat _ _ (by omega) (by decide), Nat.and_one_is_mod]
  simp
theorem shr_le {b : Int} (h0 : 0 ≤ b) (k : Nat) : 0 ≤ b / 2 ^ k ∧ b / 2 ^ k ≤ b := by
  refine ⟨Int.ediv_nonneg h0 (Int.le_of_lt (Int.pow_pos (by decide))), ?_⟩
  have h1 := pow_le b k
  have h2 : 0 ≤ b / 2 ^ k := Int.ediv_nonneg h0 (Int.le_of_lt (Int.pow_pos (by decide)))
  have h3 : (1 : Int) ≤ 2 ^ k := Int.pow_pos (by decide)
  have h4 := Int.mul_le_mul_of_nonneg_left h3 h2
  omega
theorem pow_one_le (k : Nat) : (1 : Int) ≤ 2 ^ k := Int.pow_pos (by decide)
set_option maxRecDepth 100000 in
set_option maxHeartbeats 1000000 in
theorem rMulDiv_any (a b d : Int) (w : World) (ha0 : 0 ≤ a) (ha : a ≤ 18446744073709551615) (hb0 : 0 ≤ b) (hb : b ≤ 18446744073709551615) (hd0 : 0 ≤ d) (hd : d ≤ 18446744073709551615) :
    Calls Tryd.prog 9 #[.int .u64 a, .int .u64 b, .int .u64 d] w fun e w' => e = .returned (.tuple #[.int .u64 (mulF a b d), .bool (mulB a b d)]) ∧ w = w' := by
  have hF : ∀ (x : Int) (t : Bool), mulF a b d = x → mulB a b d = t → (Ending.returned (.tuple #[.int .u64 x, .bool t]) = .returned (.tuple #[.int .u64 (mulF a b d), .bool (mulB a b d)])) := fun x t h1 h2 => by rw [h1, h2]
  have hno : d * 18446744073709551616 ≤ a * b → mulF a b d = 0 ∧ mulB a b d = false := fun h => by
    unfold mulF mulB
    exact ⟨if_neg (by omega), decide_eq_false (by omega)⟩
  by_cases hz : d = 0
  · subst hz
    have h1 := hno (by have := Int.mul_nonneg ha0 hb0; omega)
    have H1 := Lib.hid h1
    have HF := Lib.hid (hF 0 false)
    clear h1 hno hF
    go_enter Tryd.func9, Tryd.ntmps9
    go_wp2
    go_ret2
    exact ⟨HF.out H1.out.1 H1.out.2, rfl⟩
  · have d1 : 1 ≤ d := by omega
    have hbz : (d == 0) = false := by rw [beq_eq_false_iff_ne]; omega
    have HNO := Lib.hid hno
    have HFF := Lib.hid hF
    clear hz hno hF
    go_enter Tryd.func9, Tryd.ntmps9
    go_wp2
    go_loop [8, 9, 10, 11, 12] (fun q r i _ _ => ∃ (q' r' : Int) (k : Nat), q = .int .u64 q' ∧ r = .int .u64 r' ∧ i = .int .i64 ((k : Int) - 1) ∧ k ≤ 64 ∧ 0 ≤ q' ∧ q' ≤ 18446744073709551615 ∧ 0 ≤ r' ∧ r' < d ∧ Hid (q' * d + r' = a * (b / 2 ^ k))) (fun _ _ i _ _ => (intOf i + 1).toNat)
    case atStart =>
      refine ⟨0, 0, 64, rfl, rfl, rfl, by omega, by omega, by omega, by omega, by omega, ?_⟩
      show _ = _
      rw [Int.ediv_eq_zero_of_lt hb0 (by omega)]; simp
    case round =>
      obtain ⟨q, r, k, rfl, rfl, rfl, hk, q0, q1, r0, rd, HI⟩ := hrel
      cases k with
      | zero =>
        have e1 : q * d + r = a * b := by have := HI.out; simpa using this
        have h2 : mulF a b d = q ∧ mulB a b d = true := by
          unfold mulF mulB
          have e2 : a * b / d = q := by rw [← e1, Int.add_comm, Int.add_mul_ediv_right _ _ (by omega), Int.ediv_eq_zero_of_lt r0 rd]; omega
          have h3 : a * b < d * 18446744073709551616 := by
            have : q * d ≤ 18446744073709551615 * d := Int.mul_le_mul_of_nonneg_right q1 (by omega)
            omega
          exact ⟨by rw [if_pos h3, e2], decide_eq_true h3⟩
        have H2 := Lib.hid h2
        clear h2 e1 HI
        go_wp2
        go_ret2
        exact ⟨HFF.out _ _ H2.out.1 H2.out.2, rfl⟩
      | succ k =>
        have hk1 : k ≤ 63 := by omega
        by_cases c1 : 9223372036854775807 < q
        · have h1 := HNO.out (big_of (k := k + 1) (n := q) ha0 hd0 (by rw [Int.pow_succ]; have := pow_one_le k; have h2 : q * (2 ^ k * 2) = (q * 2) * 2 ^ k := by rw [Int.mul_comm (2 ^ k) 2, Int.mul_assoc]
                                                                       rw [h2]; have h3 := Int.mul_le_mul (show 18446744073709551616 ≤ q * 2 by omega) this (by omega) (by omega); omega) (by have := HI.out; omega))
          have H1 := Lib.hid h1
          clear h1 HI
          go_wp2_with (go_at_call 16; refine (rMax1_any _).mono ?_; rintro e w' ⟨rfl, rfl⟩)
          go_ret2
          exact ⟨HFF.out _ _ H1.out.1 H1.out.2, rfl⟩
        · rcases rAdd_any (2 * q) r r d (by omega) (by omega) r0 rd r0 rd hd with ⟨qa, ra, hc1, he1, qa0, qa1, ra0, rad⟩ | ⟨_, hbad, _⟩
          · have HC1 := Lib.hid hc1
            have HE1 := Lib.hid he1
            have c1' : q ≤ 9223372036854775807 := by omega
            obtain ⟨hsplit, hbit⟩ := pow_split b k
            have hIa : qa * d + ra = a * (2 * (b / 2 ^ (k + 1))) := by
              have h1 := HI.out
              rw [Int.mul_left_comm, ← h1, he1, Int.mul_assoc]; omega
            have hb2 := shr_le hb0 k
            have hand := and_one (b / 2 ^ k) hb2.1 (by omega)
            have hmin : min k 64 = k := by omega
            have ek : (((k + 1 : Nat) : Int) - 1) = (k : Int) := by omega
            rw [ek]
            clear ek hc1 he1 HI
            rcases hbit with hbit | hbit
            · have HIN : Hid (qa * d + ra = a * (b / 2 ^ k)) := by
                show _ = _
                rw [hIa, show 2 * (b / 2 ^ (k + 1)) = b / 2 ^ k by omega]
              rw [hbit] at hand
              clear hbit hsplit hIa c1
              go_wp2_with (first
                | (go_at_call 16; refine (rMax1_any _).mono ?_; rintro e w' ⟨rfl, rfl⟩)
                | (go_at_call 20; refine (HC1.out _).mono ?_; rintro e w' ⟨rfl, rfl⟩))
              go_round
              case rel => exact ⟨qa, ra, k, rfl, rfl, rfl, by omega, qa0, qa1, ra0, rad, HIN⟩
              case measure => simp [intOf] <;> omega
            · have hsum : qa * d + ra + a = a * (b / 2 ^ k) := by
                rw [hIa, show b / 2 ^ k = 2 * (b / 2 ^ (k + 1)) + 1 by omega, Int.mul_add, Int.mul_one]
              have hdm := Int.mul_ediv_add_emod a d
              have hm0 := Int.emod_nonneg a (show d ≠ 0 by omega)
              have hm1 := Int.emod_lt_of_pos a (show 0 < d by omega)
              have hdiv0 : 0 ≤ a / d := Int.ediv_nonneg ha0 hd0
              have hdiv1 : a / d ≤ 18446744073709551615 := Int.le_trans (Int.ediv_le_self d ha0) ha
              have hpk := pow_one_le k
              rw [hbit] at hand
              clear hbit hsplit hIa c1
              have HSUM := Lib.hid hsum
              have HDM := Lib.hid hdm
              have hq : IntKind.u64.wrap (a / d) = a / d := u64_id hdiv0 (by omega)
              clear hsum hdm
              by_cases c2 : 18446744073709551615 - qa < a / d
              · have h1 := HNO.out (big_of (k := k) (n := qa + a / d) ha0 hd0 (by have h3 := Int.mul_le_mul (show 18446744073709551616 ≤ qa + a / d by omega) hpk (by omega) (by omega); omega) (by
                  have := HSUM.out; have := HDM.out; rw [Int.add_mul, Int.mul_comm (a / d)]; omega))
                have H1 := Lib.hid h1
                clear h1
                go_wp2_with (first
                  | (go_at_call 16; refine (rMax1_any _).mono ?_; rintro e w' ⟨rfl, rfl⟩)
                  | (go_at_call 20; refine (HC1.out _).mono ?_; rintro e w' ⟨rfl, rfl⟩))
                go_ret2
                exact ⟨HFF.out _ _ H1.out.1 H1.out.2, rfl⟩
              · rcases rAdd_any (qa + a / d) ra (a % d) d (by omega) (by omega) ra0 rad hm0 hm1 hd with ⟨qb, rb, hc2, he2, qb0, qb1, rb0, rbd⟩ | ⟨hc2, hbad, hge⟩
                · have HIN : Hid (qb * d + rb = a * (b / 2 ^ k)) := by
                    show _ = _
                    have h1 := HSUM.out
                    have h2 := HDM.out
                    rw [Int.add_mul, Int.mul_comm (a / d)] at he2
                    omega
                  have HC2 := Lib.hid hc2
                  clear hc2 he2
                  go_wp2_with (first
                    | (go_at_call 16; refine (rMax1_any _).mono ?_; rintro e w' ⟨rfl, rfl⟩)
                    | (go_at_call 20; ((with_reducible refine (HC1.out _).mono ?_); rintro e w' ⟨rfl, rfl⟩))
                    | (go_at_call 20; ((with_reducible refine (HC2.out _).mono ?_); rintro e w' ⟨rfl, rfl⟩)))
                  go_round
                  case rel => exact ⟨qb, rb, k, rfl, rfl, rfl, by omega, qb0, qb1, rb0, rbd, HIN⟩
                  case measure => simp [intOf] <;> omega
                · have h1 := HNO.out (big_of (k := k) (n := qa + a / d + 1) ha0 hd0 (by have h3 := Int.mul_le_mul (show 18446744073709551616 ≤ qa + a / d + 1 by omega) hpk (by omega) (by omega); omega) (by
                    have := HSUM.out; have := HDM.out; rw [Int.add_mul, Int.add_mul, Int.mul_comm (a / d)]; omega))
                  have H1 := Lib.hid h1
                  have HC2 := Lib.hid hc2
                  clear h1 hc2 hbad
                  go_wp2_with (first
                    | (go_at_call 16; refine (rMax1_any _).mono ?_; rintro e w' ⟨rfl, rfl⟩)
                    | (go_at_call 20; ((with_reducible refine (HC1.out _).mono ?_); rintro e w' ⟨rfl, rfl⟩))
                    | (go_at_call 20; ((with_reducible refine (HC2.out _).mono ?_); rintro e w' ⟨rfl, rfl⟩)))
                  go_ret2
                  exact ⟨HFF.out _ _ H1.out.1 H1.out.2, rfl⟩
          · exfalso; omega
end Go.Proofs.YtfohgbcjhmmpeaaDoor
