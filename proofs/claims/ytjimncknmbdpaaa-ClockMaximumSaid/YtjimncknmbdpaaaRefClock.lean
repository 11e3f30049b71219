/- Contracts of the reference of package clock. -/
import Derived.Test.YtjimncknmbdpaaaLater
namespace Go.Proofs.Ytjimncknmbdpaaa
open Go.RowKit
set_option maxHeartbeats 400000 in
theorem rEpochOf_any (a n : Int) (w : World) (hb : a ≤ 9223372036854775807) (hc : n ≤ 9223372036854775807) :
    Calls Try.prog 14 #[.int .i64 a, .int .i64 n] w fun e w' => e = .returned (.int .i64 (epochF a n)) ∧ w = w' := by
  unfold epochF
  by_cases h1 : a < 0
  · rw [if_pos (.inl h1)]
    go_enter Try.func14, Try.ntmps14
    go_wp2
    go_ret
    exact ⟨rfl, rfl⟩
  · by_cases h2 : n < 1
    · rw [if_pos (.inr h2)]
      go_enter Try.func14, Try.ntmps14
      go_wp2
      go_ret
      exact ⟨rfl, rfl⟩
    · rw [if_neg (by omega)]
      go_enter Try.func14, Try.ntmps14
      go_wp2
      go_ret
      exact ⟨rfl, rfl⟩
set_option maxHeartbeats 400000 in
theorem rMaxEpoch_any (w : World) : Calls Try.prog 24 #[] w fun e w' => e = .returned (.int .i64 1099511627776) ∧ w = w' := by
  go_enter Try.func24, Try.ntmps24
  go_wp2
  go_ret
  exact ⟨rfl, rfl⟩
set_option maxHeartbeats 400000 in
theorem rFirst_any (a n : Int) (w : World) :
    Calls Try.prog 16 #[.int .i64 a, .int .i64 n] w fun e w' => e = .returned (.tuple #[.int .i64 (firstF a n), .bool (firstB a n)]) ∧ w = w' := by
  unfold firstF firstB
  by_cases h1 : a < 0
  · rw [if_pos (by omega), decide_eq_true (by omega)]
    go_enter Try.func16, Try.ntmps16
    go_wp2
    go_ret2
    exact ⟨rfl, rfl⟩
  · by_cases h2 : 1099511627776 < a
    · rw [if_pos (by omega), decide_eq_true (by omega)]
      go_enter Try.func16, Try.ntmps16
      go_wp2
      go_ret2
      exact ⟨rfl, rfl⟩
    · by_cases h3 : n < 1
      · rw [if_pos (by omega), decide_eq_true (by omega)]
        go_enter Try.func16, Try.ntmps16
        go_wp2
        go_ret2
        exact ⟨rfl, rfl⟩
      · by_cases h4 : 1048576 < n
        · rw [if_pos (by omega), decide_eq_true (by omega)]
          go_enter Try.func16, Try.ntmps16
          go_wp2
          go_ret2
          exact ⟨rfl, rfl⟩
        · have hm : a * n ≤ 1099511627776 * 1048576 := Int.mul_le_mul (by omega) (by omega) (by omega) (by omega)
          have hm0 : 0 ≤ a * n := Int.mul_nonneg (by omega) (by omega)
          rw [if_neg (by omega), decide_eq_false (by omega)]
          go_enter Try.func16, Try.ntmps16
          go_wp2
          go_ret2
          exact ⟨rfl, rfl⟩
set_option maxHeartbeats 1000000 in
theorem rMax_any (zs : List Int) (v : Value) (w : World) (hv : SlR w 1 v zs.length (ints zs)) (hl : zs.length ≤ 1000000) :
    Calls Try.prog 21 #[v] w fun e w' => e = .returned (.int .i64 (maxF zs)) ∧ w = w' := by
  cases zs with
  | nil =>
    obtain ⟨⟨_, _, rfl⟩, _, _⟩ | ⟨b, off, cap, rfl, hb, _, hc⟩ := hv.parts
    all_goals
      go_enter Try.func21, Try.ntmps21
      go_wp2
      go_ret
      exact ⟨rfl, rfl⟩
  | cons z zs =>
    obtain ⟨b, off, cap, rfl, hb, hc⟩ := hv.openSome (by simp)
    have hcell : ∀ j (h : j < (z :: zs).length), w.cell? ⟨b, off + j, none⟩ = some (.int .i64 (z :: zs)[j]) := fun j h => hc j _ (ints_get h)
    have h0 : w.cell? ⟨b, off, none⟩ = some (.int .i64 z) := hcell 0 (by simp)
    have hfin : maxF (z :: zs) = maxGo z ((z :: zs).drop 1) := rfl
    have hpos : 1 ≤ (z :: zs).length := by simp
    have HF := Lib.hid hfin
    clear hc hv hfin
    generalize z :: zs = l at *
    generalize maxF l = r at *
    go_enter Try.func21, Try.ntmps21
    go_wp2
    go_loop [3, 4] (fun m i => ∃ (k : Nat) (x : Int), 1 ≤ k ∧ k ≤ l.length ∧ i = .int .i64 k ∧ m = .int .i64 x ∧ r = maxGo x (l.drop k)) (fun _ i => (l.length - (intOf i).toNat))
    case atStart => exact ⟨1, z, by omega, by omega, rfl, rfl, HF.out⟩
    case round =>
      obtain ⟨k, x, hk1, hk, rfl, rfl, hinv⟩ := hrel
      by_cases hlt : k < l.length
      · have hcl := hcell k hlt
        rw [drop_get hlt, maxGo] at hinv
        have HI := Lib.hid hinv
        clear hcell hinv
        generalize l[k] = n at *
        go_wp2
        go_round
        case rel => exact ⟨k + 1, _, by omega, by omega, by go_num, rfl, HI.out⟩
        case measure => simp [intOf]; omega
      · rw [List.drop_of_length_le (by omega), maxGo] at hinv
        have HI := Lib.hid hinv
        clear hinv hcell
        go_wp2
        go_ret
        exact ⟨by rw [HI.out]; rfl, rfl⟩
set_option maxHeartbeats 1000000 in
theorem rLater_any (a : Int) (v : Value) (zs : List Int) (w : World) (hv : SlR w 1 v zs.length (ints zs)) (hl : zs.length ≤ 1000000) (hr : ∀ z ∈ zs, -9223372036854775808 ≤ z ∧ z ≤ 9223372036854775807) :
    Calls Try.prog 19 #[.int .i64 a, v] w fun e w' => e = .returned (.tuple #[.int .i64 (laterF a zs), .bool (laterB a zs)]) ∧ Same w w' := by
  have hfin : laterR a zs = (laterF a zs, laterB a zs) := laterR_eq a zs
  have HF := Lib.hid hfin
  clear hfin
  by_cases ha : a < 0
  · have HI : Hid (laterR a zs = (0, false)) := by unfold laterR; rw [if_pos (.inl ha)]; rfl
    go_enter Try.func19, Try.ntmps19
    go_wp2
    go_ret2
    exact ⟨ret_ib (pair1 HI.out HF.out) (pair2 HI.out HF.out), Same.refl _⟩
  · by_cases hb : 1099511627776 < a
    · have HI : Hid (laterR a zs = (0, false)) := by unfold laterR; rw [if_pos (.inr hb)]; rfl
      go_enter Try.func19, Try.ntmps19
      go_wp2
      go_ret2
      exact ⟨ret_ib (pair1 HI.out HF.out) (pair2 HI.out HF.out), Same.refl _⟩
    · have h0 : laterR a zs = laterGo a zs := by unfold laterR; rw [if_neg (by omega)]
      have HR := Lib.hid hr
      rw [h0] at HF
      clear h0 hr
      have hcell : ∀ j (h : j < zs.length), ∃ b off cap, v = .slice (some ⟨b, off, none⟩) zs.length cap ∧ w.cell? ⟨b, off + j, none⟩ = some (.int .i64 zs[j]) := fun j h => by
        obtain ⟨b, off, cap, e, _, hc⟩ := hv.openSome (by omega)
        exact ⟨b, off, cap, e, hc j _ (ints_get h)⟩
      obtain ⟨⟨_, _, rfl⟩, hn, hx⟩ | ⟨b, off, cap, rfl, _, _, hc⟩ := hv.parts
      · have : zs = [] := List.eq_nil_of_length_eq_zero hn
        subst this
        have HI : Hid (laterGo a [] = (a, true)) := rfl
        go_enter Try.func19, Try.ntmps19
        go_wp2
        refine wp_loop_rounds 1 ?_
        rw [rounds_succ]
        go_wp2
        go_ret2
        exact ⟨ret_ib (pair1 HI.out HF.out) (pair2 HI.out HF.out), Same.refl _⟩
      · have hcell : ∀ j (h : j < zs.length), w.cell? ⟨b, off + j, none⟩ = some (.int .i64 zs[j]) := fun j h => hc j _ (ints_get h)
        clear hc hv
        go_enter Try.func19, Try.ntmps19
        go_wp2
        go_loopw [0, 6] (fun s i wr => ∃ (k : Nat) (x : Int), k ≤ zs.length ∧ 0 ≤ x ∧ x ≤ 1099511627776 ∧ i = .int .i64 k ∧ s = .int .i64 x ∧ Same w wr ∧ laterGo a zs = laterGo x (zs.drop k)) (fun _ i _ => (zs.length - (intOf i).toNat))
        case atStart => exact ⟨0, a, by omega, by omega, by omega, rfl, rfl, Same.refl w, rfl⟩
        case round =>
          obtain ⟨k, x, hk, hx0, hx1, rfl, rfl, hS, hinv⟩ := hrel
          by_cases hlt : k < zs.length
          · have hcl := (hS.cell _).trans (hcell k hlt)
            have hz := HR.out zs[k] (List.getElem_mem hlt)
            rw [drop_get hlt, laterGo] at hinv
            clear hcell
            generalize zs[k] = z at *
            by_cases h1 : z < 0
            · rw [if_pos (.inl h1)] at hinv
              have HI := Lib.hid hinv
              clear hinv
              go_wp2_with fail
              go_quiet ((go_at_call 24; exact quiet_eq (rMaxEpoch_any _)))
              go_wp2
              go_ret2
              exact ⟨ret_ib (pair1 HI.out HF.out) (pair2 HI.out HF.out), hS.more _⟩
            · have hd1 : decide (z < 0) = false := by simpa using h1
              by_cases h2 : 1099511627776 - x < z
              · rw [if_pos (.inr h2)] at hinv
                have HI := Lib.hid hinv
                clear hinv
                go_wp2_with fail
                go_quiet ((go_at_call 24; exact quiet_eq (rMaxEpoch_any _)))
                go_wp2
                go_ret2
                exact ⟨ret_ib (pair1 HI.out HF.out) (pair2 HI.out HF.out), hS.more _⟩
              · rw [if_neg (by omega)] at hinv
                have HI := Lib.hid hinv
                clear hinv
                go_wp2_with fail
                go_quiet ((go_at_call 24; exact quiet_eq (rMaxEpoch_any _)))
                go_wp2
                go_roundw
                case rel => exact ⟨k + 1, x + z, by omega, by omega, by omega, by go_num, rfl, hS.more _, HI.out⟩
                case measure => simp [intOf]; omega
          · rw [List.drop_of_length_le (by omega), laterGo] at hinv
            have HI := Lib.hid hinv
            clear hinv hcell
            go_wp2
            go_ret2
            exact ⟨ret_ib (pair1 HI.out HF.out) (pair2 HI.out HF.out), hS⟩
end Go.Proofs.Ytjimncknmbdpaaa
