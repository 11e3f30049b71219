/- The statements of layer 2: the walks. -/
import Derived.Test.YtjimncknmbdpaaaRefClock
import Derived.Test.YtjimncknmbdpaaaShape
namespace Go.Proofs.Ytjimncknmbdpaaa
open Go.RowKit
set_option maxHeartbeats 1000000 in
theorem alive_true (w : World) :
    Calls Try.prog 10 #[] w fun e w' => e = .returned (.bool true) ∧ Below w.heap.size w w' := by
  go_enter Try.func10, Try.ntmps10
  go_wp2_with fail
  refine (new_some 2 _ (by omega)).mono ?_
  rintro e w' ⟨rfl, rfl⟩
  go_wp2_with fail
  refine (tick_some _ 0 2 _ ⟨by go_simp, by go_simp, by go_simp⟩ (by omega) (by omega) (by omega) (by omega)).mono ?_
  rintro e w' ⟨rfl, d, rfl⟩
  go_wp2_with fail
  refine (tick_some _ 1 2 _ ⟨by go_simp, by go_simp, by go_simp⟩ (by omega) (by omega) (by omega) (by omega)).mono ?_
  rintro e w' ⟨rfl, d1, rfl⟩
  go_wp2_with (first
    | (go_at_call 15; refine (first_ok 2 4 _ (by omega) (by omega) (by omega) (by omega)).mono ?_; rintro e w' ⟨rfl, rfl⟩)
    | (go_at_call 17; refine (epochOf_div 9 4 _ (by omega) (by omega) (by omega) (by omega)).mono ?_; rintro e w' ⟨rfl, rfl⟩)
    | (go_at_call 12; refine (epoch_some _ 2 2 _ ⟨by go_simp, by go_simp, by go_simp⟩ (by omega) (by omega) (by omega) (by omega)).mono ?_; rintro e w' ⟨rfl, d2, rfl⟩)
    | (go_at_call 11; refine (block_some _ 2 2 _ ⟨by go_simp, by go_simp, by go_simp⟩).mono ?_; rintro e w' ⟨rfl, rfl⟩))
  go_ret
  refine ⟨rfl, ?_⟩
  repeat (first | exact Below.refl _ _ | apply below_drewN | refine Below.setCell ?_ (by simp) _ | refine Below.alloc ?_ (by simp) _)
set_option maxHeartbeats 1000000 in
theorem law_epochs (a b n : Int) (w : World) (ha : a ≤ 9223372036854775807) (hn : n ≤ 9223372036854775807) :
    Calls Try.prog 4 #[.int .i64 a, .int .i64 b, .int .i64 n] w fun e w' => e = .returned (.bool true) ∧ Below w.heap.size w w' := by
  go_enter Try.func4, Try.ntmps4
  go_wp2_with (first
    | (go_at_call 15; refine (first_any b n _).mono ?_; rintro e w' ⟨rfl, rfl⟩)
    | (go_at_call 16; refine (rFirst_any b n _).mono ?_; rintro e w' ⟨rfl, rfl⟩)
    | (go_at_call 10; refine (alive_true _).mono ?_; rintro e w1 ⟨rfl, hb⟩)
    | (go_at_call 17; refine (epochOf_any a n _ ha hn).mono ?_; rintro e w' ⟨rfl, rfl⟩)
    | (go_at_call 14; refine (rEpochOf_any a n _ ha hn).mono ?_; rintro e w' ⟨rfl, rfl⟩))
  go_ret
  exact ⟨rfl, hb⟩
theorem inv1 (a n : Int) (h : 0 ≤ a) (hn : 1 ≤ n) : (epochF (a * n) n == a) = true := by
  have : 0 ≤ a * n := Int.mul_nonneg h (by omega)
  unfold epochF
  rw [if_neg (by omega), Int.mul_ediv_cancel a (by omega : n ≠ 0)]
  simp
theorem inv2 (a n : Int) (h : 1 ≤ a) (hn : 1 ≤ n) : (epochF (a * n - 1) n == a - 1) = true := by
  have h1 : n ≤ a * n := by have := Int.mul_le_mul_of_nonneg_right h (by omega : 0 ≤ n); omega
  unfold epochF
  rw [if_neg (by omega)]
  have : (a * n - 1) = (n - 1) + (a - 1) * n := by rw [Int.sub_mul]; omega
  rw [this, Int.add_mul_ediv_right _ _ (by omega : n ≠ 0), Int.ediv_eq_zero_of_lt (by omega) (by omega)]
  simp
set_option maxHeartbeats 1000000 in
theorem law_inverse (a n : Int) (w : World) :
    Calls Try.prog 5 #[.int .i64 a, .int .i64 n] w fun e w' => e = .returned (.bool true) ∧ Below w.heap.size w w' := by
  by_cases h : a < 0 ∨ 1099511627776 < a ∨ n < 1 ∨ 1048576 < n
  · go_enter Try.func5, Try.ntmps5
    go_wp2_with (first
      | (go_at_call 15; refine (first_no a n _ h).mono ?_; rintro e w' ⟨rfl, rfl⟩)
      | (go_at_call 10; refine (alive_true _).mono ?_; rintro e w1 ⟨rfl, hb⟩))
    go_ret
    exact ⟨rfl, hb⟩
  · have h1 : 0 ≤ a := by omega
    have h2 : a ≤ 1099511627776 := by omega
    have h3 : 1 ≤ n := by omega
    have h4 : n ≤ 1048576 := by omega
    have hm : a * n ≤ 1099511627776 * 1048576 := Int.mul_le_mul h2 h4 (by omega) (by omega)
    have hm0 : 0 ≤ a * n := Int.mul_nonneg h1 (by omega)
    have e1 := inv1 a n h1 h3
    clear h
    by_cases hz : a = 0
    · subst hz
      rw [Int.zero_mul] at e1
      go_enter Try.func5, Try.ntmps5
      go_wp2_with (first
        | (go_at_call 15; refine (first_ok _ n _ h1 h2 h3 h4).mono ?_; rintro e w' ⟨rfl, rfl⟩)
        | (go_at_call 10; refine (alive_true _).mono ?_; rintro e w1 ⟨rfl, hb⟩)
        | (go_at_call 17; refine (epochOf_any _ n _ (by omega) (by omega)).mono ?_; rintro e w' ⟨rfl, rfl⟩))
      go_ret
      exact ⟨rfl, hb⟩
    · have e2 := inv2 a n (by omega) h3
      have hz' : (a == 0) = false := by simp [hz]
      have hm1 : 1 ≤ a * n := by
        have : 1 * 1 ≤ a * n := Int.mul_le_mul (by omega) h3 (by omega) (by omega)
        omega
      clear hz
      go_enter Try.func5, Try.ntmps5
      go_wp2_with (first
        | (go_at_call 15; refine (first_ok a n _ h1 h2 h3 h4).mono ?_; rintro e w' ⟨rfl, rfl⟩)
        | (go_at_call 10; refine (alive_true _).mono ?_; rintro e w1 ⟨rfl, hb⟩)
        | (go_at_call 17; refine (epochOf_any _ n _ (by omega) (by omega)).mono ?_; rintro e w' ⟨rfl, rfl⟩))
      go_ret
      exact ⟨rfl, hb⟩
set_option maxHeartbeats 1000000 in
theorem law_nil (k : Int) (w : World) (h0 : 0 ≤ k) (h1 : k ≤ 255) :
    Calls Try.prog 6 #[.int .u8 k] w fun e w' => e = .returned (.bool true) ∧ Below w.heap.size w w' := by
  go_enter Try.func6, Try.ntmps6
  go_wp2_with fail
  refine (new_some _ _ (by omega)).mono ?_
  rintro e w' ⟨rfl, rfl⟩
  go_wp2_with fail
  refine (new_some _ _ (by omega)).mono ?_
  rintro e w' ⟨rfl, rfl⟩
  go_wp2_with fail
  refine (tick_some _ 0 1 _ ⟨by go_simp, by go_simp, by go_simp⟩ (by omega) (by omega) (by omega) (by omega)).mono ?_
  rintro e w' ⟨rfl, d, rfl⟩
  go_wp2_with fail
  refine (alive_true _).mono ?_
  rintro e w1 ⟨rfl, hb⟩
  have A : IsClock w1 w.heap.size 0 (k + 1) := IsClock.below ⟨by go_simp, by go_simp, by go_simp⟩ hb (by simp <;> omega)
  have B : IsClock w1 (w.heap.size + 1) 1 1 := IsClock.below ⟨by go_simp, by go_simp, by go_simp⟩ hb (by simp <;> omega)
  go_wp2_with (first
    | (go_at_call 13; refine (tick_nil _).mono ?_; rintro e w' ⟨rfl, rfl⟩)
    | (go_at_call 11; first | ((with_reducible refine (block_nil _).mono ?_); rintro e w' ⟨rfl, rfl⟩) | ((with_reducible refine (block_some _ _ _ _ A).mono ?_); rintro e w' ⟨rfl, rfl⟩) | ((with_reducible refine (block_some _ _ _ _ B).mono ?_); rintro e w' ⟨rfl, rfl⟩))
    | (go_at_call 12; first | ((with_reducible refine (epoch_nil _).mono ?_); rintro e w' ⟨rfl, rfl⟩) | ((with_reducible refine (epoch_some _ _ _ _ B (by omega) (by omega) (by omega) (by omega)).mono ?_); rintro e w' ⟨rfl, d2, rfl⟩)))
  go_ret
  refine ⟨rfl, ?_⟩
  apply below_drewN
  refine Below.trans ?_ (hb.mono (by simp <;> omega))
  repeat (first | exact Below.refl _ _ | apply below_drewN | refine Below.setCell ?_ (by simp) _ | refine Below.alloc ?_ (by simp) _)
theorem epochF_pos (k n : Int) (hk : 0 ≤ k) (hn : 1 ≤ n) : epochF k n = k / n := by unfold epochF; rw [if_neg (by omega)]
set_option maxHeartbeats 1000000 in
theorem law_ticks (n t : Int) (w : World) (hn' : n ≤ 9223372036854775807) (h0 : 0 ≤ t) (h1 : t ≤ 65535) :
    Calls Try.prog 3 #[.int .i64 n, .int .u16 t] w fun e w' => e = .returned (.bool true) ∧ Below w.heap.size w w' := by
  by_cases hn : n < 1
  · go_enter Try.func3, Try.ntmps3
    go_wp2_with (first
      | (go_at_call 9; refine (new_none n _ hn).mono ?_; rintro e w' ⟨rfl, rfl⟩)
      | (go_at_call 10; refine (alive_true _).mono ?_; rintro e w1 ⟨rfl, hb⟩))
    go_ret
    exact ⟨rfl, hb⟩
  · have hn1 : 1 ≤ n := by omega
    clear hn
    go_enter Try.func3, Try.ntmps3
    go_wp2_with fail
    refine (new_some _ _ hn1).mono ?_
    rintro e w' ⟨rfl, rfl⟩
    go_wp2_with (first
      | (go_at_call 11; refine (block_some _ 0 n _ ⟨by go_simp, by go_simp, by go_simp⟩).mono ?_; rintro e w' ⟨rfl, rfl⟩)
      | (go_at_call 12; refine (epoch_some _ 0 n _ ⟨by go_simp, by go_simp, by go_simp⟩ (by omega) hn1 (by omega) hn').mono ?_; rintro e w' ⟨rfl, d2, rfl⟩))
    go_loopw [6] (fun i wr => ∃ k : Int, 0 ≤ k ∧ k ≤ 2000 ∧ i = .int .i64 (k + 1) ∧ IsClock wr w.heap.size k n ∧ Below w.heap.size w wr) (fun i _ => (2001 - intOf i).toNat)
    case atStart =>
      refine ⟨0, by omega, by omega, rfl, ⟨by go_simp, by go_simp, by go_simp⟩, ?_⟩
      repeat (first | exact Below.refl _ _ | apply below_drewN | refine Below.alloc ?_ (by simp) _)
    case round =>
      obtain ⟨k, hk0, hk1, rfl, hC, hB⟩ := hrel
      by_cases hlt : k + 1 ≤ t % 2000
      · have e1 := epochF_pos (k + 1) n (by omega) hn1
        have HE := Lib.hid e1
        clear e1
        go_wp2_with fail
        refine (tick_some _ k n _ hC hk0 (by omega) hn1 hn').mono ?_
        rintro e w1 ⟨rfl, d, hw⟩
        have hC1 : IsClock w1 w.heap.size (k + 1) n := by
          obtain ⟨c0, c1, c2⟩ := hC
          rw [hw]; exact ⟨by go_simp, by go_simp, by go_simp⟩
        have hB1 : Below w.heap.size w w1 := by
          rw [hw]; exact below_drewN (Below.setCell hB (by simp) _) _
        clear hC hB hw
        go_wp2_with (first
          | (go_at_call 11; refine (block_some _ _ _ _ hC1).mono ?_; rintro e w' ⟨rfl, rfl⟩)
          | (go_at_call 12; refine (epoch_some _ _ _ _ hC1 (by omega) hn1 (by omega) hn').mono ?_; rintro e w' ⟨rfl, d2, rfl⟩)
          | (go_at_call 14; refine (rEpochOf_any _ _ _ (by omega) hn').mono ?_; rintro e w' ⟨rfl, rfl⟩; rw [HE.out]))
        go_roundw
        case rel => exact ⟨k + 1, by omega, by omega, rfl, hC1, below_drewN hB1 _⟩
        case measure => simp [intOf]; omega
      · go_wp2_with (go_at_call 10; refine (alive_true _).mono ?_; rintro e w1 ⟨rfl, hb⟩)
        go_ret
        exact ⟨rfl, hB.trans (hb.mono hB.size)⟩
set_option maxHeartbeats 1000000 in
theorem law_adds (a : Int) (v : Value) (zs : List Int) (w : World) (hv : SlR w 1 v zs.length (ints zs)) (ha : -9223372036854775808 ≤ a ∧ a ≤ 9223372036854775807) (hr : ∀ z ∈ zs, -9223372036854775808 ≤ z ∧ z ≤ 9223372036854775807) :
    Calls Try.prog 7 #[.int .i64 a, v] w fun e w' => e = .returned (.bool true) ∧ Below w.heap.size w w' := by
  have hm := hv.len_le
  unfold maxLen at hm
  by_cases hl : 1000 < zs.length
  · obtain ⟨b, off, cap, rfl, hb, _⟩ := hv.openSome (by omega)
    clear hr hv
    go_enter Try.func7, Try.ntmps7
    go_wp2_with (go_at_call 10; refine (alive_true _).mono ?_; rintro e w1 ⟨rfl, hb⟩)
    go_ret
    exact ⟨rfl, hb⟩
  · have c1 := fun w (h : SlR w 1 v zs.length (ints zs)) => later_any a v zs w h (by omega) ha hr
    have c2 := fun w (h : SlR w 1 v zs.length (ints zs)) => rLater_any a v zs w h (by omega) hr
    obtain ⟨⟨x, cap, rfl⟩, hlen⟩ : (∃ x cap, v = .slice x zs.length cap) ∧ zs.length ≤ 1000 := ⟨hv.form, by omega⟩
    have C1 := Lib.hid c1
    have C2 := Lib.hid c2
    clear c1 c2 hr
    go_enter Try.func7, Try.ntmps7
    go_wp2_with fail
    refine (C1.out _ hv).mono ?_
    rintro e w1 ⟨rfl, hb1⟩
    have hv1 := hv.below_all hb1
    go_wp2_with fail
    refine (C2.out _ hv1).mono ?_
    rintro e w2 ⟨rfl, hs⟩
    have hb2 := hb1.trans (hs.below _)
    clear hs hb1 hv hv1
    go_wp2_with (go_at_call 10; refine (alive_true _).mono ?_; rintro e w3 ⟨rfl, hb3⟩)
    go_ret
    exact ⟨rfl, hb2.trans (hb3.mono hb2.size)⟩
theorem maxGo_ge (x : Int) (l : List Int) : x ≤ maxGo x l := by
  induction l generalizing x with
  | nil => exact Int.le_refl _
  | cons n t ih =>
    rw [maxGo]
    by_cases h : x < n
    · rw [if_pos h]; have := ih n; omega
    · rw [if_neg h]; exact ih x
theorem maxGo_all (x : Int) (l : List Int) : ∀ z ∈ l, z ≤ maxGo x l := by
  induction l generalizing x with
  | nil => simp
  | cons n t ih =>
    intro z hz
    rw [maxGo]
    rcases List.mem_cons.1 hz with rfl | hz
    · by_cases h : x < z
      · rw [if_pos h]; exact maxGo_ge z t
      · rw [if_neg h]; have := maxGo_ge x t; omega
    · exact ih _ z hz
theorem maxGo_mem (x : Int) (l : List Int) : maxGo x l = x ∨ maxGo x l ∈ l := by
  induction l generalizing x with
  | nil => exact .inl rfl
  | cons n t ih =>
    rw [maxGo]
    rcases ih (if x < n then n else x) with h | h
    · rw [h]
      by_cases h' : x < n
      · rw [if_pos h']; simp
      · rw [if_neg h']; simp
    · right; simp [h]
theorem maxF_all (l : List Int) : ∀ z ∈ l, z ≤ maxF l := by
  cases l with
  | nil => simp
  | cons n t =>
    intro z hz
    rcases List.mem_cons.1 hz with rfl | hz
    · exact maxGo_ge _ _
    · exact maxGo_all _ _ z hz
theorem maxF_mem (l : List Int) (h : l ≠ []) : maxF l ∈ l := by
  cases l with
  | nil => exact absurd rfl h
  | cons n t =>
    rcases maxGo_mem n t with h | h
    · show maxGo n t ∈ _; rw [h]; simp
    · show maxGo n t ∈ _; simp [h]
set_option maxHeartbeats 1000000 in
theorem law_maximum (v : Value) (zs : List Int) (w : World) (hv : SlR w 1 v zs.length (ints zs)) :
    Calls Try.prog 8 #[v] w fun e w' => e = .returned (.bool true) ∧ Below w.heap.size w w' := by
  have hm := hv.len_le
  unfold maxLen at hm
  by_cases hl : 1000 < zs.length
  · obtain ⟨b, off, cap, rfl, hb, _⟩ := hv.openSome (by omega)
    clear hv
    go_enter Try.func8, Try.ntmps8
    go_wp2_with (go_at_call 10; refine (alive_true _).mono ?_; rintro e w1 ⟨rfl, hb⟩)
    go_ret
    exact ⟨rfl, hb⟩
  · have c1 := fun w (h : SlR w 1 v zs.length (ints zs)) => max_any zs v w h (by omega)
    have c2 := fun w (h : SlR w 1 v zs.length (ints zs)) => rMax_any zs v w h (by omega)
    have C1 := Lib.hid c1
    have C2 := Lib.hid c2
    clear c1 c2
    obtain ⟨⟨_, _, rfl⟩, hn, hx⟩ | ⟨b, off, cap, rfl, _, _, hc⟩ := hv.parts
    · have : zs = [] := List.eq_nil_of_length_eq_zero hn
      subst this
      have hv' := Lib.hid hv
      clear hn hx hv
      go_enter Try.func8, Try.ntmps8
      go_wp2_with fail
      refine (C1.out _ hv'.out).mono ?_
      rintro e w1 ⟨rfl, rfl⟩
      go_wp2
      refine wp_loop_rounds 1 ?_
      rw [rounds_succ]
      go_wp2_with fail
      refine (alive_true _).mono ?_
      rintro e w1 ⟨rfl, hb⟩
      go_wp2_with fail
      refine (C2.out _ (hv'.out.below_all hb)).mono ?_
      rintro e w1 ⟨rfl, rfl⟩
      go_wp2
      go_ret
      exact ⟨rfl, hb⟩
    · have hcell : ∀ j (h : j < zs.length), w.cell? ⟨b, off + j, none⟩ = some (.int .i64 zs[j]) := fun j h => hc j _ (ints_get h)
      have hlen : zs.length ≤ 1000 := by omega
      have hv' := Lib.hid hv
      clear hv hc hl
      go_enter Try.func8, Try.ntmps8
      go_wp2_with fail
      refine (C1.out _ hv'.out).mono ?_
      rintro e w1 ⟨rfl, rfl⟩
      by_cases hz : zs = []
      · subst hz
        go_wp2
        refine wp_loop_rounds 1 ?_
        rw [rounds_succ]
        go_wp2_with fail
        refine (alive_true _).mono ?_
        rintro e w1 ⟨rfl, hb⟩
        go_wp2_with fail
        refine (C2.out _ (hv'.out.below_all hb)).mono ?_
        rintro e w1 ⟨rfl, rfl⟩
        go_wp2
        go_ret
        exact ⟨rfl, hb⟩
      · have hmem := maxF_mem zs hz
        have hle := maxF_all zs
        have hlz : ((zs.length : Int) == 0) = false := by
          have : zs.length ≠ 0 := fun h => hz (List.eq_nil_of_length_eq_zero h)
          simp; exact hz
        have HM := Lib.hid hmem
        have HL := Lib.hid hle
        clear hmem hle hz
        generalize maxF zs = m at *
        go_wp2
        go_loop [4, 6, 18] (fun f _ i => ∃ (k : Nat) (fb : Bool), k ≤ zs.length ∧ i = .int .i64 k ∧ f = .bool fb ∧ (fb = true ∨ m ∈ zs.drop k)) (fun _ _ i => (zs.length - (intOf i).toNat))
        case atStart => exact ⟨0, false, by omega, rfl, rfl, .inr HM.out⟩
        case round =>
          obtain ⟨k, fb, hk, rfl, rfl, hinv⟩ := hrel
          by_cases hlt : k < zs.length
          · have hcl := hcell k hlt
            have hzm := HL.out zs[k] (List.getElem_mem hlt)
            have hinv' : fb = true ∨ m = zs[k] ∨ m ∈ zs.drop (k + 1) := by
              rcases hinv with h | h
              · exact .inl h
              · rw [drop_get hlt] at h
                rcases List.mem_cons.1 h with h | h
                · exact .inr (.inl h)
                · exact .inr (.inr h)
            clear hcell hinv
            generalize zs[k] = z at *
            have HI := Lib.hid hinv'
            clear hinv'
            cases fb with
            | true =>
              go_wp2
              go_round
              case rel => exact ⟨k + 1, true, by omega, by go_num, rfl, .inl rfl⟩
              case measure => simp [intOf]; omega
            | false =>
              go_wp2
              go_round
              case rel =>
                refine ⟨k + 1, z == m, by omega, by go_num, rfl, ?_⟩
                rcases HI.out with h | h | h
                · cases h
                · left; rw [h]; simp
                · exact .inr h
              case measure => simp [intOf]; omega
          · have hfb : fb = true := by
              rcases hinv with h | h
              · exact h
              · rw [List.drop_of_length_le (by omega)] at h; cases h
            subst hfb
            clear hcell hinv
            go_wp2_with fail
            refine (alive_true _).mono ?_
            rintro e w1 ⟨rfl, hb⟩
            go_wp2_with fail
            refine (C2.out _ (hv'.out.below_all hb)).mono ?_
            rintro e w1 ⟨rfl, rfl⟩
            go_wp2
            go_ret
            exact ⟨rfl, hb⟩
/-! ### The walks as the statements want them -/
theorem slice_ints {w : World} {k : IntKind} {v : Value} (h : HasSh w (.slice 1 (.int k)) [v]) : ∃ zs : List Int, SlR w 1 v zs.length (kints k zs) ∧ ∀ z ∈ zs, (Lit.int k z).wf = true := by
  cases h with
  | slice _ _ a n cap xss hn hl hs _ _ hsl =>
    obtain ⟨zs, rfl, hz⟩ : ∃ zs : List Int, xss = zs.map (fun z => [Value.int k z]) ∧ ∀ z ∈ zs, (Lit.int k z).wf = true := by
      clear hsl hn
      induction xss with
      | nil => exact ⟨[], rfl, by simp⟩
      | cons x xss ih =>
        obtain ⟨zs, rfl, hz⟩ := ih (fun x hx => hl x (by simp [hx])) (fun x hx => hs x (by simp [hx]))
        have h1 := hs x (by simp)
        cases h1 with
        | int _ z hw => exact ⟨z :: zs, rfl, fun y hy => by rcases List.mem_cons.1 hy with rfl | hy; exact hw; exact hz y hy⟩
    have e : (zs.map fun z => [Value.int k z]).flatten = kints k zs := by
      clear hsl hn hl hs hz
      induction zs with
      | nil => rfl
      | cons z zs ih => simpa [kints] using ih
    rw [e] at hsl
    have hn' : zs.length = n := by simpa using hn
    subst hn'
    exact ⟨zs, hsl, hz⟩
theorem start_ClockTicks (w : World) (n : Int) (hn : -9223372036854775808 ≤ n ∧ n ≤ 9223372036854775807) (t : Int) (ht : 0 ≤ t ∧ t ≤ 65535) :
    Calls Try.prog 3 #[.int .i64 n, .int .u16 t] w fun e w' => e = .returned (.bool true) ∧ Below w.heap.size w w' := law_ticks n t w hn.2 ht.1 ht.2
theorem start_ClockEpochs (w : World) (a : Int) (ha : -9223372036854775808 ≤ a ∧ a ≤ 9223372036854775807) (b : Int) (_hb : -9223372036854775808 ≤ b ∧ b ≤ 9223372036854775807) (n : Int) (hn : -9223372036854775808 ≤ n ∧ n ≤ 9223372036854775807) :
    Calls Try.prog 4 #[.int .i64 a, .int .i64 b, .int .i64 n] w fun e w' => e = .returned (.bool true) ∧ Below w.heap.size w w' := law_epochs a b n w ha.2 hn.2
theorem start_ClockInverse (w : World) (a : Int) (_ha : -9223372036854775808 ≤ a ∧ a ≤ 9223372036854775807) (n : Int) (_hn : -9223372036854775808 ≤ n ∧ n ≤ 9223372036854775807) :
    Calls Try.prog 5 #[.int .i64 a, .int .i64 n] w fun e w' => e = .returned (.bool true) ∧ Below w.heap.size w w' := law_inverse a n w
theorem start_ClockNil (w : World) (k : Int) (hk : 0 ≤ k ∧ k ≤ 255) :
    Calls Try.prog 6 #[.int .u8 k] w fun e w' => e = .returned (.bool true) ∧ Below w.heap.size w w' := law_nil k w hk.1 hk.2
theorem start_ClockAdds (w : World) (a : Int) (ha : -9223372036854775808 ≤ a ∧ a ≤ 9223372036854775807) (v : Value) (hv : HasSh w (.slice 1 (.int .i64)) [v]) :
    Calls Try.prog 7 #[.int .i64 a, v] w fun e w' => e = .returned (.bool true) ∧ Below w.heap.size w w' := by
  obtain ⟨zs, h1, h2⟩ := slice_ints hv
  exact law_adds a v zs w h1 ha fun z hz => bounds_i64 (h2 z hz)
theorem start_ClockMaximum (w : World) (v : Value) (hv : HasSh w (.slice 1 (.int .i64)) [v]) :
    Calls Try.prog 8 #[v] w fun e w' => e = .returned (.bool true) ∧ Below w.heap.size w w' := by
  obtain ⟨zs, h1, _⟩ := slice_ints hv
  exact law_maximum v zs w h1
end Go.Proofs.Ytjimncknmbdpaaa
