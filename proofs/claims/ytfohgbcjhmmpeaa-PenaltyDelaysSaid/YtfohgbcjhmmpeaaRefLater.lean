/- Contracts of the reference of package clock: MaxEpoch, Later. -/
import Derived.Test.YtfohgbcjhmmpeaaLater
namespace Go.Proofs.Ytfohgbcjhmmpeaa
open Go.RowKit
set_option maxHeartbeats 400000 in
theorem rMaxEpoch_any (w : World) : Calls Try.prog 46 #[] w fun e w' => e = .returned (.int .i64 1099511627776) ∧ w = w' := by
  go_enter Try.func46, Try.ntmps46
  go_wp2
  go_ret
  exact ⟨rfl, rfl⟩
set_option maxHeartbeats 1000000 in
theorem rLater_any (a : Int) (v : Value) (zs : List Int) (w : World) (hv : SlR w 1 v zs.length (ints zs)) (hl : zs.length ≤ 1000000) (hr : ∀ z ∈ zs, -9223372036854775808 ≤ z ∧ z ≤ 9223372036854775807) :
    Calls Try.prog 31 #[.int .i64 a, v] w fun e w' => e = .returned (.tuple #[.int .i64 (laterF a zs), .bool (laterB a zs)]) ∧ Same w w' := by
  have hfin : laterR a zs = (laterF a zs, laterB a zs) := laterR_eq a zs
  have HF := Lib.hid hfin
  clear hfin
  by_cases ha : a < 0
  · have HI : Hid (laterR a zs = (0, false)) := by unfold laterR; rw [if_pos (.inl ha)]; rfl
    go_enter Try.func31, Try.ntmps31
    go_wp2
    go_ret2
    exact ⟨ret_ib (pair1 HI.out HF.out) (pair2 HI.out HF.out), Same.refl _⟩
  · by_cases hb : 1099511627776 < a
    · have HI : Hid (laterR a zs = (0, false)) := by unfold laterR; rw [if_pos (.inr hb)]; rfl
      go_enter Try.func31, Try.ntmps31
      go_wp2
      go_ret2
      exact ⟨ret_ib (pair1 HI.out HF.out) (pair2 HI.out HF.out), Same.refl _⟩
    · have h0 : laterR a zs = laterGo a zs := by unfold laterR; rw [if_neg (by omega)]
      have HR := Lib.hid hr
      rw [h0] at HF
      clear h0 hr
      have hcell : ∀ j (h : j < zs.length), ∃ b off cap, v = .slice (some ⟨b, off, none⟩) zs.length cap ∧ w.cell? ⟨b, off + j, none⟩ = some (.int .i64 zs[j]) := fun j h => by
        obtain ⟨b, off, cap, e, _, hc⟩ := hv.openSome (by omega)
        exact ⟨b, off, cap, e, hc j _ (ints_get h)⟩
      obtain ⟨⟨_, _, rfl⟩, hn, hx⟩ | ⟨b, off, cap, rfl, _, _, hc⟩ := hv.parts
      · have : zs = [] := List.eq_nil_of_length_eq_zero hn
        subst this
        have HI : Hid (laterGo a [] = (a, true)) := rfl
        go_enter Try.func31, Try.ntmps31
        go_wp2
        refine wp_loop_rounds 1 ?_
        rw [rounds_succ]
        go_wp2
        go_ret2
        exact ⟨ret_ib (pair1 HI.out HF.out) (pair2 HI.out HF.out), Same.refl _⟩
      · have hcell : ∀ j (h : j < zs.length), w.cell? ⟨b, off + j, none⟩ = some (.int .i64 zs[j]) := fun j h => hc j _ (ints_get h)
        clear hc hv
        go_enter Try.func31, Try.ntmps31
        go_wp2
        go_loopw [0, 6] (fun s i wr => ∃ (k : Nat) (x : Int), k ≤ zs.length ∧ 0 ≤ x ∧ x ≤ 1099511627776 ∧ i = .int .i64 k ∧ s = .int .i64 x ∧ Same w wr ∧ laterGo a zs = laterGo x (zs.drop k)) (fun _ i _ => (zs.length - (intOf i).toNat))
        case atStart => exact ⟨0, a, by omega, by omega, by omega, rfl, rfl, Same.refl w, rfl⟩
        case round =>
          obtain ⟨k, x, hk, hx0, hx1, rfl, rfl, hS, hinv⟩ := hrel
          by_cases hlt : k < zs.length
          · have hcl := (hS.cell _).trans (hcell k hlt)
            have hz := HR.out zs[k] (List.getElem_mem hlt)
            rw [drop_get hlt, laterGo] at hinv
            clear hcell
            generalize zs[k] = z at *
            by_cases h1 : z < 0
            · rw [if_pos (.inl h1)] at hinv
              have HI := Lib.hid hinv
              clear hinv
              go_wp2_with fail
              go_quiet ((go_at_call 46; exact quiet_eq (rMaxEpoch_any _)))
              go_wp2
              go_ret2
              exact ⟨ret_ib (pair1 HI.out HF.out) (pair2 HI.out HF.out), hS.more _⟩
            · have hd1 : decide (z < 0) = false := by simpa using h1
              by_cases h2 : 1099511627776 - x < z
              · rw [if_pos (.inr h2)] at hinv
                have HI := Lib.hid hinv
                clear hinv
                go_wp2_with fail
                go_quiet ((go_at_call 46; exact quiet_eq (rMaxEpoch_any _)))
                go_wp2
                go_ret2
                exact ⟨ret_ib (pair1 HI.out HF.out) (pair2 HI.out HF.out), hS.more _⟩
              · rw [if_neg (by omega)] at hinv
                have HI := Lib.hid hinv
                clear hinv
                go_wp2_with fail
                go_quiet ((go_at_call 46; exact quiet_eq (rMaxEpoch_any _)))
                go_wp2
                go_roundw
                case rel => exact ⟨k + 1, x + z, by omega, by omega, by omega, by go_num, rfl, hS.more _, HI.out⟩
                case measure => simp [intOf]; omega
          · rw [List.drop_of_length_le (by omega), laterGo] at hinv
            have HI := Lib.hid hinv
            clear hinv hcell
            go_wp2
            go_ret2
            exact ⟨ret_ib (pair1 HI.out HF.out) (pair2 HI.out HF.out), hS⟩
end Go.Proofs.Ytfohgbcjhmmpeaa
