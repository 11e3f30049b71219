/- Contracts of package penalty: the changes that call others. -/
import Derived.Test.YtfohgbcjhmmpeaaPenaltyC
namespace Go.Proofs.Ytfohgbcjhmmpeaa
open Go.RowKit
set_option linter.unusedVariables false
theorem slr_of_block {w : World} {b : Nat} {c : Array Value} {t : TypeId} (h : BlockIs w b c t) (n : Nat) (hn : n = c.size) (hm : n ≤ maxLen) : SlR w 1 (.slice (some ⟨b, 0, none⟩) n n) n c.toList := by
  subst hn
  exact ⟨by simp, .inr ⟨b, 0, c.size, rfl, h.lt, hm, fun j u hu => by rw [Nat.zero_add]; exact h.cell (by simpa using hu)⟩⟩
set_option maxHeartbeats 1000000 in
theorem delay_ok (b c d : Nat) (bal st rq ex wd dl ep dy : Int) (sl : Bool) (w : World) (hv : BlockIs w b (Val.cells ⟨bal, st, sl, rq, ex, wd, dl⟩) 28) (hc : w.cell? ⟨c, 0, none⟩ = some (.int .i64 ep)) (hd : w.cell? ⟨d, 0, none⟩ = some (.int .i64 dy))
    (hep : (Lit.int .i64 ep).wf = true) (hdy : (Lit.int .i64 dy).wf = true) (h : laterB ep [dy] = true) :
    Calls Try.prog 44 #[.pointer (some ⟨b, 0, none⟩), .pointer (some ⟨c, 0, none⟩), .pointer (some ⟨d, 0, none⟩)] w fun r w' => r = .returned (.int .i64 0) ∧ Upd [b] w w' ∧
      BlockIs w' b (Val.cells ⟨bal, st, sl, rq, ex, maxF [wd, laterF ep [dy]], dl⟩) 28 := by
  have ⟨v0, v1, v2, v3, v4, v5, v6, f0, f1, f2, f3, f4, f5, f6⟩ := vfacts hv
  have hl := hv.lt
  have c0 := hc
  have d0 := hd
  have HL := Lib.hid (later_any ep _ [dy] _ (slr_of_block (BlockIs.new w #[.int .i64 dy] 3) 1 rfl (by decide)) (by simp) (bounds_i64 hep) (by simp; exact bounds_i64 hdy))
  rw [h] at HL
  have HM : Hid (∀ w1 : World, Calls Try.prog 45 #[.slice (some ⟨w1.heap.size, 0, none⟩) 2 2] (w1.alloc (.cells #[.int .i64 wd, .int .i64 (laterF ep [dy])] 3)) fun r w' => r = .returned (.int .i64 (maxF [wd, laterF ep [dy]])) ∧ w1.alloc (.cells #[.int .i64 wd, .int .i64 (laterF ep [dy])] 3) = w') := fun w1 =>
    max_any [wd, laterF ep [dy]] _ _ (slr_of_block (BlockIs.new w1 #[.int .i64 wd, .int .i64 (laterF ep [dy])] 3) 2 rfl (by decide)) (by simp)
  clear h
  generalize laterF ep [dy] = x at *
  generalize maxF [wd, x] = y at *
  go_enter Try.func44, Try.ntmps44
  go_wp2_with (first
    | (go_at_call 34; refine (HL.out).mono ?_; rintro r w1 ⟨rfl, hb0⟩; have hb1 := ((Below.refl w.heap.size w).alloc (Nat.le_refl _) (.cells #[.int .i64 dy] 3)).trans (hb0.mono (by simp)); have g3 := (hb1.frozen (p := ⟨b, 5, none⟩) hl).trans f5; have g1 := (hb1.cell (p := ⟨b, 5, none⟩) hl).trans v5; have g4 := hv.below hb1 hl; have g5 : Upd [b] w w1 := Upd.of_below hb1; have g6 := Nat.lt_of_lt_of_le hl hb1.size; clear hb1 hb0)
    | (go_at_call 45; refine (HM.out _).mono ?_; rintro r w2 ⟨rfl, rfl⟩))
  go_ret
  exact ⟨rfl, (g5.setCell (by simp) _ _).alloc _, (g4.set 5 _).alloc _⟩
set_option maxHeartbeats 1000000 in
theorem delay_no (b c d : Nat) (bal st rq ex wd dl ep dy : Int) (sl : Bool) (w : World) (hv : BlockIs w b (Val.cells ⟨bal, st, sl, rq, ex, wd, dl⟩) 28) (hc : w.cell? ⟨c, 0, none⟩ = some (.int .i64 ep)) (hd : w.cell? ⟨d, 0, none⟩ = some (.int .i64 dy))
    (hep : (Lit.int .i64 ep).wf = true) (hdy : (Lit.int .i64 dy).wf = true) (h : laterB ep [dy] = false) :
    Calls Try.prog 44 #[.pointer (some ⟨b, 0, none⟩), .pointer (some ⟨c, 0, none⟩), .pointer (some ⟨d, 0, none⟩)] w fun r w' => r = .returned (.int .i64 10) ∧ Upd [b] w w' := by
  have c0 := hc
  have d0 := hd
  have HL := Lib.hid (later_any ep _ [dy] _ (slr_of_block (BlockIs.new w #[.int .i64 dy] 3) 1 rfl (by decide)) (by simp) (bounds_i64 hep) (by simp; exact bounds_i64 hdy))
  rw [h] at HL
  clear h
  go_enter Try.func44, Try.ntmps44
  go_wp2_with (go_at_call 34; refine (HL.out).mono ?_; rintro r w1 ⟨rfl, hb0⟩; have g5 : Upd [b] w w1 := Upd.of_below (((Below.refl w.heap.size w).alloc (Nat.le_refl _) (.cells #[.int .i64 dy] 3)).trans (hb0.mono (by simp))))
  go_ret
  exact ⟨rfl, g5⟩
/-- The penalty. -/
def penF (b n d : Int) : Int := if d < n then 0 else mulF b n d
def penB (b n d : Int) : Bool := if d < n then false else mulB b n d
set_option maxHeartbeats 1000000 in
theorem amount_any (b n d : Int) (w : World) (hb0 : 0 ≤ b) (hb : b ≤ 18446744073709551615) (hn0 : 0 ≤ n) (hn : n ≤ 18446744073709551615) (hd0 : 0 ≤ d) (hd : d ≤ 18446744073709551615) :
    Calls Try.prog 9 #[.int .u64 b, .int .u64 n, .int .u64 d] w fun r w' => r = .returned (.tuple #[.int .u64 (penF b n d), .bool (penB b n d)]) ∧ Below w.heap.size w w' := by
  unfold penF penB
  by_cases h : d < n
  · rw [if_pos h, if_pos h]
    go_enter Try.func9, Try.ntmps9
    go_wp2
    go_ret2
    exact ⟨rfl, Below.refl _ _⟩
  · rw [if_neg h, if_neg h]
    have HM := Lib.hid (fun w => mulDiv_any b n d w hb0 hb hn0 hn hd0 hd)
    go_enter Try.func9, Try.ntmps9
    go_wp2_with (go_at_call 21; refine (HM.out _).mono ?_; rintro r w1 ⟨rfl, hb1⟩)
    go_ret2
    exact ⟨rfl, hb1⟩
theorem mulF_le (b n d : Int) (hb0 : 0 ≤ b) (hn0 : 0 ≤ n) (h : n ≤ d) : 0 ≤ mulF b n d ∧ mulF b n d ≤ b := by
  unfold mulF
  by_cases hc : b * n < d * 18446744073709551616
  · rw [if_pos hc]
    by_cases hd : d = 0
    · subst hd; simp; exact hb0
    · have h1 : b * n ≤ b * d := Int.mul_le_mul_of_nonneg_left h hb0
      exact ⟨Int.ediv_nonneg (Int.mul_nonneg hb0 hn0) (by omega), Int.ediv_le_of_le_mul (by omega) h1⟩
  · rw [if_neg hc]; omega
theorem penF_le (b n d : Int) (hb0 : 0 ≤ b) (hn0 : 0 ≤ n) : 0 ≤ penF b n d ∧ penF b n d ≤ b := by
  unfold penF
  by_cases h : d < n
  · rw [if_pos h]; omega
  · rw [if_neg h]; exact mulF_le b n d hb0 hn0 (by omega)
set_option maxHeartbeats 2000000 in
theorem burn_ok (b c u : Nat) (bal st rq ex wd dl pn pd u0 : Int) (sl : Bool) (w : World) (hv : BlockIs w b (Val.cells ⟨bal, st, sl, rq, ex, wd, dl⟩) 28) (c18 : w.cell? ⟨c, 18, none⟩ = some (.int .u64 pn)) (c19 : w.cell? ⟨c, 19, none⟩ = some (.int .u64 pd)) (hcl : c < w.heap.size)
    (hu : w.cell? ⟨u, 0, none⟩ = some (.int .u64 u0) ∧ w.frozen? ⟨u, 0, none⟩ = false) (hub : u ≠ b) (huc : u ≠ c) (hcu : c ≠ u) (hbu : b ≠ u)
    (hb0 : 0 ≤ bal) (hb : bal ≤ 18446744073709551615) (hn0 : 0 ≤ pn) (hn : pn ≤ 18446744073709551615) (hd0 : 0 ≤ pd) (hd : pd ≤ 18446744073709551615) :
    Calls Try.prog 26 #[.pointer (some ⟨b, 0, none⟩), .pointer (some ⟨c, 0, none⟩), .pointer (some ⟨u, 0, none⟩)] w fun r w' => r = .returned (.int .i64 0) ∧ Upd [b, u] w w' ∧
      BlockIs w' b (Val.cells ⟨bal - penF bal pn pd, st, sl, rq, ex, wd, dl⟩) 28 ∧ (w'.cell? ⟨u, 0, none⟩ = some (.int .u64 (penF bal pn pd)) ∧ w'.frozen? ⟨u, 0, none⟩ = false) := by
  have ⟨v0, _, _, _, _, _, _, f0, _, _, _, _, _, _⟩ := vfacts hv
  have hl := hv.lt
  obtain ⟨u0', fu⟩ := hu
  have hl2 : u < w.heap.size := World.block_lt_of_cell? w _ u0'
  have HA := Lib.hid (fun w => amount_any bal pn pd w hb0 hb hn0 hn hd0 hd)
  obtain ⟨p0, p1⟩ := penF_le bal pn pd hb0 hn0
  generalize penF bal pn pd = x at *
  generalize penB bal pn pd = y at *
  go_enter Try.func26, Try.ntmps26
  go_wp2_with fail
  go_region_held3 (fun w' => w'.cell? ⟨b, 0, none⟩ = some (.int .u64 bal) ∧ w'.cell? ⟨c, 18, none⟩ = some (.int .u64 pn) ∧ w'.cell? ⟨c, 19, none⟩ = some (.int .u64 pd)) (go_keep) (first | (go_at_call 9; refine (HA.out _).mono ?_; rintro r w1 ⟨rfl, hb00⟩; have hb1 := undrew hb00; have g1 := (hb1.cell (p := ⟨b, 0, none⟩) hl).trans v0; have g2 := (hb1.cell (p := ⟨c, 18, none⟩) hcl).trans c18; have g3 := (hb1.cell (p := ⟨c, 19, none⟩) hcl).trans c19; have g6 := (hb1.frozen (p := ⟨b, 0, none⟩) hl).trans f0; have g7 := (hb1.frozen (p := ⟨u, 0, none⟩) hl2).trans fu; have g8 := (hb1.cell (p := ⟨u, 0, none⟩) hl2).trans u0'; have g4 := hv.below hb1 hl; have g5 : Upd [b, u] w w1 := Upd.of_below hb1; clear hb1 hb00))
  go_wp2_with fail
  go_region
  go_wp2
  go_ret
  refine ⟨rfl, ?_, ?_, ?_⟩
  · repeat (with_reducible first | exact g5 | refine Upd.drew ?_ | refine Upd.setCell ?_ (by simp) _ _)
  · exact BlockIs.drew ((g4.other hbu 0 _).set 0 _)
  · exact ⟨by go_simp, by go_simp⟩
end Go.Proofs.Ytfohgbcjhmmpeaa
