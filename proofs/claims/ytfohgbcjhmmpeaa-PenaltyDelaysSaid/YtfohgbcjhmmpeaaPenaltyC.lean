/- Contracts of package penalty: the single changes. -/
import Derived.Test.YtfohgbcjhmmpeaaPenalty
namespace Go.Proofs.Ytfohgbcjhmmpeaa
open Go.RowKit
set_option linter.unusedVariables false
set_option maxHeartbeats 1000000 in
theorem event_ok (b c : Nat) (bal st rq ex wd dl ev : Int) (sl : Bool) (w : World) (hv : BlockIs w b (Val.cells ⟨bal, st, sl, rq, ex, wd, dl⟩) 28) (hc : w.cell? ⟨c, 0, none⟩ = some (.int .i64 ev)) (hs : (Lit.int .i64 st).wf = true) (he : (Lit.int .i64 ev).wf = true) (hn : nextF st ev ≠ 0) :
    Calls Try.prog 42 #[.pointer (some ⟨b, 0, none⟩), .pointer (some ⟨c, 0, none⟩)] w fun r w' => r = .returned (.int .i64 0) ∧ Upd [b] w w' ∧
      BlockIs w' b (Val.cells ⟨bal, nextF st ev, sl, rq, ex, wd, dl⟩) 28 := by
  have ⟨v0, v1, v2, v3, v4, v5, v6, f0, f1, f2, f3, f4, f5, f6⟩ := vfacts hv
  have hl := hv.lt
  have c0 := hc
  have hl2 : c < w.heap.size := World.block_lt_of_cell? w _ hc
  have HN := Lib.hid (fun w => next_status st ev hs he w)
  have hnb : (nextF st ev != 0) = true := by simpa using hn
  generalize nextF st ev = x at *
  go_enter Try.func42, Try.ntmps42
  go_wp2_with fail
  go_region_held3 (fun w' => w'.cell? ⟨b, 1, none⟩ = some (.int .i64 st) ∧ w'.cell? ⟨c, 0, none⟩ = some (.int .i64 ev)) (go_keep) (first | (go_at_call 43; refine (HN.out _).mono ?_; rintro r w1 ⟨rfl, hb0⟩; have hb1 := undrew hb0; have g1 := (hb1.cell (p := ⟨b, 1, none⟩) hl).trans v1; have g2 := (hb1.cell (p := ⟨c, 0, none⟩) hl2).trans c0; have g3 := (hb1.frozen (p := ⟨b, 1, none⟩) hl).trans f1; have g4 := hv.below hb1 hl; have g5 : Upd [b] w w1 := Upd.of_below hb1; clear hb1 hb0))
  go_wp2
  go_ret
  exact ⟨rfl, g5.setCell (by simp) _ _, g4.set 1 _⟩
set_option maxHeartbeats 1000000 in
theorem event_no (b c : Nat) (bal st rq ex wd dl ev : Int) (sl : Bool) (w : World) (hv : BlockIs w b (Val.cells ⟨bal, st, sl, rq, ex, wd, dl⟩) 28) (hc : w.cell? ⟨c, 0, none⟩ = some (.int .i64 ev)) (hs : (Lit.int .i64 st).wf = true) (he : (Lit.int .i64 ev).wf = true) (hn : nextF st ev = 0) :
    Calls Try.prog 42 #[.pointer (some ⟨b, 0, none⟩), .pointer (some ⟨c, 0, none⟩)] w fun r w' => r = .returned (.int .i64 8) ∧ Upd [b] w w' := by
  have ⟨v0, v1, v2, v3, v4, v5, v6, f0, f1, f2, f3, f4, f5, f6⟩ := vfacts hv
  have hl := hv.lt
  have c0 := hc
  have hl2 : c < w.heap.size := World.block_lt_of_cell? w _ hc
  have HN := Lib.hid (fun w => next_status st ev hs he w)
  have hnb : (nextF st ev != 0) = false := by simpa using hn
  clear hn
  generalize nextF st ev = x at *
  go_enter Try.func42, Try.ntmps42
  go_wp2_with fail
  go_region_held3 (fun w' => w'.cell? ⟨b, 1, none⟩ = some (.int .i64 st) ∧ w'.cell? ⟨c, 0, none⟩ = some (.int .i64 ev)) (go_keep) (first | (go_at_call 43; refine (HN.out _).mono ?_; rintro r w1 ⟨rfl, hb0⟩; have hb1 := undrew hb0; have g1 := (hb1.cell (p := ⟨b, 1, none⟩) hl).trans v1; have g2 := (hb1.cell (p := ⟨c, 0, none⟩) hl2).trans c0; have g5 : Upd [b] w w1 := Upd.of_below hb1; clear hb1 hb0))
  go_wp2
  go_ret
  exact ⟨rfl, g5⟩
set_option maxHeartbeats 1000000 in
theorem mark_act (b c : Nat) (bal st rq ex wd dl ep : Int) (sl : Bool) (w : World) (hv : BlockIs w b (Val.cells ⟨bal, st, sl, rq, ex, wd, dl⟩) 28) (hc : w.cell? ⟨c, 0, none⟩ = some (.int .i64 ep)) (hsl : sl = false) (h2 : (st == 2) = true) (hbc : b ≠ c) :
    Calls Try.prog 25 #[.pointer (some ⟨b, 0, none⟩), .pointer (some ⟨c, 0, none⟩)] w fun r w' => r = .returned (.int .i64 0) ∧ Upd [b] w w' ∧
      BlockIs w' b (Val.cells ⟨bal, st, true, ep, ex, wd, -1⟩) 28 := by
  have ⟨v0, v1, v2, v3, v4, v5, v6, f0, f1, f2, f3, f4, f5, f6⟩ := vfacts hv
  have hl := hv.lt
  have c0 := hc
  subst hsl
  have hu := hv
  go_enter Try.func25, Try.ntmps25
  go_wp2
  go_ret
  refine ⟨rfl, ?_, ?_⟩
  · repeat (with_reducible first | exact Upd.refl _ _ | refine Upd.setCell ?_ (by simp) _ _)
  · exact ((hu.set 3 _).set 2 _).set 6 _
set_option maxHeartbeats 1000000 in
theorem mark_oth (b c : Nat) (bal st rq ex wd dl ep : Int) (sl : Bool) (w : World) (hv : BlockIs w b (Val.cells ⟨bal, st, sl, rq, ex, wd, dl⟩) 28) (hc : w.cell? ⟨c, 0, none⟩ = some (.int .i64 ep)) (hsl : sl = false) (h2 : (st == 2) = false) (hbc : b ≠ c) :
    Calls Try.prog 25 #[.pointer (some ⟨b, 0, none⟩), .pointer (some ⟨c, 0, none⟩)] w fun r w' => r = .returned (.int .i64 0) ∧ Upd [b] w w' ∧
      BlockIs w' b (Val.cells ⟨bal, st, true, rq, ex, wd, -1⟩) 28 := by
  have ⟨v0, v1, v2, v3, v4, v5, v6, f0, f1, f2, f3, f4, f5, f6⟩ := vfacts hv
  have hl := hv.lt
  have c0 := hc
  subst hsl
  have hu := hv
  go_enter Try.func25, Try.ntmps25
  go_wp2
  go_ret
  refine ⟨rfl, ?_, ?_⟩
  · repeat (with_reducible first | exact Upd.refl _ _ | refine Upd.setCell ?_ (by simp) _ _)
  · exact (hu.set 2 _).set 6 _
set_option maxHeartbeats 1000000 in
theorem mark_no (b c : Nat) (bal st rq ex wd dl ep : Int) (sl : Bool) (w : World) (hv : BlockIs w b (Val.cells ⟨bal, st, sl, rq, ex, wd, dl⟩) 28) (hsl : sl = true) :
    Calls Try.prog 25 #[.pointer (some ⟨b, 0, none⟩), .pointer (some ⟨c, 0, none⟩)] w fun r w' => r = .returned (.int .i64 9) ∧ Upd [b] w w' := by
  have ⟨v0, v1, v2, v3, v4, v5, v6, f0, f1, f2, f3, f4, f5, f6⟩ := vfacts hv
  have hl := hv.lt
  subst hsl
  go_enter Try.func25, Try.ntmps25
  go_wp2
  go_ret
  exact ⟨rfl, Upd.refl _ _⟩
set_option maxHeartbeats 1000000 in
theorem due_ok (b c : Nat) (bal st rq ex wd dl ep : Int) (sl : Bool) (w : World) (hv : BlockIs w b (Val.cells ⟨bal, st, sl, rq, ex, wd, dl⟩) 28) (hc : w.cell? ⟨c, 0, none⟩ = some (.int .i64 ep)) (h : ¬ ep < wd) :
    Calls Try.prog 32 #[.pointer (some ⟨b, 0, none⟩), .pointer (some ⟨c, 0, none⟩)] w fun r w' => r = .returned (.int .i64 0) ∧ Upd [b] w w' ∧
      BlockIs w' b (Val.cells ⟨0, st, sl, rq, ex, wd, dl⟩) 28 := by
  have ⟨v0, v1, v2, v3, v4, v5, v6, f0, f1, f2, f3, f4, f5, f6⟩ := vfacts hv
  have hl := hv.lt
  have c0 := hc
  have hd : decide (ep < wd) = false := by simpa using h
  go_enter Try.func32, Try.ntmps32
  go_wp2_with fail
  go_quiet (fail)
  go_wp2
  go_ret
  exact ⟨rfl, ((Upd.refl _ _).setCell (by simp) _ _).drewN _, (hv.set 0 _).drewN _⟩
set_option maxHeartbeats 1000000 in
theorem due_no (b c : Nat) (bal st rq ex wd dl ep : Int) (sl : Bool) (w : World) (hv : BlockIs w b (Val.cells ⟨bal, st, sl, rq, ex, wd, dl⟩) 28) (hc : w.cell? ⟨c, 0, none⟩ = some (.int .i64 ep)) (h : ep < wd) :
    Calls Try.prog 32 #[.pointer (some ⟨b, 0, none⟩), .pointer (some ⟨c, 0, none⟩)] w fun r w' => r = .returned (.int .i64 8) ∧ Upd [b] w w' := by
  have ⟨v0, v1, v2, v3, v4, v5, v6, f0, f1, f2, f3, f4, f5, f6⟩ := vfacts hv
  have hl := hv.lt
  have c0 := hc
  go_enter Try.func32, Try.ntmps32
  go_wp2_with fail
  go_quiet (fail)
  go_wp2
  go_ret
  exact ⟨rfl, (Upd.refl _ _).drewN _⟩
set_option maxHeartbeats 1000000 in
theorem request_ok (b c : Nat) (bal st rq ex wd dl ep : Int) (sl : Bool) (w : World) (hv : BlockIs w b (Val.cells ⟨bal, st, sl, rq, ex, wd, dl⟩) 28) (hc : w.cell? ⟨c, 0, none⟩ = some (.int .i64 ep)) (hep : (Lit.int .i64 ep).wf = true) (h : laterB ep [] = true) :
    Calls Try.prog 33 #[.pointer (some ⟨b, 0, none⟩), .pointer (some ⟨c, 0, none⟩)] w fun r w' => r = .returned (.int .i64 0) ∧ Upd [b] w w' ∧
      BlockIs w' b (Val.cells ⟨bal, st, sl, ep, ex, wd, dl⟩) 28 := by
  have ⟨v0, v1, v2, v3, v4, v5, v6, f0, f1, f2, f3, f4, f5, f6⟩ := vfacts hv
  have hl := hv.lt
  have c0 := hc
  have hl2 : c < w.heap.size := World.block_lt_of_cell? w _ hc
  have HL := Lib.hid (fun w => later_any ep (.slice none 0 0) [] w (SlR.nil _ _) (by simp) (bounds_i64 hep) (by simp))
  rw [h] at HL
  go_enter Try.func33, Try.ntmps33
  go_wp2_with (go_at_call 34; refine (HL.out _).mono ?_; rintro r w1 ⟨rfl, hb1⟩; have g3 := (hb1.frozen (p := ⟨b, 3, none⟩) hl).trans f3; have g1 := (hb1.cell (p := ⟨b, 3, none⟩) hl).trans v3; have g2 := (hb1.cell (p := ⟨c, 0, none⟩) hl2).trans c0; have g4 := hv.below hb1 hl; have g5 : Upd [b] w w1 := Upd.of_below hb1; clear hb1)
  go_ret
  exact ⟨rfl, g5.setCell (by simp) _ _, g4.set 3 _⟩
set_option maxHeartbeats 1000000 in
theorem request_no (b c : Nat) (bal st rq ex wd dl ep : Int) (sl : Bool) (w : World) (hv : BlockIs w b (Val.cells ⟨bal, st, sl, rq, ex, wd, dl⟩) 28) (hc : w.cell? ⟨c, 0, none⟩ = some (.int .i64 ep)) (hep : (Lit.int .i64 ep).wf = true) (h : laterB ep [] = false) :
    Calls Try.prog 33 #[.pointer (some ⟨b, 0, none⟩), .pointer (some ⟨c, 0, none⟩)] w fun r w' => r = .returned (.int .i64 10) ∧ Upd [b] w w' := by
  have ⟨v0, v1, v2, v3, v4, v5, v6, f0, f1, f2, f3, f4, f5, f6⟩ := vfacts hv
  have hl := hv.lt
  have c0 := hc
  have HL := Lib.hid (fun w => later_any ep (.slice none 0 0) [] w (SlR.nil _ _) (by simp) (bounds_i64 hep) (by simp))
  rw [h] at HL
  go_enter Try.func33, Try.ntmps33
  go_wp2_with (go_at_call 34; refine (HL.out _).mono ?_; rintro r w1 ⟨rfl, hb1⟩; have g5 : Upd [b] w w1 := Upd.of_below hb1; clear hb1)
  go_ret
  exact ⟨rfl, g5⟩
set_option maxHeartbeats 1000000 in
theorem fresh_ok (b c : Nat) (bal st rq ex wd dl xt : Int) (sl : Bool) (w : World) (hv : BlockIs w b (Val.cells ⟨bal, st, sl, rq, ex, wd, dl⟩) 28) (hc : w.cell? ⟨c, 0, none⟩ = some (.int .i64 xt)) (h1 : (st != 3) = false) (h2 : (ex != -1) = false) :
    Calls Try.prog 35 #[.pointer (some ⟨b, 0, none⟩), .pointer (some ⟨c, 0, none⟩)] w fun r w' => r = .returned (.int .i64 0) ∧ Upd [b] w w' ∧
      BlockIs w' b (Val.cells ⟨bal, st, sl, rq, xt, wd, dl⟩) 28 := by
  have ⟨v0, v1, v2, v3, v4, v5, v6, f0, f1, f2, f3, f4, f5, f6⟩ := vfacts hv
  have hl := hv.lt
  have c0 := hc
  go_enter Try.func35, Try.ntmps35
  go_wp2
  go_ret
  exact ⟨rfl, (Upd.refl _ _).setCell (by simp) _ _, hv.set 4 _⟩
set_option maxHeartbeats 1000000 in
theorem fresh_no1 (b c : Nat) (bal st rq ex wd dl  : Int) (sl : Bool) (w : World) (hv : BlockIs w b (Val.cells ⟨bal, st, sl, rq, ex, wd, dl⟩) 28) (h1 : (st != 3) = true) :
    Calls Try.prog 35 #[.pointer (some ⟨b, 0, none⟩), .pointer (some ⟨c, 0, none⟩)] w fun r w' => r = .returned (.int .i64 8) ∧ Upd [b] w w' := by
  have ⟨v0, v1, v2, v3, v4, v5, v6, f0, f1, f2, f3, f4, f5, f6⟩ := vfacts hv
  have hl := hv.lt
  go_enter Try.func35, Try.ntmps35
  go_wp2
  go_ret
  exact ⟨rfl, Upd.refl _ _⟩
set_option maxHeartbeats 1000000 in
theorem fresh_no2 (b c : Nat) (bal st rq ex wd dl  : Int) (sl : Bool) (w : World) (hv : BlockIs w b (Val.cells ⟨bal, st, sl, rq, ex, wd, dl⟩) 28) (h1 : (st != 3) = false) (h2 : (ex != -1) = true) :
    Calls Try.prog 35 #[.pointer (some ⟨b, 0, none⟩), .pointer (some ⟨c, 0, none⟩)] w fun r w' => r = .returned (.int .i64 8) ∧ Upd [b] w w' := by
  have ⟨v0, v1, v2, v3, v4, v5, v6, f0, f1, f2, f3, f4, f5, f6⟩ := vfacts hv
  have hl := hv.lt
  go_enter Try.func35, Try.ntmps35
  go_wp2
  go_ret
  exact ⟨rfl, Upd.refl _ _⟩
end Go.Proofs.Ytfohgbcjhmmpeaa
