/- Contracts of the reference of package penalty. -/
import Derived.Test.YtfohgbcjhmmpeaaRefLater
import Derived.Test.YtfohgbcjhmmpeaaRefGwei
import Derived.Test.YtfohgbcjhmmpeaaPenaltyH
namespace Go.Proofs.Ytfohgbcjhmmpeaa
open Go.RowKit
set_option linter.unusedVariables false
def epochB (e : Int) : Bool := decide (0 ≤ e ∧ e ≤ 1099511627776)
set_option maxHeartbeats 400000 in
theorem rEpoch_any (e : Int) (w : World) : Calls Try.prog 36 #[.int .i64 e] w fun r w' => r = .returned (.bool (epochB e)) ∧ w = w' := by
  by_cases h0 : 0 ≤ e
  · by_cases h1 : e ≤ 1099511627776
    · have hd1 : decide (e ≤ 1099511627776) = true := by simpa using h1
      have HD := Lib.hid (show epochB e = true by simp [epochB, h0, h1])
      go_enter Try.func36, Try.ntmps36
      go_wp2_with (go_at_call 46; refine (rMaxEpoch_any _).mono ?_; rintro r w1 ⟨rfl, rfl⟩)
      go_ret
      exact ⟨by rw [HD.out]; first | rfl | simp [*], rfl⟩
    · have hd1 : decide (e ≤ 1099511627776) = false := by simpa using h1
      have HD := Lib.hid (show epochB e = false by simp [epochB]; omega)
      go_enter Try.func36, Try.ntmps36
      go_wp2_with (go_at_call 46; refine (rMaxEpoch_any _).mono ?_; rintro r w1 ⟨rfl, rfl⟩)
      go_ret
      exact ⟨by rw [HD.out]; first | rfl | simp [*], rfl⟩
  · have HD := Lib.hid (show epochB e = false by simp [epochB]; omega)
    go_enter Try.func36, Try.ntmps36
    go_wp2
    go_ret
    exact ⟨by rw [HD.out]; first | rfl | simp [*], rfl⟩
set_option maxHeartbeats 1000000 in
theorem rNext_any (s e : Int) (w : World) : Calls Try.prog 30 #[.int .i64 s, .int .i64 e] w fun r w' => r = .returned (.int .i64 (nextF s e)) ∧ w = w' := by
  by_cases h7 : e = 7
  · subst h7
    by_cases h2 : s = 2
    · subst h2
      go_enter Try.func30, Try.ntmps30
      go_wp2
      go_ret
      exact ⟨rfl, rfl⟩
    · by_cases h3 : s = 3
      · subst h3
        go_enter Try.func30, Try.ntmps30
        go_wp2
        go_ret
        exact ⟨rfl, rfl⟩
      · by_cases h4 : s = 4
        · subst h4
          go_enter Try.func30, Try.ntmps30
          go_wp2
          go_ret
          exact ⟨rfl, rfl⟩
        · by_cases h5 : s = 5
          · subst h5
            go_enter Try.func30, Try.ntmps30
            go_wp2
            go_ret
            exact ⟨rfl, rfl⟩
          · have HI := Lib.hid (show nextF s 7 = 0 by unfold nextF; simp [h2, h3, h4, h5])
            have d2 : (s == 2) = false := by simpa using h2
            have d3 : (s == 3) = false := by simpa using h3
            have d4 : (s == 4) = false := by simpa using h4
            have d5 : (s == 5) = false := by simpa using h5
            go_enter Try.func30, Try.ntmps30
            go_wp2
            go_ret
            exact ⟨by rw [HI.out]; rfl, rfl⟩
  · have d7 : (e == 7) = false := by simpa using h7
    by_cases h6 : e = 6
    · subst h6
      by_cases h2 : s = 2
      · subst h2
        go_enter Try.func30, Try.ntmps30
        go_wp2
        go_ret
        exact ⟨rfl, rfl⟩
      · have HI := Lib.hid (show nextF s 6 = 0 by unfold nextF; simp [h2])
        have d2 : (s == 2) = false := by simpa using h2
        go_enter Try.func30, Try.ntmps30
        go_wp2
        go_ret
        exact ⟨by rw [HI.out]; rfl, rfl⟩
    · have d6 : (e == 6) = false := by simpa using h6
      by_cases h1 : 1 ≤ e ∧ e ≤ 5 ∧ s = e
      · obtain ⟨h1, h5, rfl⟩ := h1
        have HI := Lib.hid (show nextF s s = s + 1 by unfold nextF; simp [h7, h6, h1, h5])
        go_enter Try.func30, Try.ntmps30
        go_wp2
        go_ret
        exact ⟨by rw [HI.out]; rfl, rfl⟩
      · have HI := Lib.hid (show nextF s e = 0 by unfold nextF; rw [if_neg h7, if_neg (by omega), if_neg h1])
        by_cases h1a : 1 ≤ e
        · by_cases h5a : e ≤ 5
          · have ds : (s == e) = false := by simp; omega
            go_enter Try.func30, Try.ntmps30
            go_wp2
            go_ret
            exact ⟨by rw [HI.out]; rfl, rfl⟩
          · have d5 : decide (e ≤ 5) = false := by simpa using h5a
            go_enter Try.func30, Try.ntmps30
            go_wp2
            go_ret
            exact ⟨by rw [HI.out]; rfl, rfl⟩
        · have d1 : decide (1 ≤ e) = false := by simpa using h1a
          go_enter Try.func30, Try.ntmps30
          go_wp2
          go_ret
          exact ⟨by rw [HI.out]; rfl, rfl⟩
set_option maxHeartbeats 1000000 in
theorem rAmount_any (b n d : Int) (w : World) (hb0 : 0 ≤ b) (hb : b ≤ 18446744073709551615) (hn0 : 0 ≤ n) (hn : n ≤ 18446744073709551615) (hd0 : 0 ≤ d) (hd : d ≤ 18446744073709551615) :
    Calls Try.prog 10 #[.int .u64 b, .int .u64 n, .int .u64 d] w fun r w' => r = .returned (.tuple #[.int .u64 (penF b n d), .bool (penB b n d)]) ∧ w = w' := by
  by_cases h0 : d = 0
  · subst h0
    have HI := Lib.hid (show penF b n 0 = 0 ∧ penB b n 0 = false by
      unfold penF penB
      by_cases h : (0 : Int) < n
      · simp [h]
      · have : n = 0 := by omega
        subst this
        simp [mulF, mulB])
    go_enter Try.func10, Try.ntmps10
    go_wp2
    go_ret2
    exact ⟨ret_ib (HI.out.1.symm) (HI.out.2.symm), rfl⟩
  · have hd1 : (d == 0) = false := by simpa using h0
    by_cases h : d < n
    · have HI := Lib.hid (show penF b n d = 0 ∧ penB b n d = false by simp [penF, penB, h])
      go_enter Try.func10, Try.ntmps10
      go_wp2
      go_ret2
      exact ⟨ret_ib (HI.out.1.symm) (HI.out.2.symm), rfl⟩
    · have HI := Lib.hid (show penF b n d = mulF b n d ∧ penB b n d = mulB b n d by simp [penF, penB, h])
      have hdn : decide (d < n) = false := by simpa using h
      have HM := Lib.hid (rMulDiv_any b n d w hb0 hb hn0 hn hd0 hd)
      go_enter Try.func10, Try.ntmps10
      go_wp2_with (go_at_call 22; refine (HM.out).mono ?_; rintro r w1 ⟨rfl, rfl⟩)
      go_ret2
      exact ⟨ret_ib (HI.out.1.symm) (HI.out.2.symm), rfl⟩
theorem laterB_nil (e : Int) : laterB e [] = epochB e := by
  unfold laterB epochB
  simp only [laterGo]
  by_cases h : 0 ≤ e ∧ e ≤ 1099511627776
  · rw [if_neg (by omega)]; simp [h]
  · rw [if_pos (by omega)]; simp; omega
theorem Same.thru {W w1 : World} {b : Nat} {c : Array Value} {t : TypeId} {Q : Prop} (h : BlockIs W b c t) (hS : Same W w1) (k : BlockIs w1 b c t → Q) : Q := k (by obtain ⟨d, rfl⟩ := hS; exact h)
theorem Below.thru' {B : Nat} {a b c : World} {Q : Prop} (h : Below B a b) (k : Below B b c) (q : Below B a c → Q) : Q := q (h.trans k)
set_option maxHeartbeats 2000000 in
theorem rAccept_any (v : Val) (ep : Int) (w : World) :
    Calls Try.prog 19 #[.agg v.cells, .int .i64 ep] w fun r w' => r = .returned (.tuple #[.agg (accR v ep).2.1.cells, .int .i64 (accR v ep).1]) ∧ Below w.heap.size w w' := by
  obtain ⟨bal, st, sl, rq, ex, wd, dl⟩ := v
  have hbel : Below w.heap.size w w := Below.refl _ _
  by_cases h1 : epochB ep = true
  · by_cases h2 : nextF st 2 = 0
    · have HI : Hid (accR ⟨bal, st, sl, rq, ex, wd, dl⟩ ep = (8, Val.zero, 0)) := by simp [Hid, accR, foldG, gRequest, gEvent, laterB_nil, h1, h2]
      have hb2 : (nextF st 2 == 0) = true := by simpa using h2
      clear h2
      rw [HI.out]
      simp only [Val.cells, Val.zero]
      go_enter Try.func19, Try.ntmps19
      go_wp2_with (first | (go_at_call 36; refine (rEpoch_any _ _).mono ?_; rintro r w1 ⟨rfl, rfl⟩) | (go_at_call 30; refine (rNext_any _ _ _).mono ?_; rintro r w1 ⟨rfl, rfl⟩))
      refine bodyPost_ret (v := .tuple #[.agg #[.int .u64 0, .int .i64 0, .bool false, .int .i64 0, .int .i64 0, .int .i64 0, .int .i64 0], .int .i64 8]) (by simp [results, Try.results19, go_sem, *]) rfl ⟨rfl, ?_⟩
      (focus ((repeat (with_reducible first | exact hbel | assumption | exact Below.refl _ _ | refine Below.drew ?_ | refine below_drewN ?_ _ | refine Below.setCell ?_ (by first | omega | (simp <;> omega)) _ | apply Below.alloc2 | refine Below.alloc ?_ (by first | omega | (simp <;> omega)) _ | (apply Below.join2; assumption))); done))
    · have HI : Hid (accR ⟨bal, st, sl, rq, ex, wd, dl⟩ ep = (0, ⟨bal, nextF st 2, sl, ep, ex, wd, dl⟩, 0)) := by simp [Hid, accR, foldG, gRequest, gEvent, laterB_nil, h1, h2]
      have hb2 : (nextF st 2 == 0) = false := by simpa using h2
      clear h2
      rw [HI.out]
      simp only [Val.cells, Val.zero]
      go_enter Try.func19, Try.ntmps19
      go_wp2_with (first | (go_at_call 36; refine (rEpoch_any _ _).mono ?_; rintro r w1 ⟨rfl, rfl⟩) | (go_at_call 30; refine (rNext_any _ _ _).mono ?_; rintro r w1 ⟨rfl, rfl⟩))
      refine bodyPost_ret (v := .tuple #[.agg #[.int .u64 bal, .int .i64 (nextF st 2), .bool sl, .int .i64 ep, .int .i64 ex, .int .i64 wd, .int .i64 dl], .int .i64 0]) (by simp [results, Try.results19, go_sem, *]) rfl ⟨rfl, ?_⟩
      (focus ((repeat (with_reducible first | exact hbel | assumption | exact Below.refl _ _ | refine Below.drew ?_ | refine below_drewN ?_ _ | refine Below.setCell ?_ (by first | omega | (simp <;> omega)) _ | apply Below.alloc2 | refine Below.alloc ?_ (by first | omega | (simp <;> omega)) _ | (apply Below.join2; assumption))); done))
  · have hb1 : epochB ep = false := by simpa using h1
    have HI : Hid (accR ⟨bal, st, sl, rq, ex, wd, dl⟩ ep = (10, Val.zero, 0)) := by simp [Hid, accR, foldG, gRequest, gEvent, laterB_nil, hb1]
    clear h1
    rw [HI.out]
    simp only [Val.cells, Val.zero]
    go_enter Try.func19, Try.ntmps19
    go_wp2_with (first | (go_at_call 36; refine (rEpoch_any _ _).mono ?_; rintro r w1 ⟨rfl, rfl⟩) | (go_at_call 30; refine (rNext_any _ _ _).mono ?_; rintro r w1 ⟨rfl, rfl⟩))
    refine bodyPost_ret (v := .tuple #[.agg #[.int .u64 0, .int .i64 0, .bool false, .int .i64 0, .int .i64 0, .int .i64 0, .int .i64 0], .int .i64 10]) (by simp [results, Try.results19, go_sem, *]) rfl ⟨rfl, ?_⟩
    (focus ((repeat (with_reducible first | exact hbel | assumption | exact Below.refl _ _ | refine Below.drew ?_ | refine below_drewN ?_ _ | refine Below.setCell ?_ (by first | omega | (simp <;> omega)) _ | apply Below.alloc2 | refine Below.alloc ?_ (by first | omega | (simp <;> omega)) _ | (apply Below.join2; assumption))); done))
theorem maxF_max (a b : Int) : maxF [a, b] = max a b := by
  show (if a < b then b else a) = max a b
  split <;> omega
set_option maxHeartbeats 2000000 in
theorem rAssign_any (v : Val) (xt : Int) (cf : Cfg) (hdy : (Lit.int .i64 cf.unbonding).wf = true) (w : World) :
    Calls Try.prog 20 #[.agg v.cells, .int .i64 xt, .agg cf.cells] w fun r w' => r = .returned (.tuple #[.agg (asgR v xt cf.unbonding).2.1.cells, .int .i64 (asgR v xt cf.unbonding).1]) ∧ Below w.heap.size w w' := by
  obtain ⟨k0, k1, k2, k3, k4, k5, k6, k7, k8, k9, dy, k11, k12, k13, k14, k15, k16, k17, k18, k19⟩ := cf
  obtain ⟨bal, st, sl, rq, ex, wd, dl⟩ := v
  simp only [] at hdy ⊢
  have HBD : Hid (∀ z ∈ [dy], -9223372036854775808 ≤ z ∧ z ≤ 9223372036854775807) := Lib.hid (by simp; exact bounds_i64 hdy)
  clear hdy
  have hbel : Below w.heap.size w w := Below.refl _ _
  by_cases h1 : st = 3
  · subst h1
    by_cases h2 : ex = -1
    · subst h2
      by_cases h3 : laterB xt [dy] = true
      · have HI : Hid (asgR ⟨bal, 3, sl, rq, -1, wd, dl⟩ xt dy = (0, ⟨bal, 3, sl, rq, xt, max wd (laterF xt [dy]), dl⟩, 0)) := by simp [Hid, asgR, foldG, gFresh, gDelay, h3, maxF_max]
        rw [HI.out]
        simp only [Val.cells, Val.zero, Cfg.cells]
        go_enter Try.func20, Try.ntmps20
        go_wp2_with (first | (go_at_call 36; refine (rEpoch_any _ _).mono ?_; rintro r w1 ⟨rfl, rfl⟩) | (go_at_call 30; refine (rNext_any _ _ _).mono ?_; rintro r w1 ⟨rfl, rfl⟩) | (go_at_call 31; refine (rLater_any _ _ [dy] _ (slr_of_block (BlockIs.new' (c := #[.int .i64 dy]) (t := 3) ?_) 1 rfl (by decide)) (by simp) HBD.out).mono ?_; (focus (simp <;> done)); rintro r w1 ⟨rfl, hS⟩; refine Same.thru (b := w.heap.size) (c := #[.int .u64 bal, .int .i64 3, .bool sl, .int .i64 rq, .int .i64 (-1), .int .i64 wd, .int .i64 dl]) (t := 28) ?_ hS (fun gv => ?_); (focus (repeat (first | (with_reducible refine BlockIs.drew ?_) | ((with_reducible refine BlockIs.new' ?_); (simp <;> omega)) | (with_reducible refine BlockIs.alloc ?_ _))); done); refine Same.thru (b := w.heap.size + 1 + 1) (c := #[.int .u64 0, .int .i64 0, .bool false, .int .i64 0, .int .i64 0, .int .i64 0, .int .i64 0]) (t := 28) ?_ hS (fun gz => ?_); (focus (repeat (first | (with_reducible refine BlockIs.drew ?_) | ((with_reducible refine BlockIs.new' ?_); (simp <;> omega)) | (with_reducible refine BlockIs.alloc ?_ _))); done); refine Below.thru' (B := w.heap.size) (a := w) ?_ (hS.below _) (fun hbel => ?_); (focus ((repeat (with_reducible first | exact hbel | assumption | exact Below.refl _ _ | refine Below.drew ?_ | refine below_drewN ?_ _ | refine Below.setCell ?_ (by first | omega | (simp <;> omega)) _ | apply Below.alloc2 | refine Below.alloc ?_ (by first | omega | (simp <;> omega)) _ | (apply Below.join2; assumption))); done)); obtain ⟨v0, v1, v2, v3, v4, v5, v6, f0, f1, f2, f3, f4, f5, f6⟩ := vfacts gv; obtain ⟨z0, z1, z2, z3, z4, z5, z6, y0, y1, y2, y3, y4, y5, y6⟩ := vfacts gz; have gvl := gv.lt; have gzl := gz.lt; clear gv gz hS))
        refine bodyPost_ret (v := .tuple #[.agg #[.int .u64 bal, .int .i64 3, .bool sl, .int .i64 rq, .int .i64 xt, .int .i64 (max wd (laterF xt [dy])), .int .i64 dl], .int .i64 0]) (by simp [results, Try.results20, go_sem, *]) rfl ⟨rfl, ?_⟩
        (focus ((repeat (with_reducible first | exact hbel | assumption | exact Below.refl _ _ | refine Below.drew ?_ | refine below_drewN ?_ _ | refine Below.setCell ?_ (by first | omega | (simp <;> omega)) _ | apply Below.alloc2 | refine Below.alloc ?_ (by first | omega | (simp <;> omega)) _ | (apply Below.join2; assumption))); done))
      · have b3 : laterB xt [dy] = false := by simpa using h3
        have HI : Hid (asgR ⟨bal, 3, sl, rq, -1, wd, dl⟩ xt dy = (10, Val.zero, 0)) := by simp [Hid, asgR, foldG, gFresh, gDelay, b3]
        clear h3
        rw [HI.out]
        simp only [Val.cells, Val.zero, Cfg.cells]
        go_enter Try.func20, Try.ntmps20
        go_wp2_with (first | (go_at_call 36; refine (rEpoch_any _ _).mono ?_; rintro r w1 ⟨rfl, rfl⟩) | (go_at_call 30; refine (rNext_any _ _ _).mono ?_; rintro r w1 ⟨rfl, rfl⟩) | (go_at_call 31; refine (rLater_any _ _ [dy] _ (slr_of_block (BlockIs.new' (c := #[.int .i64 dy]) (t := 3) ?_) 1 rfl (by decide)) (by simp) HBD.out).mono ?_; (focus (simp <;> done)); rintro r w1 ⟨rfl, hS⟩; refine Same.thru (b := w.heap.size) (c := #[.int .u64 bal, .int .i64 3, .bool sl, .int .i64 rq, .int .i64 (-1), .int .i64 wd, .int .i64 dl]) (t := 28) ?_ hS (fun gv => ?_); (focus (repeat (first | (with_reducible refine BlockIs.drew ?_) | ((with_reducible refine BlockIs.new' ?_); (simp <;> omega)) | (with_reducible refine BlockIs.alloc ?_ _))); done); refine Same.thru (b := w.heap.size + 1 + 1) (c := #[.int .u64 0, .int .i64 0, .bool false, .int .i64 0, .int .i64 0, .int .i64 0, .int .i64 0]) (t := 28) ?_ hS (fun gz => ?_); (focus (repeat (first | (with_reducible refine BlockIs.drew ?_) | ((with_reducible refine BlockIs.new' ?_); (simp <;> omega)) | (with_reducible refine BlockIs.alloc ?_ _))); done); refine Below.thru' (B := w.heap.size) (a := w) ?_ (hS.below _) (fun hbel => ?_); (focus ((repeat (with_reducible first | exact hbel | assumption | exact Below.refl _ _ | refine Below.drew ?_ | refine below_drewN ?_ _ | refine Below.setCell ?_ (by first | omega | (simp <;> omega)) _ | apply Below.alloc2 | refine Below.alloc ?_ (by first | omega | (simp <;> omega)) _ | (apply Below.join2; assumption))); done)); obtain ⟨v0, v1, v2, v3, v4, v5, v6, f0, f1, f2, f3, f4, f5, f6⟩ := vfacts gv; obtain ⟨z0, z1, z2, z3, z4, z5, z6, y0, y1, y2, y3, y4, y5, y6⟩ := vfacts gz; have gvl := gv.lt; have gzl := gz.lt; clear gv gz hS))
        refine bodyPost_ret (v := .tuple #[.agg #[.int .u64 0, .int .i64 0, .bool false, .int .i64 0, .int .i64 0, .int .i64 0, .int .i64 0], .int .i64 10]) (by simp [results, Try.results20, go_sem, *]) rfl ⟨rfl, ?_⟩
        (focus ((repeat (with_reducible first | exact hbel | assumption | exact Below.refl _ _ | refine Below.drew ?_ | refine below_drewN ?_ _ | refine Below.setCell ?_ (by first | omega | (simp <;> omega)) _ | apply Below.alloc2 | refine Below.alloc ?_ (by first | omega | (simp <;> omega)) _ | (apply Below.join2; assumption))); done))
    · have b2 : (ex == -1) = false := by simpa using h2
      have HI : Hid (asgR ⟨bal, 3, sl, rq, ex, wd, dl⟩ xt dy = (8, Val.zero, 0)) := by simp [Hid, asgR, foldG, gFresh, gDelay, h2]
      clear h2
      rw [HI.out]
      simp only [Val.cells, Val.zero, Cfg.cells]
      go_enter Try.func20, Try.ntmps20
      go_wp2_with (first | (go_at_call 36; refine (rEpoch_any _ _).mono ?_; rintro r w1 ⟨rfl, rfl⟩) | (go_at_call 30; refine (rNext_any _ _ _).mono ?_; rintro r w1 ⟨rfl, rfl⟩) | (go_at_call 31; refine (rLater_any _ _ [dy] _ (slr_of_block (BlockIs.new' (c := #[.int .i64 dy]) (t := 3) ?_) 1 rfl (by decide)) (by simp) HBD.out).mono ?_; (focus (simp <;> done)); rintro r w1 ⟨rfl, hS⟩; refine Same.thru (b := w.heap.size) (c := #[.int .u64 bal, .int .i64 3, .bool sl, .int .i64 rq, .int .i64 (-1), .int .i64 wd, .int .i64 dl]) (t := 28) ?_ hS (fun gv => ?_); (focus (repeat (first | (with_reducible refine BlockIs.drew ?_) | ((with_reducible refine BlockIs.new' ?_); (simp <;> omega)) | (with_reducible refine BlockIs.alloc ?_ _))); done); refine Same.thru (b := w.heap.size + 1 + 1) (c := #[.int .u64 0, .int .i64 0, .bool false, .int .i64 0, .int .i64 0, .int .i64 0, .int .i64 0]) (t := 28) ?_ hS (fun gz => ?_); (focus (repeat (first | (with_reducible refine BlockIs.drew ?_) | ((with_reducible refine BlockIs.new' ?_); (simp <;> omega)) | (with_reducible refine BlockIs.alloc ?_ _))); done); refine Below.thru' (B := w.heap.size) (a := w) ?_ (hS.below _) (fun hbel => ?_); (focus ((repeat (with_reducible first | exact hbel | assumption | exact Below.refl _ _ | refine Below.drew ?_ | refine below_drewN ?_ _ | refine Below.setCell ?_ (by first | omega | (simp <;> omega)) _ | apply Below.alloc2 | refine Below.alloc ?_ (by first | omega | (simp <;> omega)) _ | (apply Below.join2; assumption))); done)); obtain ⟨v0, v1, v2, v3, v4, v5, v6, f0, f1, f2, f3, f4, f5, f6⟩ := vfacts gv; obtain ⟨z0, z1, z2, z3, z4, z5, z6, y0, y1, y2, y3, y4, y5, y6⟩ := vfacts gz; have gvl := gv.lt; have gzl := gz.lt; clear gv gz hS))
      refine bodyPost_ret (v := .tuple #[.agg #[.int .u64 0, .int .i64 0, .bool false, .int .i64 0, .int .i64 0, .int .i64 0, .int .i64 0], .int .i64 8]) (by simp [results, Try.results20, go_sem, *]) rfl ⟨rfl, ?_⟩
      (focus ((repeat (with_reducible first | exact hbel | assumption | exact Below.refl _ _ | refine Below.drew ?_ | refine below_drewN ?_ _ | refine Below.setCell ?_ (by first | omega | (simp <;> omega)) _ | apply Below.alloc2 | refine Below.alloc ?_ (by first | omega | (simp <;> omega)) _ | (apply Below.join2; assumption))); done))
  · have b1 : (st == 3) = false := by simpa using h1
    have HI : Hid (asgR ⟨bal, st, sl, rq, ex, wd, dl⟩ xt dy = (8, Val.zero, 0)) := by simp [Hid, asgR, foldG, gFresh, gDelay, h1]
    clear h1
    rw [HI.out]
    simp only [Val.cells, Val.zero, Cfg.cells]
    go_enter Try.func20, Try.ntmps20
    go_wp2_with (first | (go_at_call 36; refine (rEpoch_any _ _).mono ?_; rintro r w1 ⟨rfl, rfl⟩) | (go_at_call 30; refine (rNext_any _ _ _).mono ?_; rintro r w1 ⟨rfl, rfl⟩) | (go_at_call 31; refine (rLater_any _ _ [dy] _ (slr_of_block (BlockIs.new' (c := #[.int .i64 dy]) (t := 3) ?_) 1 rfl (by decide)) (by simp) HBD.out).mono ?_; (focus (simp <;> done)); rintro r w1 ⟨rfl, hS⟩; refine Same.thru (b := w.heap.size) (c := #[.int .u64 bal, .int .i64 3, .bool sl, .int .i64 rq, .int .i64 (-1), .int .i64 wd, .int .i64 dl]) (t := 28) ?_ hS (fun gv => ?_); (focus (repeat (first | (with_reducible refine BlockIs.drew ?_) | ((with_reducible refine BlockIs.new' ?_); (simp <;> omega)) | (with_reducible refine BlockIs.alloc ?_ _))); done); refine Same.thru (b := w.heap.size + 1 + 1) (c := #[.int .u64 0, .int .i64 0, .bool false, .int .i64 0, .int .i64 0, .int .i64 0, .int .i64 0]) (t := 28) ?_ hS (fun gz => ?_); (focus (repeat (first | (with_reducible refine BlockIs.drew ?_) | ((with_reducible refine BlockIs.new' ?_); (simp <;> omega)) | (with_reducible refine BlockIs.alloc ?_ _))); done); refine Below.thru' (B := w.heap.size) (a := w) ?_ (hS.below _) (fun hbel => ?_); (focus ((repeat (with_reducible first | exact hbel | assumption | exact Below.refl _ _ | refine Below.drew ?_ | refine below_drewN ?_ _ | refine Below.setCell ?_ (by first | omega | (simp <;> omega)) _ | apply Below.alloc2 | refine Below.alloc ?_ (by first | omega | (simp <;> omega)) _ | (apply Below.join2; assumption))); done)); obtain ⟨v0, v1, v2, v3, v4, v5, v6, f0, f1, f2, f3, f4, f5, f6⟩ := vfacts gv; obtain ⟨z0, z1, z2, z3, z4, z5, z6, y0, y1, y2, y3, y4, y5, y6⟩ := vfacts gz; have gvl := gv.lt; have gzl := gz.lt; clear gv gz hS))
    refine bodyPost_ret (v := .tuple #[.agg #[.int .u64 0, .int .i64 0, .bool false, .int .i64 0, .int .i64 0, .int .i64 0, .int .i64 0], .int .i64 8]) (by simp [results, Try.results20, go_sem, *]) rfl ⟨rfl, ?_⟩
    (focus ((repeat (with_reducible first | exact hbel | assumption | exact Below.refl _ _ | refine Below.drew ?_ | refine below_drewN ?_ _ | refine Below.setCell ?_ (by first | omega | (simp <;> omega)) _ | apply Below.alloc2 | refine Below.alloc ?_ (by first | omega | (simp <;> omega)) _ | (apply Below.join2; assumption))); done))
set_option maxHeartbeats 2000000 in
theorem rSlash_any (v : Val) (hb0 : 0 ≤ v.bal) (hb : v.bal ≤ 18446744073709551615) (ep : Int) (cf : Cfg) (hdy : (Lit.int .i64 cf.slashDelay).wf = true) (hn0 : 0 ≤ cf.penNum) (hn : cf.penNum ≤ 18446744073709551615) (hd0 : 0 ≤ cf.penDen) (hd : cf.penDen ≤ 18446744073709551615) (w : World) :
    Calls Try.prog 14 #[.agg v.cells, .int .i64 ep, .agg cf.cells] w fun r w' => r = .returned (.tuple #[.agg (slaR v ep cf.slashDelay cf.penNum cf.penDen).2.1.cells, .int .u64 (slaR v ep cf.slashDelay cf.penNum cf.penDen).2.2, .int .i64 (slaR v ep cf.slashDelay cf.penNum cf.penDen).1]) ∧ Below w.heap.size w w' := by
  obtain ⟨k0, k1, k2, k3, k4, k5, k6, k7, k8, k9, k10, dy, k12, k13, k14, k15, k16, k17, pn, pd⟩ := cf
  obtain ⟨bal, st, sl, rq, ex, wd, dl⟩ := v
  simp only [] at hdy hn0 hn hd0 hd hb0 hb ⊢
  have HBD : Hid (∀ z ∈ [dy], -9223372036854775808 ≤ z ∧ z ≤ 9223372036854775807) := Lib.hid (by simp; exact bounds_i64 hdy)
  have HAM := Lib.hid (fun w => rAmount_any bal pn pd w hb0 hb hn0 hn hd0 hd)
  obtain ⟨p0, p1⟩ := penF_le bal pn pd hb0 hn0
  clear hdy hn hn0 hd hd0
  have hbel : Below w.heap.size w w := Below.refl _ _
  cases sl with
  | true =>
    have HI : Hid (slaR ⟨bal, st, true, rq, ex, wd, dl⟩ ep dy pn pd = (9, Val.zero, 0)) := by simp [Hid, slaR, foldG, gMark]
    rw [HI.out]
    simp only [Val.cells, Val.zero, Cfg.cells]
    go_enter Try.func14, Try.ntmps14
    go_wp2_with (first | (go_at_call 36; refine (rEpoch_any _ _).mono ?_; rintro r w1 ⟨rfl, rfl⟩) | (go_at_call 30; refine (rNext_any _ _ _).mono ?_; rintro r w1 ⟨rfl, rfl⟩) | (go_at_call 31; refine (rLater_any _ _ [dy] _ (slr_of_block (BlockIs.new' (c := #[.int .i64 dy]) (t := 3) ?_) 1 rfl (by decide)) (by simp) HBD.out).mono ?_; (focus (simp <;> done)); rintro r w1 ⟨rfl, hS⟩; refine Same.thru (b := w.heap.size) (c := #[.int .u64 bal, .int .i64 st, .bool false, .int .i64 rq, .int .i64 ex, .int .i64 wd, .int .i64 dl]) (t := 28) ?_ hS (fun gv => ?_); (focus (repeat (first | (with_reducible refine BlockIs.drew ?_) | ((with_reducible refine BlockIs.new' ?_); (simp <;> omega)) | (with_reducible refine BlockIs.alloc ?_ _))); done); refine Same.thru (b := w.heap.size + 1 + 1) (c := #[.int .u64 0, .int .i64 0, .bool false, .int .i64 0, .int .i64 0, .int .i64 0, .int .i64 0]) (t := 28) ?_ hS (fun gz => ?_); (focus (repeat (first | (with_reducible refine BlockIs.drew ?_) | ((with_reducible refine BlockIs.new' ?_); (simp <;> omega)) | (with_reducible refine BlockIs.alloc ?_ _))); done); refine Below.thru' (B := w.heap.size) (a := w) ?_ (hS.below _) (fun hbel => ?_); (focus ((repeat (with_reducible first | exact hbel | assumption | exact Below.refl _ _ | refine Below.drew ?_ | refine below_drewN ?_ _ | refine Below.setCell ?_ (by first | omega | (simp <;> omega)) _ | apply Below.alloc2 | refine Below.alloc ?_ (by first | omega | (simp <;> omega)) _ | (apply Below.join2; assumption))); done)); refine Same.thru (b := w.heap.size + 1) (c := #[.int .i64 k0, .int .i64 k1, .int .u64 k2, .int .u64 k3, .int .u64 k4, .int .u64 k5, .int .u64 k6, .int .u64 k7, .int .u64 k8, .int .u64 k9, .int .i64 k10, .int .i64 dy, .int .i64 k12, .int .i64 k13, .int .i64 k14, .int .i64 k15, .int .i64 k16, .int .i64 k17, .int .u64 pn, .int .u64 pd]) (t := 30) ?_ hS (fun gc => ?_); (focus (repeat (first | (with_reducible refine BlockIs.drew ?_) | ((with_reducible refine BlockIs.new' ?_); (simp <;> omega)) | (with_reducible refine BlockIs.alloc ?_ _))); done); have c18 : w1.cell? ⟨w.heap.size + 1, 18, none⟩ = some (.int .u64 pn) := gc.cell (i := 18) rfl; have c19 : w1.cell? ⟨w.heap.size + 1, 19, none⟩ = some (.int .u64 pd) := gc.cell (i := 19) rfl; clear gc; obtain ⟨v0, v1, v2, v3, v4, v5, v6, f0, f1, f2, f3, f4, f5, f6⟩ := vfacts gv; obtain ⟨z0, z1, z2, z3, z4, z5, z6, y0, y1, y2, y3, y4, y5, y6⟩ := vfacts gz; have gvl := gv.lt; have gzl := gz.lt; clear gv gz hS) | (go_at_call 10; refine (HAM.out _).mono ?_; rintro r w1 ⟨rfl, rfl⟩))
    refine bodyPost_ret (v := .tuple #[.agg #[.int .u64 0, .int .i64 0, .bool false, .int .i64 0, .int .i64 0, .int .i64 0, .int .i64 0], .int .u64 0, .int .i64 9]) (by simp [results, Try.results14, go_sem, *]) rfl ⟨rfl, ?_⟩
    (focus ((repeat (with_reducible first | exact hbel | assumption | exact Below.refl _ _ | refine Below.drew ?_ | refine below_drewN ?_ _ | refine Below.setCell ?_ (by first | omega | (simp <;> omega)) _ | apply Below.alloc2 | refine Below.alloc ?_ (by first | omega | (simp <;> omega)) _ | (apply Below.join2; assumption))); done))
  | false =>
    by_cases h2 : nextF st 7 = 0
    · have HI : Hid (slaR ⟨bal, st, false, rq, ex, wd, dl⟩ ep dy pn pd = (8, Val.zero, 0)) := by simp [Hid, slaR, foldG, gMark, gEvent, h2]
      have hb2 : (nextF st 7 == 0) = true := by simpa using h2
      clear h2
      rw [HI.out]
      simp only [Val.cells, Val.zero, Cfg.cells]
      go_enter Try.func14, Try.ntmps14
      go_wp2_with (first | (go_at_call 36; refine (rEpoch_any _ _).mono ?_; rintro r w1 ⟨rfl, rfl⟩) | (go_at_call 30; refine (rNext_any _ _ _).mono ?_; rintro r w1 ⟨rfl, rfl⟩) | (go_at_call 31; refine (rLater_any _ _ [dy] _ (slr_of_block (BlockIs.new' (c := #[.int .i64 dy]) (t := 3) ?_) 1 rfl (by decide)) (by simp) HBD.out).mono ?_; (focus (simp <;> done)); rintro r w1 ⟨rfl, hS⟩; refine Same.thru (b := w.heap.size) (c := #[.int .u64 bal, .int .i64 st, .bool false, .int .i64 rq, .int .i64 ex, .int .i64 wd, .int .i64 dl]) (t := 28) ?_ hS (fun gv => ?_); (focus (repeat (first | (with_reducible refine BlockIs.drew ?_) | ((with_reducible refine BlockIs.new' ?_); (simp <;> omega)) | (with_reducible refine BlockIs.alloc ?_ _))); done); refine Same.thru (b := w.heap.size + 1 + 1) (c := #[.int .u64 0, .int .i64 0, .bool false, .int .i64 0, .int .i64 0, .int .i64 0, .int .i64 0]) (t := 28) ?_ hS (fun gz => ?_); (focus (repeat (first | (with_reducible refine BlockIs.drew ?_) | ((with_reducible refine BlockIs.new' ?_); (simp <;> omega)) | (with_reducible refine BlockIs.alloc ?_ _))); done); refine Below.thru' (B := w.heap.size) (a := w) ?_ (hS.below _) (fun hbel => ?_); (focus ((repeat (with_reducible first | exact hbel | assumption | exact Below.refl _ _ | refine Below.drew ?_ | refine below_drewN ?_ _ | refine Below.setCell ?_ (by first | omega | (simp <;> omega)) _ | apply Below.alloc2 | refine Below.alloc ?_ (by first | omega | (simp <;> omega)) _ | (apply Below.join2; assumption))); done)); refine Same.thru (b := w.heap.size + 1) (c := #[.int .i64 k0, .int .i64 k1, .int .u64 k2, .int .u64 k3, .int .u64 k4, .int .u64 k5, .int .u64 k6, .int .u64 k7, .int .u64 k8, .int .u64 k9, .int .i64 k10, .int .i64 dy, .int .i64 k12, .int .i64 k13, .int .i64 k14, .int .i64 k15, .int .i64 k16, .int .i64 k17, .int .u64 pn, .int .u64 pd]) (t := 30) ?_ hS (fun gc => ?_); (focus (repeat (first | (with_reducible refine BlockIs.drew ?_) | ((with_reducible refine BlockIs.new' ?_); (simp <;> omega)) | (with_reducible refine BlockIs.alloc ?_ _))); done); have c18 : w1.cell? ⟨w.heap.size + 1, 18, none⟩ = some (.int .u64 pn) := gc.cell (i := 18) rfl; have c19 : w1.cell? ⟨w.heap.size + 1, 19, none⟩ = some (.int .u64 pd) := gc.cell (i := 19) rfl; clear gc; obtain ⟨v0, v1, v2, v3, v4, v5, v6, f0, f1, f2, f3, f4, f5, f6⟩ := vfacts gv; obtain ⟨z0, z1, z2, z3, z4, z5, z6, y0, y1, y2, y3, y4, y5, y6⟩ := vfacts gz; have gvl := gv.lt; have gzl := gz.lt; clear gv gz hS) | (go_at_call 10; refine (HAM.out _).mono ?_; rintro r w1 ⟨rfl, rfl⟩))
      refine bodyPost_ret (v := .tuple #[.agg #[.int .u64 0, .int .i64 0, .bool false, .int .i64 0, .int .i64 0, .int .i64 0, .int .i64 0], .int .u64 0, .int .i64 8]) (by simp [results, Try.results14, go_sem, *]) rfl ⟨rfl, ?_⟩
      (focus ((repeat (with_reducible first | exact hbel | assumption | exact Below.refl _ _ | refine Below.drew ?_ | refine below_drewN ?_ _ | refine Below.setCell ?_ (by first | omega | (simp <;> omega)) _ | apply Below.alloc2 | refine Below.alloc ?_ (by first | omega | (simp <;> omega)) _ | (apply Below.join2; assumption))); done))
    · have hb2 : (nextF st 7 == 0) = false := by simpa using h2
      by_cases h3 : laterB ep [dy] = true
      · by_cases h4 : st = 2
        · subst h4
          have HI : Hid (slaR ⟨bal, 2, false, rq, ex, wd, dl⟩ ep dy pn pd = (0, ⟨bal - penF bal pn pd, nextF 2 7, true, ep, ex, max wd (laterF ep [dy]), -1⟩, penF bal pn pd)) := by simp [Hid, slaR, foldG, gMark, gEvent, gDelay, gBurn, h2, h3, maxF_max]
          clear h2
          rw [HI.out]
          simp only [Val.cells, Val.zero, Cfg.cells]
          generalize penF bal pn pd = px at *
          go_enter Try.func14, Try.ntmps14
          go_wp2_with (first | (go_at_call 36; refine (rEpoch_any _ _).mono ?_; rintro r w1 ⟨rfl, rfl⟩) | (go_at_call 30; refine (rNext_any _ _ _).mono ?_; rintro r w1 ⟨rfl, rfl⟩) | (go_at_call 31; refine (rLater_any _ _ [dy] _ (slr_of_block (BlockIs.new' (c := #[.int .i64 dy]) (t := 3) ?_) 1 rfl (by decide)) (by simp) HBD.out).mono ?_; (focus (simp <;> done)); rintro r w1 ⟨rfl, hS⟩; refine Same.thru (b := w.heap.size) (c := #[.int .u64 bal, .int .i64 2, .bool false, .int .i64 rq, .int .i64 ex, .int .i64 wd, .int .i64 dl]) (t := 28) ?_ hS (fun gv => ?_); (focus (repeat (first | (with_reducible refine BlockIs.drew ?_) | ((with_reducible refine BlockIs.new' ?_); (simp <;> omega)) | (with_reducible refine BlockIs.alloc ?_ _))); done); refine Same.thru (b := w.heap.size + 1 + 1) (c := #[.int .u64 0, .int .i64 0, .bool false, .int .i64 0, .int .i64 0, .int .i64 0, .int .i64 0]) (t := 28) ?_ hS (fun gz => ?_); (focus (repeat (first | (with_reducible refine BlockIs.drew ?_) | ((with_reducible refine BlockIs.new' ?_); (simp <;> omega)) | (with_reducible refine BlockIs.alloc ?_ _))); done); refine Below.thru' (B := w.heap.size) (a := w) ?_ (hS.below _) (fun hbel => ?_); (focus ((repeat (with_reducible first | exact hbel | assumption | exact Below.refl _ _ | refine Below.drew ?_ | refine below_drewN ?_ _ | refine Below.setCell ?_ (by first | omega | (simp <;> omega)) _ | apply Below.alloc2 | refine Below.alloc ?_ (by first | omega | (simp <;> omega)) _ | (apply Below.join2; assumption))); done)); refine Same.thru (b := w.heap.size + 1) (c := #[.int .i64 k0, .int .i64 k1, .int .u64 k2, .int .u64 k3, .int .u64 k4, .int .u64 k5, .int .u64 k6, .int .u64 k7, .int .u64 k8, .int .u64 k9, .int .i64 k10, .int .i64 dy, .int .i64 k12, .int .i64 k13, .int .i64 k14, .int .i64 k15, .int .i64 k16, .int .i64 k17, .int .u64 pn, .int .u64 pd]) (t := 30) ?_ hS (fun gc => ?_); (focus (repeat (first | (with_reducible refine BlockIs.drew ?_) | ((with_reducible refine BlockIs.new' ?_); (simp <;> omega)) | (with_reducible refine BlockIs.alloc ?_ _))); done); have c18 : w1.cell? ⟨w.heap.size + 1, 18, none⟩ = some (.int .u64 pn) := gc.cell (i := 18) rfl; have c19 : w1.cell? ⟨w.heap.size + 1, 19, none⟩ = some (.int .u64 pd) := gc.cell (i := 19) rfl; clear gc; obtain ⟨v0, v1, v2, v3, v4, v5, v6, f0, f1, f2, f3, f4, f5, f6⟩ := vfacts gv; obtain ⟨z0, z1, z2, z3, z4, z5, z6, y0, y1, y2, y3, y4, y5, y6⟩ := vfacts gz; have gvl := gv.lt; have gzl := gz.lt; clear gv gz hS) | (go_at_call 10; refine (HAM.out _).mono ?_; rintro r w1 ⟨rfl, rfl⟩))
          refine bodyPost_ret (v := .tuple #[.agg #[.int .u64 (bal - px), .int .i64 (nextF 2 7), .bool true, .int .i64 ep, .int .i64 ex, .int .i64 (max wd (laterF ep [dy])), .int .i64 (-1)], .int .u64 px, .int .i64 0]) (by simp [results, Try.results14, go_sem, *]) rfl ⟨rfl, ?_⟩
          (focus ((repeat (with_reducible first | exact hbel | assumption | exact Below.refl _ _ | refine Below.drew ?_ | refine below_drewN ?_ _ | refine Below.setCell ?_ (by first | omega | (simp <;> omega)) _ | apply Below.alloc2 | refine Below.alloc ?_ (by first | omega | (simp <;> omega)) _ | (apply Below.join2; assumption))); done))
        · have b4 : (st == 2) = false := by simpa using h4
          have HI : Hid (slaR ⟨bal, st, false, rq, ex, wd, dl⟩ ep dy pn pd = (0, ⟨bal - penF bal pn pd, nextF st 7, true, rq, ex, max wd (laterF ep [dy]), -1⟩, penF bal pn pd)) := by simp [Hid, slaR, foldG, gMark, gEvent, gDelay, gBurn, h2, h3, h4, maxF_max]
          clear h2 h4
          rw [HI.out]
          simp only [Val.cells, Val.zero, Cfg.cells]
          generalize penF bal pn pd = px at *
          go_enter Try.func14, Try.ntmps14
          go_wp2_with (first | (go_at_call 36; refine (rEpoch_any _ _).mono ?_; rintro r w1 ⟨rfl, rfl⟩) | (go_at_call 30; refine (rNext_any _ _ _).mono ?_; rintro r w1 ⟨rfl, rfl⟩) | (go_at_call 31; refine (rLater_any _ _ [dy] _ (slr_of_block (BlockIs.new' (c := #[.int .i64 dy]) (t := 3) ?_) 1 rfl (by decide)) (by simp) HBD.out).mono ?_; (focus (simp <;> done)); rintro r w1 ⟨rfl, hS⟩; refine Same.thru (b := w.heap.size) (c := #[.int .u64 bal, .int .i64 st, .bool false, .int .i64 rq, .int .i64 ex, .int .i64 wd, .int .i64 dl]) (t := 28) ?_ hS (fun gv => ?_); (focus (repeat (first | (with_reducible refine BlockIs.drew ?_) | ((with_reducible refine BlockIs.new' ?_); (simp <;> omega)) | (with_reducible refine BlockIs.alloc ?_ _))); done); refine Same.thru (b := w.heap.size + 1 + 1) (c := #[.int .u64 0, .int .i64 0, .bool false, .int .i64 0, .int .i64 0, .int .i64 0, .int .i64 0]) (t := 28) ?_ hS (fun gz => ?_); (focus (repeat (first | (with_reducible refine BlockIs.drew ?_) | ((with_reducible refine BlockIs.new' ?_); (simp <;> omega)) | (with_reducible refine BlockIs.alloc ?_ _))); done); refine Below.thru' (B := w.heap.size) (a := w) ?_ (hS.below _) (fun hbel => ?_); (focus ((repeat (with_reducible first | exact hbel | assumption | exact Below.refl _ _ | refine Below.drew ?_ | refine below_drewN ?_ _ | refine Below.setCell ?_ (by first | omega | (simp <;> omega)) _ | apply Below.alloc2 | refine Below.alloc ?_ (by first | omega | (simp <;> omega)) _ | (apply Below.join2; assumption))); done)); refine Same.thru (b := w.heap.size + 1) (c := #[.int .i64 k0, .int .i64 k1, .int .u64 k2, .int .u64 k3, .int .u64 k4, .int .u64 k5, .int .u64 k6, .int .u64 k7, .int .u64 k8, .int .u64 k9, .int .i64 k10, .int .i64 dy, .int .i64 k12, .int .i64 k13, .int .i64 k14, .int .i64 k15, .int .i64 k16, .int .i64 k17, .int .u64 pn, .int .u64 pd]) (t := 30) ?_ hS (fun gc => ?_); (focus (repeat (first | (with_reducible refine BlockIs.drew ?_) | ((with_reducible refine BlockIs.new' ?_); (simp <;> omega)) | (with_reducible refine BlockIs.alloc ?_ _))); done); have c18 : w1.cell? ⟨w.heap.size + 1, 18, none⟩ = some (.int .u64 pn) := gc.cell (i := 18) rfl; have c19 : w1.cell? ⟨w.heap.size + 1, 19, none⟩ = some (.int .u64 pd) := gc.cell (i := 19) rfl; clear gc; obtain ⟨v0, v1, v2, v3, v4, v5, v6, f0, f1, f2, f3, f4, f5, f6⟩ := vfacts gv; obtain ⟨z0, z1, z2, z3, z4, z5, z6, y0, y1, y2, y3, y4, y5, y6⟩ := vfacts gz; have gvl := gv.lt; have gzl := gz.lt; clear gv gz hS) | (go_at_call 10; refine (HAM.out _).mono ?_; rintro r w1 ⟨rfl, rfl⟩))
          refine bodyPost_ret (v := .tuple #[.agg #[.int .u64 (bal - px), .int .i64 (nextF st 7), .bool true, .int .i64 rq, .int .i64 ex, .int .i64 (max wd (laterF ep [dy])), .int .i64 (-1)], .int .u64 px, .int .i64 0]) (by simp [results, Try.results14, go_sem, *]) rfl ⟨rfl, ?_⟩
          (focus ((repeat (with_reducible first | exact hbel | assumption | exact Below.refl _ _ | refine Below.drew ?_ | refine below_drewN ?_ _ | refine Below.setCell ?_ (by first | omega | (simp <;> omega)) _ | apply Below.alloc2 | refine Below.alloc ?_ (by first | omega | (simp <;> omega)) _ | (apply Below.join2; assumption))); done))
      · have b3 : laterB ep [dy] = false := by simpa using h3
        have HI : Hid (slaR ⟨bal, st, false, rq, ex, wd, dl⟩ ep dy pn pd = (10, Val.zero, 0)) := by
          by_cases h4 : st = 2
          · subst h4; simp [Hid, slaR, foldG, gMark, gEvent, gDelay, show nextF 2 7 = 3 by decide, b3]
          · simp [Hid, slaR, foldG, gMark, gEvent, gDelay, h2, b3, h4]
        clear h2 h3
        rw [HI.out]
        simp only [Val.cells, Val.zero, Cfg.cells]
        go_enter Try.func14, Try.ntmps14
        go_wp2_with (first | (go_at_call 36; refine (rEpoch_any _ _).mono ?_; rintro r w1 ⟨rfl, rfl⟩) | (go_at_call 30; refine (rNext_any _ _ _).mono ?_; rintro r w1 ⟨rfl, rfl⟩) | (go_at_call 31; refine (rLater_any _ _ [dy] _ (slr_of_block (BlockIs.new' (c := #[.int .i64 dy]) (t := 3) ?_) 1 rfl (by decide)) (by simp) HBD.out).mono ?_; (focus (simp <;> done)); rintro r w1 ⟨rfl, hS⟩; refine Same.thru (b := w.heap.size) (c := #[.int .u64 bal, .int .i64 st, .bool false, .int .i64 rq, .int .i64 ex, .int .i64 wd, .int .i64 dl]) (t := 28) ?_ hS (fun gv => ?_); (focus (repeat (first | (with_reducible refine BlockIs.drew ?_) | ((with_reducible refine BlockIs.new' ?_); (simp <;> omega)) | (with_reducible refine BlockIs.alloc ?_ _))); done); refine Same.thru (b := w.heap.size + 1 + 1) (c := #[.int .u64 0, .int .i64 0, .bool false, .int .i64 0, .int .i64 0, .int .i64 0, .int .i64 0]) (t := 28) ?_ hS (fun gz => ?_); (focus (repeat (first | (with_reducible refine BlockIs.drew ?_) | ((with_reducible refine BlockIs.new' ?_); (simp <;> omega)) | (with_reducible refine BlockIs.alloc ?_ _))); done); refine Below.thru' (B := w.heap.size) (a := w) ?_ (hS.below _) (fun hbel => ?_); (focus ((repeat (with_reducible first | exact hbel | assumption | exact Below.refl _ _ | refine Below.drew ?_ | refine below_drewN ?_ _ | refine Below.setCell ?_ (by first | omega | (simp <;> omega)) _ | apply Below.alloc2 | refine Below.alloc ?_ (by first | omega | (simp <;> omega)) _ | (apply Below.join2; assumption))); done)); refine Same.thru (b := w.heap.size + 1) (c := #[.int .i64 k0, .int .i64 k1, .int .u64 k2, .int .u64 k3, .int .u64 k4, .int .u64 k5, .int .u64 k6, .int .u64 k7, .int .u64 k8, .int .u64 k9, .int .i64 k10, .int .i64 dy, .int .i64 k12, .int .i64 k13, .int .i64 k14, .int .i64 k15, .int .i64 k16, .int .i64 k17, .int .u64 pn, .int .u64 pd]) (t := 30) ?_ hS (fun gc => ?_); (focus (repeat (first | (with_reducible refine BlockIs.drew ?_) | ((with_reducible refine BlockIs.new' ?_); (simp <;> omega)) | (with_reducible refine BlockIs.alloc ?_ _))); done); have c18 : w1.cell? ⟨w.heap.size + 1, 18, none⟩ = some (.int .u64 pn) := gc.cell (i := 18) rfl; have c19 : w1.cell? ⟨w.heap.size + 1, 19, none⟩ = some (.int .u64 pd) := gc.cell (i := 19) rfl; clear gc; obtain ⟨v0, v1, v2, v3, v4, v5, v6, f0, f1, f2, f3, f4, f5, f6⟩ := vfacts gv; obtain ⟨z0, z1, z2, z3, z4, z5, z6, y0, y1, y2, y3, y4, y5, y6⟩ := vfacts gz; have gvl := gv.lt; have gzl := gz.lt; clear gv gz hS) | (go_at_call 10; refine (HAM.out _).mono ?_; rintro r w1 ⟨rfl, rfl⟩))
        refine bodyPost_ret (v := .tuple #[.agg #[.int .u64 0, .int .i64 0, .bool false, .int .i64 0, .int .i64 0, .int .i64 0, .int .i64 0], .int .u64 0, .int .i64 10]) (by simp [results, Try.results14, go_sem, *]) rfl ⟨rfl, ?_⟩
        (focus ((repeat (with_reducible first | exact hbel | assumption | exact Below.refl _ _ | refine Below.drew ?_ | refine below_drewN ?_ _ | refine Below.setCell ?_ (by first | omega | (simp <;> omega)) _ | apply Below.alloc2 | refine Below.alloc ?_ (by first | omega | (simp <;> omega)) _ | (apply Below.join2; assumption))); done))
set_option maxHeartbeats 2000000 in
theorem rPay_any (v : Val) (ep : Int) (w : World) :
    Calls Try.prog 16 #[.agg v.cells, .int .i64 ep] w fun r w' => r = .returned (.tuple #[.agg (payR v ep).2.1.cells, .int .u64 (if (payR v ep).1 = 0 then v.bal else 0), .int .i64 (payR v ep).1]) ∧ Below w.heap.size w w' := by
  obtain ⟨bal, st, sl, rq, ex, wd, dl⟩ := v
  simp only []
  have hbel : Below w.heap.size w w := Below.refl _ _
  by_cases h1 : st = 5
  · subst h1
    have n5 : nextF 5 5 = 6 := by decide
    by_cases h2 : ep < wd
    · have HI : Hid (payR ⟨bal, 5, sl, rq, ex, wd, dl⟩ ep = (8, Val.zero, 0)) := by simp [Hid, payR, foldG, gEvent, gDue, h2, n5]
      have b2 : decide (ep < wd) = true := by simpa using h2
      clear n5
      rw [HI.out]
      simp only [Val.cells, Val.zero]
      go_enter Try.func16, Try.ntmps16
      go_wp2
      refine bodyPost_ret (v := .tuple #[.agg #[.int .u64 0, .int .i64 0, .bool false, .int .i64 0, .int .i64 0, .int .i64 0, .int .i64 0], .int .u64 0, .int .i64 8]) (by simp [results, Try.results16, go_sem, *]) rfl ⟨rfl, ?_⟩
      (focus ((repeat (with_reducible first | exact hbel | assumption | exact Below.refl _ _ | refine Below.drew ?_ | refine below_drewN ?_ _ | refine Below.setCell ?_ (by first | omega | (simp <;> omega)) _ | apply Below.alloc2 | refine Below.alloc ?_ (by first | omega | (simp <;> omega)) _ | (apply Below.join2; assumption))); done))
    · have HI : Hid (payR ⟨bal, 5, sl, rq, ex, wd, dl⟩ ep = (0, ⟨0, 6, sl, rq, ex, wd, dl⟩, 0)) := by simp [Hid, payR, foldG, gEvent, gDue, h2, n5]
      have b2 : decide (ep < wd) = false := by simpa using h2
      clear n5
      rw [HI.out]
      simp only [Val.cells, Val.zero]
      go_enter Try.func16, Try.ntmps16
      go_wp2
      refine bodyPost_ret (v := .tuple #[.agg #[.int .u64 0, .int .i64 6, .bool sl, .int .i64 rq, .int .i64 ex, .int .i64 wd, .int .i64 dl], .int .u64 bal, .int .i64 0]) (by simp [results, Try.results16, go_sem, *]) rfl ⟨rfl, ?_⟩
      (focus ((repeat (with_reducible first | exact hbel | assumption | exact Below.refl _ _ | refine Below.drew ?_ | refine below_drewN ?_ _ | refine Below.setCell ?_ (by first | omega | (simp <;> omega)) _ | apply Below.alloc2 | refine Below.alloc ?_ (by first | omega | (simp <;> omega)) _ | (apply Below.join2; assumption))); done))
  · have b1 : (st == 5) = false := by simpa using h1
    have b1' : (st != 5) = true := by simpa using h1
    have HI : Hid (payR ⟨bal, st, sl, rq, ex, wd, dl⟩ ep = (8, Val.zero, 0)) := by
      have : nextF st 5 = 0 := by unfold nextF; simp; omega
      simp [Hid, payR, foldG, gEvent, this]
    clear h1
    rw [HI.out]
    simp only [Val.cells, Val.zero]
    go_enter Try.func16, Try.ntmps16
    go_wp2
    refine bodyPost_ret (v := .tuple #[.agg #[.int .u64 0, .int .i64 0, .bool false, .int .i64 0, .int .i64 0, .int .i64 0, .int .i64 0], .int .u64 0, .int .i64 8]) (by simp [results, Try.results16, go_sem, *]) rfl ⟨rfl, ?_⟩
    (focus ((repeat (with_reducible first | exact hbel | assumption | exact Below.refl _ _ | refine Below.drew ?_ | refine below_drewN ?_ _ | refine Below.setCell ?_ (by first | omega | (simp <;> omega)) _ | apply Below.alloc2 | refine Below.alloc ?_ (by first | omega | (simp <;> omega)) _ | (apply Below.join2; assumption))); done))
end Go.Proofs.Ytfohgbcjhmmpeaa
