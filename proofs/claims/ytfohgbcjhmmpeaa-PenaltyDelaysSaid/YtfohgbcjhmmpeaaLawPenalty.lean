/- The statements of layer 15: the walks. -/
import Derived.Test.YtfohgbcjhmmpeaaRefPenalty
import Derived.Test.YtfohgbcjhmmpeaaRefConfig
import Derived.Test.YtfohgbcjhmmpeaaEqS
import Derived.Test.YtfohgbcjhmmpeaaShape
namespace Go.Proofs.Ytfohgbcjhmmpeaa
open Go.RowKit
set_option linter.unusedVariables false
/-! ### Arguments -/
theorem sh_cons {w : World} {s : Sh} {ss : List Sh} {l : List Value} (h : HasSh w (.agg (s :: ss)) l) : ∃ c r, l = c ++ r ∧ HasSh w s c ∧ HasSh w (.agg ss) r := by
  cases h with
  | cons _ _ c r h1 h2 => exact ⟨c, r, rfl, h1, h2⟩
theorem sh_nil {w : World} {l : List Value} (h : HasSh w (.agg []) l) : l = [] := by cases h; rfl
theorem sh_int {w : World} {k : IntKind} {l : List Value} (h : HasSh w (.int k) l) : ∃ n, l = [.int k n] ∧ (Lit.int k n).wf = true := by cases h with | int _ n hn => exact ⟨n, rfl, hn⟩
theorem sh_bool {w : World} {l : List Value} (h : HasSh w .bool l) : ∃ b, l = [.bool b] := by cases h with | bool b => exact ⟨b, rfl⟩
theorem val_of_sh {w : World} {cs : Array Value} (h : HasSh w (.agg [.int .u64, .int .i64, .bool, .int .i64, .int .i64, .int .i64, .int .i64]) cs.toList) : ∃ v : Val, cs = v.cells ∧ v.wf := by
  obtain ⟨c1, r1, e1, h1, g1⟩ := sh_cons h; obtain ⟨n1, q1, b1⟩ := sh_int h1
  obtain ⟨c2, r2, e2, h2, g2⟩ := sh_cons g1; obtain ⟨n2, q2, b2⟩ := sh_int h2
  obtain ⟨c3, r3, e3, h3, g3⟩ := sh_cons g2
  obtain ⟨n3, q3⟩ := sh_bool h3
  obtain ⟨c4, r4, e4, h4, g4⟩ := sh_cons g3; obtain ⟨n4, q4, b4⟩ := sh_int h4
  obtain ⟨c5, r5, e5, h5, g5⟩ := sh_cons g4; obtain ⟨n5, q5, b5⟩ := sh_int h5
  obtain ⟨c6, r6, e6, h6, g6⟩ := sh_cons g5; obtain ⟨n6, q6, b6⟩ := sh_int h6
  obtain ⟨c7, r7, e7, h7, g7⟩ := sh_cons g6; obtain ⟨n7, q7, b7⟩ := sh_int h7
  have e := sh_nil g7
  refine ⟨⟨n1, n2, n3, n4, n5, n6, n7⟩, ?_, bounds_u64 b1, b2, b4, b5, b6, b7⟩
  apply Array.toList_inj.1
  rw [e1, e2, e3, e4, e5, e6, e7, e, q1, q2, q3, q4, q5, q6, q7]
  rfl
theorem cfg_of_sh {w : World} {cs : Array Value} (h : HasSh w (.agg [.int .i64, .int .i64, .int .u64, .int .u64, .int .u64, .int .u64, .int .u64, .int .u64, .int .u64, .int .u64, .int .i64, .int .i64, .int .i64, .int .i64, .int .i64, .int .i64, .int .i64, .int .i64, .int .u64, .int .u64]) cs.toList) : ∃ c : Cfg, cs = c.cells ∧ c.wf := by
  obtain ⟨c1, r1, e1, h1, g1⟩ := sh_cons h; obtain ⟨n1, q1, b1⟩ := sh_int h1
  obtain ⟨c2, r2, e2, h2, g2⟩ := sh_cons g1; obtain ⟨n2, q2, b2⟩ := sh_int h2
  obtain ⟨c3, r3, e3, h3, g3⟩ := sh_cons g2; obtain ⟨n3, q3, b3⟩ := sh_int h3
  obtain ⟨c4, r4, e4, h4, g4⟩ := sh_cons g3; obtain ⟨n4, q4, b4⟩ := sh_int h4
  obtain ⟨c5, r5, e5, h5, g5⟩ := sh_cons g4; obtain ⟨n5, q5, b5⟩ := sh_int h5
  obtain ⟨c6, r6, e6, h6, g6⟩ := sh_cons g5; obtain ⟨n6, q6, b6⟩ := sh_int h6
  obtain ⟨c7, r7, e7, h7, g7⟩ := sh_cons g6; obtain ⟨n7, q7, b7⟩ := sh_int h7
  obtain ⟨c8, r8, e8, h8, g8⟩ := sh_cons g7; obtain ⟨n8, q8, b8⟩ := sh_int h8
  obtain ⟨c9, r9, e9, h9, g9⟩ := sh_cons g8; obtain ⟨n9, q9, b9⟩ := sh_int h9
  obtain ⟨c10, r10, e10, h10, g10⟩ := sh_cons g9; obtain ⟨n10, q10, b10⟩ := sh_int h10
  obtain ⟨c11, r11, e11, h11, g11⟩ := sh_cons g10; obtain ⟨n11, q11, b11⟩ := sh_int h11
  obtain ⟨c12, r12, e12, h12, g12⟩ := sh_cons g11; obtain ⟨n12, q12, b12⟩ := sh_int h12
  obtain ⟨c13, r13, e13, h13, g13⟩ := sh_cons g12; obtain ⟨n13, q13, b13⟩ := sh_int h13
  obtain ⟨c14, r14, e14, h14, g14⟩ := sh_cons g13; obtain ⟨n14, q14, b14⟩ := sh_int h14
  obtain ⟨c15, r15, e15, h15, g15⟩ := sh_cons g14; obtain ⟨n15, q15, b15⟩ := sh_int h15
  obtain ⟨c16, r16, e16, h16, g16⟩ := sh_cons g15; obtain ⟨n16, q16, b16⟩ := sh_int h16
  obtain ⟨c17, r17, e17, h17, g17⟩ := sh_cons g16; obtain ⟨n17, q17, b17⟩ := sh_int h17
  obtain ⟨c18, r18, e18, h18, g18⟩ := sh_cons g17; obtain ⟨n18, q18, b18⟩ := sh_int h18
  obtain ⟨c19, r19, e19, h19, g19⟩ := sh_cons g18; obtain ⟨n19, q19, b19⟩ := sh_int h19
  obtain ⟨c20, r20, e20, h20, g20⟩ := sh_cons g19; obtain ⟨n20, q20, b20⟩ := sh_int h20
  have e := sh_nil g20
  refine ⟨⟨n1, n2, n3, n4, n5, n6, n7, n8, n9, n10, n11, n12, n13, n14, n15, n16, n17, n18, n19, n20⟩, ?_, ?_, ?_⟩
  · apply Array.toList_inj.1
    rw [e1, e2, e3, e4, e5, e6, e7, e8, e9, e10, e11, e12, e13, e14, e15, e16, e17, e18, e19, e20, e, q1, q2, q3, q4, q5, q6, q7, q8, q9, q10, q11, q12, q13, q14, q15, q16, q17, q18, q19, q20]
    rfl
  · intro x hx
    simp [Cfg.ints] at hx
    rcases hx with rfl | rfl | rfl | rfl | rfl | rfl | rfl | rfl | rfl | rfl <;> assumption
  · intro x hx
    simp [Cfg.amounts] at hx
    rcases hx with rfl | rfl | rfl | rfl | rfl | rfl | rfl | rfl | rfl | rfl <;> (apply bounds_u64; assumption)
/-! ### The example -/
theorem val0_wf : (⟨50, 2, false, -1, -1, -1, -1⟩ : Val).wf := ⟨⟨by decide, by decide⟩, by decide, by decide, by decide, by decide, by decide⟩
theorem slaR_0 : slaR ⟨50, 2, false, -1, -1, -1, -1⟩ 3 5 1 4 = (0, ⟨38, 3, true, 3, -1, 8, -1⟩, 12) := by
  simp [slaR, foldG, gMark, gEvent, gDelay, gBurn, nextF, laterB, laterF, laterGo, maxF, maxGo, penF, mulF]
set_option maxHeartbeats 1000000 in
theorem alive_any (w : World) : Calls Try.prog 11 #[] w fun e w' => e = .returned (.bool true) ∧ Below w.heap.size w w' := by
  have HS : Hid (∀ w, Calls Try.prog 13 #[.agg (Val.cells ⟨50, 2, false, -1, -1, -1, -1⟩), .int .i64 3, .agg Cfg.deflt.cells] w fun r w' => r = .returned (.tuple #[.agg (Val.cells ⟨38, 3, true, 3, -1, 8, -1⟩), .int .u64 12, .int .i64 0]) ∧ Below w.heap.size w w') := Lib.hid fun w => by
    have h := slash_any ⟨50, 2, false, -1, -1, -1, -1⟩ val0_wf 3 (by decide) Cfg.deflt (by decide) (by decide) (by decide) (by decide) (by decide) w
    rw [show slaR ⟨50, 2, false, -1, -1, -1, -1⟩ 3 Cfg.deflt.slashDelay Cfg.deflt.penNum Cfg.deflt.penDen = _ from slaR_0] at h
    exact h
  have he := run_equalIn_val ⟨38, 3, true, 3, -1, 8, -1⟩ ⟨38, 3, true, 3, -1, 8, -1⟩
  rw [veq_refl] at he
  have HE := Lib.hid he
  clear he
  have HD := Lib.hid (fun w => default_any w)
  generalize Cfg.deflt.cells = dc at *
  go_enter Try.func11, Try.ntmps11
  go_wp2_with (first
    | (go_at_call 23; refine (HD.out _).mono ?_; rintro r w1 ⟨rfl, hb1⟩)
    | (go_at_call 13; refine (HS.out _).mono ?_; rintro r w2 ⟨rfl, hb2⟩)
    | ((with_reducible show wpList _ _ _ _ _ _); (with_reducible apply wpList_store_val (.tmp 1) (.tmp 8)); (focus exact rfl); (focus exact rfl); (focus exact rfl); (focus exact rfl); (focus (first | exact rfl | (simp <;> done))); (focus (first | assumption | exact isVal _ | exact isVal_lit ..)); (focus (first | assumption | exact isVal _ | exact isVal_lit ..)))
    | ((with_reducible show wpList _ _ _ _ _ _); (with_reducible apply wpList_load_val (.tmp 1)); (focus exact rfl); (focus exact rfl); (focus exact rfl); (focus ((repeat (with_reducible first | assumption | apply BlockIs.drew | apply BlockIs.drewN | ((apply BlockIs.new'); (simp <;> omega)) | apply BlockIs.alloc | apply BlockIs.setRow | ((apply BlockIs.setRow_other); (focus omega)) | (apply BlockIs.back; assumption))); done)); (focus (first | assumption | exact isVal _ | exact isVal_lit ..)))
    | ((with_reducible show wpList _ _ _ _ _ _); (with_reducible apply wpList_eql_agg (.tmp 18) (.tmp 19) 28 28 true); (focus exact rfl); (focus exact rfl); (focus exact rfl); (focus exact rfl); (focus exact guard_val); (focus (first | exact HE.out _ | exact HE2.out _))))
  go_ret
  exact ⟨rfl, by (focus ((repeat (with_reducible first | exact hbel | assumption | exact Below.refl _ _ | refine Below.drew ?_ | refine below_drewN ?_ _ | refine Below.setCell ?_ (by first | omega | (simp <;> omega)) _ | apply Below.alloc2 | refine Below.alloc ?_ (by first | omega | (simp <;> omega)) _ | (apply Below.join2; assumption))); done))⟩

/-! ### The statements -/
set_option maxHeartbeats 1000000 in
theorem start_PenaltyAmounts (w : World) (b : Int) (hb : 0 ≤ b ∧ b ≤ 18446744073709551615) (n : Int) (hn : 0 ≤ n ∧ n ≤ 18446744073709551615) (d : Int) (hd : 0 ≤ d ∧ d ≤ 18446744073709551615) :
    Calls Try.prog 3 #[.int .u64 b, .int .u64 n, .int .u64 d] w fun e w' => e = .returned (.bool true) ∧ Below w.heap.size w w' := by
  have HA := Lib.hid (fun w => amount_any b n d w hb.1 hb.2 hn.1 hn.2 hd.1 hd.2)
  have HR := Lib.hid (fun w => rAmount_any b n d w hb.1 hb.2 hn.1 hn.2 hd.1 hd.2)
  obtain ⟨p0, p1⟩ := penF_le b n d hb.1 hn.1
  generalize penF b n d = x at *
  generalize penB b n d = y at *
  have hdd : decide (x ≤ b) = true := by simpa using p1
  go_enter Try.func3, Try.ntmps3
  go_wp2_with (first
    | (go_at_call 9; refine (HA.out _).mono ?_; rintro r w1 ⟨rfl, hb1⟩)
    | (go_at_call 10; refine (HR.out _).mono ?_; rintro r w1 ⟨rfl, rfl⟩)
    | (go_at_call 11; refine (alive_any _).mono ?_; rintro r w9 ⟨rfl, hb9⟩))
  go_ret
  exact ⟨rfl, by (focus ((repeat (with_reducible first | exact hbel | assumption | exact Below.refl _ _ | refine Below.drew ?_ | refine below_drewN ?_ _ | refine Below.setCell ?_ (by first | omega | (simp <;> omega)) _ | apply Below.alloc2 | refine Below.alloc ?_ (by first | omega | (simp <;> omega)) _ | (apply Below.join2; assumption))); done))⟩
set_option maxHeartbeats 1000000 in
theorem start_PenaltyExits (w : World) (cs : Array Value) (sv : HasSh w (.agg [.int .u64, .int .i64, .bool, .int .i64, .int .i64, .int .i64, .int .i64]) cs.toList) (ep : Int) (hep : -9223372036854775808 ≤ ep ∧ ep ≤ 9223372036854775807) (cc : Array Value)
    (sc : HasSh w (.agg [.int .i64, .int .i64, .int .u64, .int .u64, .int .u64, .int .u64, .int .u64, .int .u64, .int .u64, .int .u64, .int .i64, .int .i64, .int .i64, .int .i64, .int .i64, .int .i64, .int .i64, .int .i64, .int .u64, .int .u64]) cc.toList) :
    Calls Try.prog 6 #[.agg cs, .int .i64 ep, .agg cc] w fun e w' => e = .returned (.bool true) ∧ Below w.heap.size w w' := by
  obtain ⟨v, rfl, hv⟩ := val_of_sh sv
  obtain ⟨cf, rfl, hcf⟩ := cfg_of_sh sc; have HC := Lib.hid (fun w => rCheck_any cf w); have hisc := isCfg cf
  have hdy : (Lit.int .i64 cf.unbonding).wf = true := hcf.1 _ (by simp [Cfg.ints])
  have HA := Lib.hid (fun w => accept_any v hv ep (WalkArith.wf_i64 hep) w)
  have HB := Lib.hid (fun w => assign_any v hv ep (WalkArith.wf_i64 hep) cf hdy w)
  have HX := Lib.hid (fun w => rAccept_any v ep w)
  have HY := Lib.hid (fun w => rAssign_any v ep cf hdy w)
  have he := run_equalIn_val (accR v ep).2.1 (accR v ep).2.1
  have he2 := run_equalIn_val (asgR v ep cf.unbonding).2.1 (asgR v ep cf.unbonding).2.1
  have hia := isVal (accR v ep).2.1
  have hib := isVal (asgR v ep cf.unbonding).2.1
  have hiv := isVal v
  rw [veq_refl] at he he2
  have HE := Lib.hid he
  have HE2 := Lib.hid he2
  clear he he2 sv sc hv hdy hcf
  generalize (accR v ep).2.1.cells = ca at *
  generalize (asgR v ep cf.unbonding).2.1.cells = cb at *
  generalize (accR v ep).1 = ea at *
  generalize (asgR v ep cf.unbonding).1 = eb at *
  generalize v.cells = cv at *
  generalize cf.cells = cc at *
  generalize (checkF cf : Int) = ck at *
  by_cases hk : ck = 0
  · have hkb : (ck != 0) = false := by simp [hk]
    clear hk
    go_enter Try.func6, Try.ntmps6
    go_wp2_with (first
      | (go_at_call 12; refine (HC.out _).mono ?_; rintro r w1 ⟨rfl, hb1⟩)
      | (go_at_call 17; refine (HA.out _).mono ?_; rintro r w1 ⟨rfl, hb1⟩)
      | (go_at_call 18; refine (HB.out _).mono ?_; rintro r w1 ⟨rfl, hb1⟩)
      | (go_at_call 19; refine (HX.out _).mono ?_; rintro r w1 ⟨rfl, hb1⟩)
      | (go_at_call 20; refine (HY.out _).mono ?_; rintro r w1 ⟨rfl, hb1⟩)
      | (go_at_call 11; refine (alive_any _).mono ?_; rintro r w9 ⟨rfl, hb9⟩)
      | ((with_reducible show wpList _ _ _ _ _ _); (with_reducible apply wpList_load_val (.tmp 3)); (focus exact rfl); (focus exact rfl); (focus exact rfl); (focus ((repeat (with_reducible first | assumption | apply BlockIs.drew | apply BlockIs.drewN | ((apply BlockIs.new'); (simp <;> omega)) | apply BlockIs.alloc | apply BlockIs.setRow | ((apply BlockIs.setRow_other); (focus omega)) | (apply BlockIs.back; assumption))); done)); (focus (first | assumption | exact isVal _ | exact isVal_lit ..))) | ((with_reducible show wpList _ _ _ _ _ _); (with_reducible apply wpList_load_cfg (.tmp 5)); (focus exact rfl); (focus exact rfl); (focus exact rfl); (focus ((repeat (with_reducible first | assumption | apply BlockIs.drew | apply BlockIs.drewN | ((apply BlockIs.new'); (simp <;> omega)) | apply BlockIs.alloc | apply BlockIs.setRow | ((apply BlockIs.setRow_other); (focus omega)) | (apply BlockIs.back; assumption))); done)); (focus (first | assumption | exact isCfg _))) | ((with_reducible show wpList _ _ _ _ _ _); (with_reducible apply wpList_store_val (.tmp 7) (.tmp 23)); (focus exact rfl); (focus exact rfl); (focus exact rfl); (focus exact rfl); (focus (first | exact rfl | (simp <;> done))); (focus (first | assumption | exact isVal _ | exact isVal_lit ..)); (focus (first | assumption | exact isVal _ | exact isVal_lit ..))) | ((with_reducible show wpList _ _ _ _ _ _); (with_reducible apply wpList_store_val (.tmp 9) (.tmp 30)); (focus exact rfl); (focus exact rfl); (focus exact rfl); (focus exact rfl); (focus (first | exact rfl | (simp <;> done))); (focus (first | assumption | exact isVal _ | exact isVal_lit ..)); (focus (first | assumption | exact isVal _ | exact isVal_lit ..))) | ((with_reducible show wpList _ _ _ _ _ _); (with_reducible apply wpList_store_val (.tmp 11) (.tmp 36)); (focus exact rfl); (focus exact rfl); (focus exact rfl); (focus exact rfl); (focus (first | exact rfl | (simp <;> done))); (focus (first | assumption | exact isVal _ | exact isVal_lit ..)); (focus (first | assumption | exact isVal _ | exact isVal_lit ..))) | ((with_reducible show wpList _ _ _ _ _ _); (with_reducible apply wpList_store_val (.tmp 13) (.tmp 43)); (focus exact rfl); (focus exact rfl); (focus exact rfl); (focus exact rfl); (focus (first | exact rfl | (simp <;> done))); (focus (first | assumption | exact isVal _ | exact isVal_lit ..)); (focus (first | assumption | exact isVal _ | exact isVal_lit ..))) | ((with_reducible show wpList _ _ _ _ _ _); (with_reducible apply wpList_load_val (.tmp 7)); (focus exact rfl); (focus exact rfl); (focus exact rfl); (focus ((repeat (with_reducible first | assumption | apply BlockIs.drew | apply BlockIs.drewN | ((apply BlockIs.new'); (simp <;> omega)) | apply BlockIs.alloc | apply BlockIs.setRow | ((apply BlockIs.setRow_other); (focus omega)) | (apply BlockIs.back; assumption))); done)); (focus (first | assumption | exact isVal _ | exact isVal_lit ..))) | ((with_reducible show wpList _ _ _ _ _ _); (with_reducible apply wpList_load_val (.tmp 11)); (focus exact rfl); (focus exact rfl); (focus exact rfl); (focus ((repeat (with_reducible first | assumption | apply BlockIs.drew | apply BlockIs.drewN | ((apply BlockIs.new'); (simp <;> omega)) | apply BlockIs.alloc | apply BlockIs.setRow | ((apply BlockIs.setRow_other); (focus omega)) | (apply BlockIs.back; assumption))); done)); (focus (first | assumption | exact isVal _ | exact isVal_lit ..))) | ((with_reducible show wpList _ _ _ _ _ _); (with_reducible apply wpList_load_val (.tmp 9)); (focus exact rfl); (focus exact rfl); (focus exact rfl); (focus ((repeat (with_reducible first | assumption | apply BlockIs.drew | apply BlockIs.drewN | ((apply BlockIs.new'); (simp <;> omega)) | apply BlockIs.alloc | apply BlockIs.setRow | ((apply BlockIs.setRow_other); (focus omega)) | (apply BlockIs.back; assumption))); done)); (focus (first | assumption | exact isVal _ | exact isVal_lit ..))) | ((with_reducible show wpList _ _ _ _ _ _); (with_reducible apply wpList_load_val (.tmp 13)); (focus exact rfl); (focus exact rfl); (focus exact rfl); (focus ((repeat (with_reducible first | assumption | apply BlockIs.drew | apply BlockIs.drewN | ((apply BlockIs.new'); (simp <;> omega)) | apply BlockIs.alloc | apply BlockIs.setRow | ((apply BlockIs.setRow_other); (focus omega)) | (apply BlockIs.back; assumption))); done)); (focus (first | assumption | exact isVal _ | exact isVal_lit ..))) | ((with_reducible show wpList _ _ _ _ _ _); (with_reducible apply wpList_eql_agg (.tmp 47) (.tmp 48) 28 28 true); (focus exact rfl); (focus exact rfl); (focus exact rfl); (focus exact rfl); (focus exact guard_val); (focus (first | exact HE.out _ | exact HE2.out _))) | ((with_reducible show wpList _ _ _ _ _ _); (with_reducible apply wpList_eql_agg (.tmp 57) (.tmp 58) 28 28 true); (focus exact rfl); (focus exact rfl); (focus exact rfl); (focus exact rfl); (focus exact guard_val); (focus (first | exact HE.out _ | exact HE2.out _))))
    go_ret
    exact ⟨rfl, by (focus ((repeat (with_reducible first | exact hbel | assumption | exact Below.refl _ _ | refine Below.drew ?_ | refine below_drewN ?_ _ | refine Below.setCell ?_ (by first | omega | (simp <;> omega)) _ | apply Below.alloc2 | refine Below.alloc ?_ (by first | omega | (simp <;> omega)) _ | (apply Below.join2; assumption))); done))⟩
  · have hkb : (ck != 0) = true := by simp [hk]
    clear hk
    go_enter Try.func6, Try.ntmps6
    go_wp2_with (first
      | (go_at_call 12; refine (HC.out _).mono ?_; rintro r w1 ⟨rfl, hb1⟩)
      | (go_at_call 11; refine (alive_any _).mono ?_; rintro r w9 ⟨rfl, hb9⟩)
      | ((with_reducible show wpList _ _ _ _ _ _); (with_reducible apply wpList_load_cfg (.tmp 5)); (focus exact rfl); (focus exact rfl); (focus exact rfl); (focus ((repeat (with_reducible first | assumption | apply BlockIs.drew | apply BlockIs.drewN | ((apply BlockIs.new'); (simp <;> omega)) | apply BlockIs.alloc | apply BlockIs.setRow | ((apply BlockIs.setRow_other); (focus omega)) | (apply BlockIs.back; assumption))); done)); (focus (first | assumption | exact isCfg _))))
    go_ret
    exact ⟨rfl, by (focus ((repeat (with_reducible first | exact hbel | assumption | exact Below.refl _ _ | refine Below.drew ?_ | refine below_drewN ?_ _ | refine Below.setCell ?_ (by first | omega | (simp <;> omega)) _ | apply Below.alloc2 | refine Below.alloc ?_ (by first | omega | (simp <;> omega)) _ | (apply Below.join2; assumption))); done))⟩
end Go.Proofs.Ytfohgbcjhmmpeaa
