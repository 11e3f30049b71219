/- Contracts of package penalty: Accept, Assign. -/
import Derived.Test.YtfohgbcjhmmpeaaPenaltyF
import Derived.Deep.DeepCutAuto
namespace Go.Proofs.Ytfohgbcjhmmpeaa
open Go.RowKit
set_option linter.unusedVariables false
def accR (v : Val) (ep : Int) : Int × Val × Int := foldG [gRequest ep, gEvent 2] v 0
theorem acc_apply (W : World) (v : Val) (hv : v.wf) (ep : Int) (hep : (Lit.int .i64 ep).wf = true) (bs c he : Nat) (k1 : W.cell? ⟨bs, 0, none⟩ = some (.func (.func 33) #[] #[.pointer (some ⟨he, 0, none⟩)])) (k2 : W.cell? ⟨bs, 1, none⟩ = some (.func (.func 42) #[] #[.pointer (some ⟨c, 0, none⟩)]))
    (k3 : W.cell? ⟨c, 0, none⟩ = some (.int .i64 2)) (k4 : W.cell? ⟨he, 0, none⟩ = some (.int .i64 ep)) :
    Calls Try.prog 27 #[.agg v.cells, .slice (some ⟨bs, 0, none⟩) 2 2] W fun r w' => r = .returned (.tuple #[.agg (accR v ep).2.1.cells, .int .i64 (accR v ep).1]) ∧ Upd [bs, c, he] W w' := by
  have h := apply_IF [(bs, 0, .func (.func 33) #[] #[.pointer (some ⟨he, 0, none⟩)]), (bs, 1, .func (.func 42) #[] #[.pointer (some ⟨c, 0, none⟩)]), (c, 0, .int .i64 2), (he, 0, .int .i64 ep)] none
    [(33, #[.pointer (some ⟨he, 0, none⟩)]), (42, #[.pointer (some ⟨c, 0, none⟩)])] [gRequest ep, gEvent 2] ⟨chg_request hep (by simp), chg_event (wf_small _ (by omega) (by omega)) (by simp), trivial⟩ v 0 bs 2 W hv
    ⟨by simp [k1, k2, k3, k4], by simp⟩ (fun j hj => by
      have : j = 0 ∨ j = 1 := by simp at hj; omega
      rcases this with rfl | rfl <;> simp) (by simp)
  exact h.mono fun r w' ⟨h1, h2, _⟩ => ⟨h1, h2.mono fun k hk _ => by simp at hk⟩
set_option maxHeartbeats 4000000 in
theorem accept_any (v : Val) (hv : v.wf) (ep : Int) (hep : (Lit.int .i64 ep).wf = true) (w : World) :
    Calls Try.prog 17 #[.agg v.cells, .int .i64 ep] w fun r w' => r = .returned (.tuple #[.agg (accR v ep).2.1.cells, .int .i64 (accR v ep).1]) ∧ Below w.heap.size w w' := by
  have HA := fun W bs c he k1 k2 k3 k4 => acc_apply W v hv ep hep bs c he k1 k2 k3 k4
  obtain ⟨bal, st, sl, rq, ex, wd, dl⟩ := v
  generalize accR ⟨bal, st, sl, rq, ex, wd, dl⟩ ep = R at *
  obtain ⟨code, ⟨bal', st', sl', rq', ex', wd', dl'⟩, s'⟩ := R
  simp only [Val.cells] at HA
  have HAA := Lib.hid HA
  clear HA hv hep
  unfold Val.cells
  simp only []
  go_enter Try.func17, Try.ntmps17
  go_upto_region 2 with fail
  go_cut [5] (fun c wx => c = .int .i64 code ∧ BlockIs wx (w.heap.size + 1 + 1) #[.int .u64 bal', .int .i64 st', .bool sl', .int .i64 rq', .int .i64 ex', .int .i64 wd', .int .i64 dl'] 28 ∧ Below w.heap.size w wx)
  case first =>
    go_region_held3 (fun w' => w'.cell? ⟨w.heap.size, 0, none⟩ = some (.int .u64 bal) ∧ w'.cell? ⟨w.heap.size, 1, none⟩ = some (.int .i64 st) ∧ w'.cell? ⟨w.heap.size, 2, none⟩ = some (.bool sl) ∧ w'.cell? ⟨w.heap.size, 3, none⟩ = some (.int .i64 rq) ∧ w'.cell? ⟨w.heap.size, 4, none⟩ = some (.int .i64 ex) ∧ w'.cell? ⟨w.heap.size, 5, none⟩ = some (.int .i64 wd) ∧ w'.cell? ⟨w.heap.size, 6, none⟩ = some (.int .i64 dl)) (((try dsimp only); (repeat' apply And.intro) <;> go_simp)) (first
      | (go_at_call 28; refine (event_any _ _).mono ?_; rintro r w1 ⟨rfl, rfl⟩)
      | (go_at_call 27; (refine (HAA.out _ _ (w.heap.size + 3) (w.heap.size + 1) ?_ ?_ ?_ ?_).mono ?_; (focus (go_simp; done)); (focus (go_simp; done)); (focus (go_simp; done)); (focus (go_simp; done)); rintro r w1 ⟨rfl, hu⟩; refine BlockIs.thru (b := w.heap.size + 1 + 1) (c := #[.int .u64 0, .int .i64 0, .bool false, .int .i64 0, .int .i64 0, .int .i64 0, .int .i64 0]) (t := 28) ?_ hu ?_ (fun gz => ?_); (focus (repeat (first | (with_reducible refine BlockIs.drew ?_) | ((with_reducible refine BlockIs.new' ?_); (simp <;> omega)) | (with_reducible refine BlockIs.alloc ?_ _))); done); (focus (simp <;> omega)); obtain ⟨o0, o1, o2, o3, o4, o5, o6, p0, p1, p2, p3, p4, p5, p6⟩ := vfacts gz; refine BlockIs.thru (b := w.heap.size) (c := #[.int .u64 bal, .int .i64 st, .bool sl, .int .i64 rq, .int .i64 ex, .int .i64 wd, .int .i64 dl]) (t := 28) ?_ hu ?_ (fun gv => ?_); (focus (repeat (first | (with_reducible refine BlockIs.drew ?_) | ((with_reducible refine BlockIs.new' ?_); (simp <;> omega)) | (with_reducible refine BlockIs.alloc ?_ _))); done); (focus (simp <;> omega)); obtain ⟨v0, v1, v2, v3, v4, v5, v6, _, _, _, _, _, _, _⟩ := vfacts gv; have hsz := gz.lt; have hsv := gv.lt; have hbw : Below w.heap.size w w1 := Below.trans (by (repeat (with_reducible first | exact Below.refl _ _ | refine Below.drew ?_ | refine Below.alloc ?_ (by first | omega | (simp <;> omega)) _))) (hu.below (by first | omega | (simp <;> omega)) (by first | (simp <;> omega))))))
    all_goals (go_wp2_with fail; go_meet; refine ⟨rfl, ?_, ?_⟩; (focus ((repeat (with_reducible first | exact gz | refine BlockIs.drew ?_ | exact set7 gz)); done)); (focus ((repeat (with_reducible first | exact hbw | refine Below.drew ?_ | refine Below.setCell ?_ (by first | omega | (simp <;> omega)) _ | refine Below.alloc ?_ (by first | omega | (simp <;> omega)) _)); done)))
  case rest =>
    obtain ⟨rfl, hbz, hbel⟩ := hcut
    obtain ⟨z0, z1, z2, z3, z4, z5, z6, f0, f1, f2, f3, f4, f5, f6⟩ := vfacts hbz
    clear HAA
    go_wp2
    refine bodyPost_ret (v := .tuple #[.agg #[.int .u64 bal', .int .i64 st', .bool sl', .int .i64 rq', .int .i64 ex', .int .i64 wd', .int .i64 dl'], .int .i64 code]) (by simp [results, Try.results17, go_sem, *]) rfl ⟨rfl, ?_⟩
    (focus ((repeat (with_reducible first | exact hbel | refine Below.drew ?_ | refine Below.setCell ?_ (by first | omega | (simp <;> omega)) _ | refine Below.alloc ?_ (by first | omega | (simp <;> omega)) _)); done))
def asgR (v : Val) (xt dy : Int) : Int × Val × Int := foldG [gFresh xt, gDelay xt dy] v 0
theorem asg_apply (W : World) (v : Val) (hv : v.wf) (xt dy : Int) (hxt : (Lit.int .i64 xt).wf = true) (hdy : (Lit.int .i64 dy).wf = true) (bs c d he : Nat) (k1 : W.cell? ⟨bs, 0, none⟩ = some (.func (.func 35) #[] #[.pointer (some ⟨he, 0, none⟩)])) (k2 : W.cell? ⟨bs, 1, none⟩ = some (.func (.func 44) #[] #[.pointer (some ⟨c, 0, none⟩), .pointer (some ⟨d, 0, none⟩)]))
    (k3 : W.cell? ⟨c, 0, none⟩ = some (.int .i64 xt)) (k4 : W.cell? ⟨d, 0, none⟩ = some (.int .i64 dy)) (k5 : W.cell? ⟨he, 0, none⟩ = some (.int .i64 xt)) :
    Calls Try.prog 27 #[.agg v.cells, .slice (some ⟨bs, 0, none⟩) 2 2] W fun r w' => r = .returned (.tuple #[.agg (asgR v xt dy).2.1.cells, .int .i64 (asgR v xt dy).1]) ∧ Upd [] W w' := by
  have h := apply_IF [(bs, 0, .func (.func 35) #[] #[.pointer (some ⟨he, 0, none⟩)]), (bs, 1, .func (.func 44) #[] #[.pointer (some ⟨c, 0, none⟩), .pointer (some ⟨d, 0, none⟩)]), (c, 0, .int .i64 xt), (d, 0, .int .i64 dy), (he, 0, .int .i64 xt)] none
    [(35, #[.pointer (some ⟨he, 0, none⟩)]), (44, #[.pointer (some ⟨c, 0, none⟩), .pointer (some ⟨d, 0, none⟩)])] [gFresh xt, gDelay xt dy] ⟨chg_fresh hxt (by simp), chg_delay hxt hdy (c := c) (d := d) (by simp) (by simp), trivial⟩ v 0 bs 2 W hv
    ⟨by simp [k1, k2, k3, k4, k5], by simp⟩ (fun j hj => by
      have : j = 0 ∨ j = 1 := by simp at hj; omega
      rcases this with rfl | rfl <;> simp) (by simp)
  exact h.mono fun r w' ⟨h1, h2, _⟩ => ⟨h1, h2.mono fun k hk _ => by simp at hk⟩
set_option maxHeartbeats 4000000 in
theorem assign_any (v : Val) (hv : v.wf) (xt : Int) (hxt : (Lit.int .i64 xt).wf = true) (cf : Cfg) (hdy : (Lit.int .i64 cf.unbonding).wf = true) (w : World) :
    Calls Try.prog 18 #[.agg v.cells, .int .i64 xt, .agg cf.cells] w fun r w' => r = .returned (.tuple #[.agg (asgR v xt cf.unbonding).2.1.cells, .int .i64 (asgR v xt cf.unbonding).1]) ∧ Below w.heap.size w w' := by
  obtain ⟨k0, k1, k2, k3, k4, k5, k6, k7, k8, k9, dy, k11, k12, k13, k14, k15, k16, k17, k18, k19⟩ := cf
  simp only [] at hdy
  have HA := fun W bs c d he k1 k2 k3 k4 k5 => asg_apply W v hv xt dy hxt hdy bs c d he k1 k2 k3 k4 k5
  obtain ⟨bal, st, sl, rq, ex, wd, dl⟩ := v
  simp only []
  generalize asgR ⟨bal, st, sl, rq, ex, wd, dl⟩ xt dy = R at *
  obtain ⟨code, ⟨bal', st', sl', rq', ex', wd', dl'⟩, s'⟩ := R
  simp only [Val.cells] at HA
  have HAA := Lib.hid HA
  clear HA hv hxt hdy
  unfold Val.cells Cfg.cells
  simp only []
  go_enter Try.func18, Try.ntmps18
  go_upto_region 2 with fail
  go_cut [7] (fun c wx => c = .int .i64 code ∧ BlockIs wx (w.heap.size + 1 + 1 + 1) #[.int .u64 bal', .int .i64 st', .bool sl', .int .i64 rq', .int .i64 ex', .int .i64 wd', .int .i64 dl'] 28 ∧ Below w.heap.size w wx)
  case first =>
    go_region_held3 (fun w' => w'.cell? ⟨w.heap.size, 0, none⟩ = some (.int .u64 bal) ∧ w'.cell? ⟨w.heap.size, 1, none⟩ = some (.int .i64 st) ∧ w'.cell? ⟨w.heap.size, 2, none⟩ = some (.bool sl) ∧ w'.cell? ⟨w.heap.size, 3, none⟩ = some (.int .i64 rq) ∧ w'.cell? ⟨w.heap.size, 4, none⟩ = some (.int .i64 ex) ∧ w'.cell? ⟨w.heap.size, 5, none⟩ = some (.int .i64 wd) ∧ w'.cell? ⟨w.heap.size, 6, none⟩ = some (.int .i64 dl) ∧ w'.cell? ⟨w.heap.size + 1, 0, none⟩ = some (.int .i64 xt) ∧ w'.cell? ⟨w.heap.size + 2, 10, none⟩ = some (.int .i64 dy)) (((try dsimp only); (repeat' apply And.intro) <;> go_simp)) (first
      | (go_at_call 29; refine (delay_any _ _ _).mono ?_; rintro r w1 ⟨rfl, rfl⟩)
      | (go_at_call 27; (refine (HAA.out _ _ (w.heap.size + 4) (w.heap.size + 5) (w.heap.size + 1) ?_ ?_ ?_ ?_ ?_).mono ?_; (focus (go_simp; done)); (focus (go_simp; done)); (focus (go_simp; done)); (focus (go_simp; done)); (focus (go_simp; done)); rintro r w1 ⟨rfl, hu⟩; refine Upd.thruC (b := w.heap.size + 1) (i := 0) (v := .int .i64 xt) ?_ hu ?_ (fun q1 => ?_); (focus (go_simp; done)); (focus (simp <;> omega)); refine Upd.thruC (b := w.heap.size + 2) (i := 10) (v := .int .i64 dy) ?_ hu ?_ (fun q2 => ?_); (focus (go_simp; done)); (focus (simp <;> omega)); refine BlockIs.thru (b := w.heap.size + 1 + 1 + 1) (c := #[.int .u64 0, .int .i64 0, .bool false, .int .i64 0, .int .i64 0, .int .i64 0, .int .i64 0]) (t := 28) ?_ hu ?_ (fun gz => ?_); (focus (repeat (first | (with_reducible refine BlockIs.drew ?_) | ((with_reducible refine BlockIs.new' ?_); (simp <;> omega)) | (with_reducible refine BlockIs.alloc ?_ _))); done); (focus (simp <;> omega)); obtain ⟨o0, o1, o2, o3, o4, o5, o6, p0, p1, p2, p3, p4, p5, p6⟩ := vfacts gz; refine BlockIs.thru (b := w.heap.size) (c := #[.int .u64 bal, .int .i64 st, .bool sl, .int .i64 rq, .int .i64 ex, .int .i64 wd, .int .i64 dl]) (t := 28) ?_ hu ?_ (fun gv => ?_); (focus (repeat (first | (with_reducible refine BlockIs.drew ?_) | ((with_reducible refine BlockIs.new' ?_); (simp <;> omega)) | (with_reducible refine BlockIs.alloc ?_ _))); done); (focus (simp <;> omega)); obtain ⟨v0, v1, v2, v3, v4, v5, v6, _, _, _, _, _, _, _⟩ := vfacts gv; have hsz := gz.lt; have hsv := gv.lt; have hbw : Below w.heap.size w w1 := Below.trans (by (repeat (with_reducible first | exact Below.refl _ _ | refine Below.drew ?_ | refine Below.alloc ?_ (by first | omega | (simp <;> omega)) _))) (hu.below (by first | omega | (simp <;> omega)) (by first | (simp <;> omega))))))
    all_goals (go_wp2_with fail; go_meet; refine ⟨rfl, ?_, ?_⟩; (focus ((repeat (with_reducible first | exact gz | refine BlockIs.drew ?_ | exact set7 gz)); done)); (focus ((repeat (with_reducible first | exact hbw | refine Below.drew ?_ | refine Below.setCell ?_ (by first | omega | (simp <;> omega)) _ | refine Below.alloc ?_ (by first | omega | (simp <;> omega)) _)); done)))
  case rest =>
    obtain ⟨rfl, hbz, hbel⟩ := hcut
    obtain ⟨z0, z1, z2, z3, z4, z5, z6, f0, f1, f2, f3, f4, f5, f6⟩ := vfacts hbz
    clear HAA
    go_wp2
    refine bodyPost_ret (v := .tuple #[.agg #[.int .u64 bal', .int .i64 st', .bool sl', .int .i64 rq', .int .i64 ex', .int .i64 wd', .int .i64 dl'], .int .i64 code]) (by simp [results, Try.results18, go_sem, *]) rfl ⟨rfl, ?_⟩
    (focus ((repeat (with_reducible first | exact hbel | refine Below.drew ?_ | refine Below.setCell ?_ (by first | omega | (simp <;> omega)) _ | refine Below.alloc ?_ (by first | omega | (simp <;> omega)) _)); done))
end Go.Proofs.Ytfohgbcjhmmpeaa
