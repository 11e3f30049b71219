/- Contracts of package penalty: Pay, Accept, Assign, Slash. -/
import Derived.Test.YtfohgbcjhmmpeaaPenaltyE
import Derived.Deep.DeepCutAuto
namespace Go.Proofs.Ytfohgbcjhmmpeaa
open Go.RowKit
set_option linter.unusedVariables false
set_option maxHeartbeats 400000 in
theorem event_any (ev : Int) (w : World) : Calls Try.prog 28 #[.int .i64 ev] w fun r w' => r = .returned (.func (.func 42) #[] #[.pointer (some ⟨w.heap.size, 0, none⟩)]) ∧ w.alloc (.cells #[.int .i64 ev] 3) = w' := by
  go_enter Try.func28, Try.ntmps28
  go_wp2
  go_ret
  exact ⟨rfl, rfl⟩
set_option maxHeartbeats 400000 in
theorem delay_any (ep dy : Int) (w : World) : Calls Try.prog 29 #[.int .i64 ep, .int .i64 dy] w fun r w' => r = .returned (.func (.func 44) #[] #[.pointer (some ⟨w.heap.size, 0, none⟩), .pointer (some ⟨w.heap.size + 1, 0, none⟩)]) ∧ (w.alloc (.cells #[.int .i64 ep] 3)).alloc (.cells #[.int .i64 dy] 3) = w' := by
  go_enter Try.func29, Try.ntmps29
  go_wp2
  go_ret
  exact ⟨rfl, rfl⟩
/-- apply, at cells that are known. -/
theorem apply_IF (F : List (Nat × Nat × Value)) (uo : Option Nat) (ps : List (FuncId × Array Value)) (gs : List (Val → Int → Int × Val × Int)) (hc : Chgs (IC F uo) uo.toList (IF F uo) ps gs) (v : Val) (s : Int) (b cap : Nat) (w : World) (hv : v.wf)
    (hI : IF F uo s w) (hsl : ∀ j (h : j < ps.length), (b, j, Value.func (.func ps[j].1) #[] ps[j].2) ∈ F) (hlen : ps.length ≤ 1000) :
    Calls Try.prog 27 #[.agg v.cells, .slice (some ⟨b, 0, none⟩) ps.length cap] w fun r w' => r = .returned (.tuple #[.agg (foldG gs v s).2.1.cells, .int .i64 (foldG gs v s).1]) ∧ Upd uo.toList w w' ∧ IF F uo (foldG gs v s).2.2 w' := by
  have hlt : ∀ c ∈ IC F uo, c < w.heap.size := by
    intro c hc'
    simp only [IC, List.mem_append, List.mem_map, Option.mem_toList] at hc'
    rcases hc' with ⟨p, hp, rfl⟩ | hu
    · exact World.block_lt_of_cell? w _ (hI.1 p hp)
    · exact World.block_lt_of_cell? w _ (hI.2 c hu).1
  exact apply_any (IC F uo) uo.toList (IF F uo) ps gs hc v s b 0 cap w hv hI (fun _ _ _ h hb => h.below hb) (fun s wr i x h => h.set (fun hm => by have := hlt _ hm; omega) i x) hlt (fun c hc' => hlt c (by simp only [IC, List.mem_append]; exact .inr hc'))
    (fun s w h j hj => by rw [Nat.zero_add]; exact h.1 _ (hsl j hj)) hlen
def payR (v : Val) (ep : Int) : Int × Val × Int := foldG [gEvent 5, gDue ep] v 0
theorem pay_apply (W : World) (v : Val) (hv : v.wf) (ep : Int) (bs c he : Nat) (k1 : W.cell? ⟨bs, 0, none⟩ = some (.func (.func 42) #[] #[.pointer (some ⟨c, 0, none⟩)])) (k2 : W.cell? ⟨bs, 1, none⟩ = some (.func (.func 32) #[] #[.pointer (some ⟨he, 0, none⟩)]))
    (k3 : W.cell? ⟨c, 0, none⟩ = some (.int .i64 5)) (k4 : W.cell? ⟨he, 0, none⟩ = some (.int .i64 ep)) :
    Calls Try.prog 27 #[.agg v.cells, .slice (some ⟨bs, 0, none⟩) 2 2] W fun r w' => r = .returned (.tuple #[.agg (payR v ep).2.1.cells, .int .i64 (payR v ep).1]) ∧ Upd [bs, c, he] W w' := by
  have h := apply_IF [(bs, 0, .func (.func 42) #[] #[.pointer (some ⟨c, 0, none⟩)]), (bs, 1, .func (.func 32) #[] #[.pointer (some ⟨he, 0, none⟩)]), (c, 0, .int .i64 5), (he, 0, .int .i64 ep)] none
    [(42, #[.pointer (some ⟨c, 0, none⟩)]), (32, #[.pointer (some ⟨he, 0, none⟩)])] [gEvent 5, gDue ep] ⟨chg_event (wf_small _ (by omega) (by omega)) (by simp), chg_due (by simp), trivial⟩ v 0 bs 2 W hv
    ⟨by simp [k1, k2, k3, k4], by simp⟩ (fun j hj => by
      have : j = 0 ∨ j = 1 := by simp at hj; omega
      rcases this with rfl | rfl <;> simp) (by simp)
  exact h.mono fun r w' ⟨h1, h2, _⟩ => ⟨h1, h2.mono fun k hk _ => by simp at hk⟩
theorem BlockIs.thru {w w' : World} {S : List Nat} {b : Nat} {c : Array Value} {t : TypeId} {G : Prop} (h : BlockIs w b c t) (hu : Upd S w w') (hb : b ∉ S) (k : BlockIs w' b c t → G) : G := k (h.upd hu hb)
theorem set7 {w : World} {b : Nat} {x0 x1 x2 x3 x4 x5 x6 y0 y1 y2 y3 y4 y5 y6 : Value} {t : TypeId} (h : BlockIs w b #[x0, x1, x2, x3, x4, x5, x6] t) :
    BlockIs (((((((w.setCell ⟨b, 0, none⟩ y0).setCell ⟨b, 1, none⟩ y1).setCell ⟨b, 2, none⟩ y2).setCell ⟨b, 3, none⟩ y3).setCell ⟨b, 4, none⟩ y4).setCell ⟨b, 5, none⟩ y5).setCell ⟨b, 6, none⟩ y6) b #[y0, y1, y2, y3, y4, y5, y6] t := by
  have h' := ((((((h.set 0 y0).set 1 y1).set 2 y2).set 3 y3).set 4 y4).set 5 y5).set 6 y6
  simpa using h'
theorem BlockIs.other' {w : World} {b : Nat} {c : Array Value} {t : TypeId} {b' : Nat} (hne : b ≠ b') (h : BlockIs w b c t) (i : Nat) (v : Value) : BlockIs (w.setCell ⟨b', i, none⟩ v) b c t := h.other hne i v
theorem Upd.thruC {w w' : World} {S : List Nat} {b i : Nat} {v : Value} {G : Prop} (hc : w.cell? ⟨b, i, none⟩ = some v) (hu : Upd S w w') (hb : b ∉ S) (k : w'.cell? ⟨b, i, none⟩ = some v → G) : G :=
  k ((World.cell?_of_block (w := w) (a := ⟨b, i, none⟩) (hu.block b (World.block_lt_of_cell? w _ hc) hb)).trans hc)
set_option maxHeartbeats 4000000 in
theorem pay_any (v : Val) (hv : v.wf) (ep : Int) (w : World) :
    Calls Try.prog 15 #[.agg v.cells, .int .i64 ep] w fun r w' => r = .returned (.tuple #[.agg (payR v ep).2.1.cells, .int .u64 (if (payR v ep).1 = 0 then v.bal else 0), .int .i64 (payR v ep).1]) ∧ Below w.heap.size w w' := by
  have HA := fun W bs c he k1 k2 k3 k4 => pay_apply W v hv ep bs c he k1 k2 k3 k4
  obtain ⟨bal, st, sl, rq, ex, wd, dl⟩ := v
  generalize payR ⟨bal, st, sl, rq, ex, wd, dl⟩ ep = R at *
  obtain ⟨code, ⟨bal', st', sl', rq', ex', wd', dl'⟩, s'⟩ := R
  simp only [Val.cells] at HA
  have HAA := Lib.hid HA
  clear HA hv
  unfold Val.cells
  simp only []
  go_enter Try.func15, Try.ntmps15
  go_upto_region 2 with fail
  go_cut [8, 9] (fun p c wx => ∃ o, p = .pointer (some ⟨o, 0, none⟩) ∧ c = .int .i64 code ∧ w.heap.size + 1 + 1 < o ∧ BlockIs wx o #[.int .u64 bal', .int .i64 st', .bool sl', .int .i64 rq', .int .i64 ex', .int .i64 wd', .int .i64 dl'] 28 ∧ BlockIs wx (w.heap.size + 1 + 1) #[.int .u64 0, .int .i64 0, .bool false, .int .i64 0, .int .i64 0, .int .i64 0, .int .i64 0] 28 ∧ BlockIs wx w.heap.size #[.int .u64 bal, .int .i64 st, .bool sl, .int .i64 rq, .int .i64 ex, .int .i64 wd, .int .i64 dl] 28 ∧ Below w.heap.size w wx)
  case first =>
    go_region_held3 (fun w' => w'.cell? ⟨w.heap.size, 0, none⟩ = some (.int .u64 bal) ∧ w'.cell? ⟨w.heap.size, 1, none⟩ = some (.int .i64 st) ∧ w'.cell? ⟨w.heap.size, 2, none⟩ = some (.bool sl) ∧ w'.cell? ⟨w.heap.size, 3, none⟩ = some (.int .i64 rq) ∧ w'.cell? ⟨w.heap.size, 4, none⟩ = some (.int .i64 ex) ∧ w'.cell? ⟨w.heap.size, 5, none⟩ = some (.int .i64 wd) ∧ w'.cell? ⟨w.heap.size, 6, none⟩ = some (.int .i64 dl)) (((try dsimp only); (repeat' apply And.intro) <;> go_simp)) (first
      | (go_at_call 28; refine (event_any _ _).mono ?_; rintro r w1 ⟨rfl, rfl⟩)
      | (go_at_call 27; first | (refine (HAA.out _ _ (w.heap.size + 3) (w.heap.size + 1) ?_ ?_ ?_ ?_).mono ?_; (focus (go_simp; done)); (focus (go_simp; done)); (focus (go_simp; done)); (focus (go_simp; done)); rintro r w1 ⟨rfl, hu⟩; refine BlockIs.thru (b := w.heap.size) (c := #[.int .u64 bal, .int .i64 st, .bool sl, .int .i64 rq, .int .i64 ex, .int .i64 wd, .int .i64 dl]) (t := 28) ?_ hu ?_ (fun gv => ?_); (focus (repeat (first | (with_reducible refine BlockIs.drew ?_) | ((with_reducible refine BlockIs.new' ?_); (simp <;> omega)) | (with_reducible refine BlockIs.alloc ?_ _))); done); (focus (simp <;> omega)); refine BlockIs.thru (b := w.heap.size + 1 + 1) (c := #[.int .u64 0, .int .i64 0, .bool false, .int .i64 0, .int .i64 0, .int .i64 0, .int .i64 0]) (t := 28) ?_ hu ?_ (fun gz => ?_); (focus (repeat (first | (with_reducible refine BlockIs.drew ?_) | ((with_reducible refine BlockIs.new' ?_); (simp <;> omega)) | (with_reducible refine BlockIs.alloc ?_ _))); done); (focus (simp <;> omega)); (first | (refine BlockIs.thru (b := w.heap.size + 1 + 1 + 1) (c := #[.int .u64 0, .int .i64 0, .bool false, .int .i64 0, .int .i64 0, .int .i64 0, .int .i64 0]) (t := 28) ?_ hu ?_ (fun go => ?_); (focus (repeat (first | (with_reducible refine BlockIs.drew ?_) | ((with_reducible refine BlockIs.new' ?_); (simp <;> omega)) | (with_reducible refine BlockIs.alloc ?_ _))); done); (focus (simp <;> omega)); obtain ⟨o0, o1, o2, o3, o4, o5, o6, p0, p1, p2, p3, p4, p5, p6⟩ := vfacts go; have hso := go.lt) | (refine BlockIs.thru (b := w.heap.size + 1 + 1 + 1 + 1) (c := #[.int .u64 0, .int .i64 0, .bool false, .int .i64 0, .int .i64 0, .int .i64 0, .int .i64 0]) (t := 28) ?_ hu ?_ (fun go => ?_); (focus (repeat (first | (with_reducible refine BlockIs.drew ?_) | ((with_reducible refine BlockIs.new' ?_); (simp <;> omega)) | (with_reducible refine BlockIs.alloc ?_ _))); done); (focus (simp <;> omega)); obtain ⟨o0, o1, o2, o3, o4, o5, o6, p0, p1, p2, p3, p4, p5, p6⟩ := vfacts go; have hso := go.lt) | (refine BlockIs.thru (b := w.heap.size + 1 + 1 + 1 + 1 + 1) (c := #[.int .u64 0, .int .i64 0, .bool false, .int .i64 0, .int .i64 0, .int .i64 0, .int .i64 0]) (t := 28) ?_ hu ?_ (fun go => ?_); (focus (repeat (first | (with_reducible refine BlockIs.drew ?_) | ((with_reducible refine BlockIs.new' ?_); (simp <;> omega)) | (with_reducible refine BlockIs.alloc ?_ _))); done); (focus (simp <;> omega)); obtain ⟨o0, o1, o2, o3, o4, o5, o6, p0, p1, p2, p3, p4, p5, p6⟩ := vfacts go; have hso := go.lt) | skip); obtain ⟨v0, v1, v2, v3, v4, v5, v6, _, _, _, _, _, _, _⟩ := vfacts gv; have hsz := gz.lt; have hsv := gv.lt; have hbw : Below w.heap.size w w1 := Below.trans (by (repeat (with_reducible first | exact Below.refl _ _ | refine Below.drew ?_ | refine Below.alloc ?_ (by first | omega | (simp <;> omega)) _))) (hu.below (by first | omega | (simp <;> omega)) (by first | (simp <;> omega)))) | (refine (HAA.out _ _ (w.heap.size + 4) (w.heap.size + 1) ?_ ?_ ?_ ?_).mono ?_; (focus (go_simp; done)); (focus (go_simp; done)); (focus (go_simp; done)); (focus (go_simp; done)); rintro r w1 ⟨rfl, hu⟩; refine BlockIs.thru (b := w.heap.size) (c := #[.int .u64 bal, .int .i64 st, .bool sl, .int .i64 rq, .int .i64 ex, .int .i64 wd, .int .i64 dl]) (t := 28) ?_ hu ?_ (fun gv => ?_); (focus (repeat (first | (with_reducible refine BlockIs.drew ?_) | ((with_reducible refine BlockIs.new' ?_); (simp <;> omega)) | (with_reducible refine BlockIs.alloc ?_ _))); done); (focus (simp <;> omega)); refine BlockIs.thru (b := w.heap.size + 1 + 1) (c := #[.int .u64 0, .int .i64 0, .bool false, .int .i64 0, .int .i64 0, .int .i64 0, .int .i64 0]) (t := 28) ?_ hu ?_ (fun gz => ?_); (focus (repeat (first | (with_reducible refine BlockIs.drew ?_) | ((with_reducible refine BlockIs.new' ?_); (simp <;> omega)) | (with_reducible refine BlockIs.alloc ?_ _))); done); (focus (simp <;> omega)); (first | (refine BlockIs.thru (b := w.heap.size + 1 + 1 + 1) (c := #[.int .u64 0, .int .i64 0, .bool false, .int .i64 0, .int .i64 0, .int .i64 0, .int .i64 0]) (t := 28) ?_ hu ?_ (fun go => ?_); (focus (repeat (first | (with_reducible refine BlockIs.drew ?_) | ((with_reducible refine BlockIs.new' ?_); (simp <;> omega)) | (with_reducible refine BlockIs.alloc ?_ _))); done); (focus (simp <;> omega)); obtain ⟨o0, o1, o2, o3, o4, o5, o6, p0, p1, p2, p3, p4, p5, p6⟩ := vfacts go; have hso := go.lt) | (refine BlockIs.thru (b := w.heap.size + 1 + 1 + 1 + 1) (c := #[.int .u64 0, .int .i64 0, .bool false, .int .i64 0, .int .i64 0, .int .i64 0, .int .i64 0]) (t := 28) ?_ hu ?_ (fun go => ?_); (focus (repeat (first | (with_reducible refine BlockIs.drew ?_) | ((with_reducible refine BlockIs.new' ?_); (simp <;> omega)) | (with_reducible refine BlockIs.alloc ?_ _))); done); (focus (simp <;> omega)); obtain ⟨o0, o1, o2, o3, o4, o5, o6, p0, p1, p2, p3, p4, p5, p6⟩ := vfacts go; have hso := go.lt) | (refine BlockIs.thru (b := w.heap.size + 1 + 1 + 1 + 1 + 1) (c := #[.int .u64 0, .int .i64 0, .bool false, .int .i64 0, .int .i64 0, .int .i64 0, .int .i64 0]) (t := 28) ?_ hu ?_ (fun go => ?_); (focus (repeat (first | (with_reducible refine BlockIs.drew ?_) | ((with_reducible refine BlockIs.new' ?_); (simp <;> omega)) | (with_reducible refine BlockIs.alloc ?_ _))); done); (focus (simp <;> omega)); obtain ⟨o0, o1, o2, o3, o4, o5, o6, p0, p1, p2, p3, p4, p5, p6⟩ := vfacts go; have hso := go.lt) | skip); obtain ⟨v0, v1, v2, v3, v4, v5, v6, _, _, _, _, _, _, _⟩ := vfacts gv; have hsz := gz.lt; have hsv := gv.lt; have hbw : Below w.heap.size w w1 := Below.trans (by (repeat (with_reducible first | exact Below.refl _ _ | refine Below.drew ?_ | refine Below.alloc ?_ (by first | omega | (simp <;> omega)) _))) (hu.below (by first | omega | (simp <;> omega)) (by first | (simp <;> omega))))))
    all_goals (go_wp2_with fail; go_meet; refine ⟨_, rfl, rfl, ?_, ?_, ?_, ?_, ?_⟩; (focus omega); (focus ((repeat (with_reducible first | exact go | refine BlockIs.drew ?_ | exact set7 go | exact BlockIs.new _ _ _)); done)); (focus ((repeat (with_reducible first | exact gv | exact gz | refine BlockIs.drew ?_ | refine BlockIs.other' (by omega) ?_ _ _ | refine BlockIs.alloc ?_ _)); done)); (focus ((repeat (with_reducible first | exact gv | exact gz | refine BlockIs.drew ?_ | refine BlockIs.other' (by omega) ?_ _ _ | refine BlockIs.alloc ?_ _)); done)); (focus ((repeat (with_reducible first | exact hbw | refine Below.drew ?_ | refine Below.setCell ?_ (by first | omega | (simp <;> omega)) _ | refine Below.alloc ?_ (by first | omega | (simp <;> omega)) _)); done)))
  case rest =>
    obtain ⟨o, rfl, rfl, ho, hbo, hbz, hbv, hbel⟩ := hcut
    obtain ⟨o0, o1, o2, o3, o4, o5, o6, _, _, _, _, _, _, _⟩ := vfacts hbo
    obtain ⟨v0, v1, v2, v3, v4, v5, v6, _, _, _, _, _, _, _⟩ := vfacts hbv
    obtain ⟨z0, z1, z2, z3, z4, z5, z6, f0, f1, f2, f3, f4, f5, f6⟩ := vfacts hbz
    clear HAA
    by_cases h0 : code = 0
    · subst h0
      go_wp2
      go_region
      all_goals (go_wp2; refine bodyPost_ret (v := .tuple #[.agg #[.int .u64 bal', .int .i64 st', .bool sl', .int .i64 rq', .int .i64 ex', .int .i64 wd', .int .i64 dl'], .int .u64 bal, .int .i64 0]) (by simp [results, Try.results15, go_sem, *]) rfl ⟨rfl, ?_⟩; (focus ((repeat (with_reducible first | exact hbel | refine Below.drew ?_ | refine Below.setCell ?_ (by first | omega | (simp <;> omega)) _ | refine Below.alloc ?_ (by first | omega | (simp <;> omega)) _)); done)))
    · have hd : decide (code = 0) = false := by simpa using h0
      go_wp2
      refine bodyPost_ret (v := .tuple #[.agg #[.int .u64 bal', .int .i64 st', .bool sl', .int .i64 rq', .int .i64 ex', .int .i64 wd', .int .i64 dl'], .int .u64 0, .int .i64 code]) (by simp [results, Try.results15, go_sem, *]) rfl ⟨by simp [h0], ?_⟩
      (focus ((repeat (with_reducible first | exact hbel | refine Below.drew ?_ | refine Below.setCell ?_ (by first | omega | (simp <;> omega)) _ | refine Below.alloc ?_ (by first | omega | (simp <;> omega)) _)); done))
end Go.Proofs.Ytfohgbcjhmmpeaa
