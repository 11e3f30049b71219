/- Contracts of package penalty. -/
import Derived.Test.YtfohgbcjhmmpeaaStatus
import Derived.Test.YtfohgbcjhmmpeaaGweiMul
import Derived.Test.YtfohgbcjhmmpeaaLater
import Derived.Test.YtfohgbcjhmmpeaaTypes
import Derived.Deep.RegionHeld3
import Derived.OpenShut
namespace Go.Proofs.Ytfohgbcjhmmpeaa
open Go.RowKit
/-- Changes, one after the other, till one fails. -/
def foldG {σ : Type} : List (Val → σ → Int × Val × σ) → Val → σ → Int × Val × σ
  | [], v, s => (0, v, s)
  | g :: gs, v, s => if (g v s).1 = 0 then foldG gs (g v s).2.1 (g v s).2.2 else ((g v s).1, Val.zero, (g v s).2.2)
/-- What a change does, called at a validator in block b. -/
def ChgRun {σ : Type} (N C : List Nat) (I : σ → World → Prop) (p : FuncId × Array Value) (G : Val → σ → Int × Val × σ) : Prop :=
  (∀ args w, (callFunc p.1 args).run Try.prog w = .ok (.enter p.1 args) w) ∧ ∀ w b v s, I s w → BlockIs w b v.cells 28 → b ∉ N → v.wf →
    ((G v s).1 = 0 → (G v s).2.1.wf) ∧ Calls Try.prog p.1 (#[.pointer (some ⟨b, 0, none⟩)] ++ p.2) w fun r w' => r = .returned (.int .i64 (G v s).1) ∧ Upd (b :: C) w w' ∧ I (G v s).2.2 w' ∧ ((G v s).1 = 0 → BlockIs w' b (G v s).2.1.cells 28)
def funcV (p : FuncId × Array Value) : Value := .func (.func p.1) #[] p.2
def Chgs {σ : Type} (N C : List Nat) (I : σ → World → Prop) : List (FuncId × Array Value) → List (Val → σ → Int × Val × σ) → Prop
  | [], [] => True
  | p :: ps, g :: gs => ChgRun N C I p g ∧ Chgs N C I ps gs
  | _, _ => False
theorem Chgs.len {σ : Type} {N C : List Nat} {I : σ → World → Prop} : ∀ {ps : List (FuncId × Array Value)} {gs : List (Val → σ → Int × Val × σ)}, Chgs N C I ps gs → ps.length = gs.length
  | [], [], _ => rfl
  | _ :: _, _ :: _, h => by simp [Chgs.len h.2]
  | [], _ :: _, h => h.elim
  | _ :: _, [], h => h.elim
theorem Chgs.at {σ : Type} {N C : List Nat} {I : σ → World → Prop} : ∀ {ps : List (FuncId × Array Value)} {gs : List (Val → σ → Int × Val × σ)}, Chgs N C I ps gs → ∀ (k : Nat) (h1 : k < ps.length) (h2 : k < gs.length), ChgRun N C I ps[k] gs[k]
  | [], [], _, _, h1, _ => absurd h1 (Nat.not_lt_zero _)
  | _ :: _, _ :: _, h, 0, _, _ => h.1
  | _ :: _, _ :: _, h, k + 1, h1, h2 => Chgs.at h.2 k (by simpa using h1) (by simpa using h2)
  | [], _ :: _, h, _, _, _ => h.elim
  | _ :: _, [], h, _, _, _ => h.elim
theorem ret_vi {cs cs' : Array Value} {k : IntKind} {x y : Int} (h : cs = cs') (h' : x = y) : Ending.returned (.tuple #[.agg cs, .int k x]) = .returned (.tuple #[.agg cs', .int k y]) := by rw [h, h']
theorem upd_new {C : List Nat} {w wr w1 : World} (h : Upd C w wr) (k : Upd (w.heap.size :: C) wr w1) : Upd C w w1 :=
  ⟨k.os.trans h.os, k.tape.trans h.tape, k.output.trans h.output, Nat.le_trans h.size k.size, fun i hi hn => (k.block i (Nat.lt_of_lt_of_le hi h.size) (by simp; exact ⟨by omega, hn⟩)).trans (h.block i hi hn)⟩
theorem upd_set_new {C : List Nat} {w w1 : World} (h : Upd C w w1) {b : Nat} (hb : w.heap.size ≤ b) (i : Nat) (v : Value) : Upd C w (w1.setCell ⟨b, i, none⟩ v) :=
  ⟨h.os, h.tape, h.output, by simpa [World.setCell] using h.size, fun k hk hn => (Below.heap_setCell _ _ _ _ (by show k ≠ b; omega)).trans (h.block k hk hn)⟩
set_option maxHeartbeats 2000000 in
theorem apply_any {σ : Type} (N C : List Nat) (I : σ → World → Prop) (ps : List (FuncId × Array Value)) (gs : List (Val → σ → Int × Val × σ)) (hc : Chgs N C I ps gs) (v : Val) (s : σ) (b off cap : Nat) (w : World) (hv : v.wf)
    (hI : I s w) (hst : ∀ s w w', I s w → Below w.heap.size w w' → I s w') (hst' : ∀ s wr (i : Nat) (x : Value), I s wr → I s (wr.setCell ⟨w.heap.size + 1, i, none⟩ x)) (hC : ∀ c ∈ N, c < w.heap.size) (hC' : ∀ c ∈ C, c < w.heap.size)
    (hsl : ∀ s w, I s w → ∀ j (h : j < ps.length), w.cell? ⟨b, off + j, none⟩ = some (.func (.func ps[j].1) #[] ps[j].2)) (hlen : ps.length ≤ 1000) :
    Calls Try.prog 27 #[.agg v.cells, .slice (some ⟨b, off, none⟩) ps.length cap] w fun r w' => r = .returned (.tuple #[.agg (foldG gs v s).2.1.cells, .int .i64 (foldG gs v s).1]) ∧ Upd C w w' ∧ I (foldG gs v s).2.2 w' := by
  have HGL := Lib.hid hc.len
  have hfin : foldG gs v s = foldG (gs.drop 0) v s := rfl
  generalize foldG gs v s = R at *
  have hI0 := hst _ _ _ hI (((Below.refl w.heap.size w).alloc (Nat.le_refl _) (.cells v.cells 28)).alloc (by simp) (.cells Val.zero.cells 28))
  have hstart : ∃ v' s', BlockIs ((w.alloc (.cells v.cells 28)).alloc (.cells Val.zero.cells 28)) w.heap.size v'.cells 28 ∧ BlockIs ((w.alloc (.cells v.cells 28)).alloc (.cells Val.zero.cells 28)) (w.heap.size + 1) Val.zero.cells 28 ∧
      I s' ((w.alloc (.cells v.cells 28)).alloc (.cells Val.zero.cells 28)) ∧ Upd C w ((w.alloc (.cells v.cells 28)).alloc (.cells Val.zero.cells 28)) ∧ v'.wf ∧ R = foldG (gs.drop 0) v' s' :=
    ⟨v, s, (BlockIs.new w _ _).alloc _, by have := BlockIs.new (w.alloc (.cells v.cells 28)) Val.zero.cells 28; simpa using this, hI0, ((Upd.refl _ _).alloc _).alloc _, hv, hfin⟩
  have HS := Lib.hid hstart
  have HSL := Lib.hid hsl
  have HC := Lib.hid hc
  have HCC := Lib.hid hC
  have HCD := Lib.hid hC'
  have HST := Lib.hid hst'
  clear hst' hstart hfin hI0 hI hst hc hsl hC hv
  obtain ⟨bal, st, sl, rq, ex, wd, dl⟩ := v
  simp only [Val.cells, Val.zero] at HS
  unfold Val.cells
  simp only []
  go_enter Try.func27, Try.ntmps27
  go_wp2
  go_loopw [7, 8, 11] (fun _ _ i wr => ∃ (k : Nat) (v' : Val) (s' : σ), k ≤ ps.length ∧ i = .int .i64 k ∧ BlockIs wr w.heap.size v'.cells 28 ∧ BlockIs wr (w.heap.size + 1) Val.zero.cells 28 ∧ I s' wr ∧ Upd C w wr ∧ v'.wf ∧ Hid (R = foldG (gs.drop k) v' s')) (fun _ _ i _ => ps.length - (intOf i).toNat)
  case atStart =>
    obtain ⟨v', s', h1, h2, h3, h4, h5, h6⟩ := HS.out
    exact ⟨0, v', s', by omega, rfl, h1, h2, h3, h4, h5, h6⟩
  case round =>
    obtain ⟨k, v', s', hk, rfl, hb1, hb2, hI, hU, hw, HF⟩ := hrel
    clear HS
    by_cases hlt : k < ps.length
    · have hcl := HSL.out _ _ hI k hlt
      have hsz : w.heap.size + 1 < wr.heap.size := hb2.lt
      have hnC : w.heap.size ∉ N := fun h => absurd (HCC.out _ h) (Nat.lt_irrefl _)
      have hkg : k < gs.length := by have := HGL.out; omega
      have hchg := HC.out.at k hlt hkg
      have hcf := hchg.1
      obtain ⟨hwf, hcall⟩ := hchg.2 wr w.heap.size v' s' hI hb1 hnC hw
      have HCALL := Lib.hid hcall
      have HFD : Hid (R = foldG (gs[k] :: gs.drop (k + 1)) v' s') := by
        have := HF.out
        rwa [List.drop_eq_getElem_cons hkg] at this
      clear hcall HF hchg
      generalize gs[k] = G at *
      generalize ps[k] = p at *
      clear hkg
      have z0 := hb2.cell (i := 0) rfl
      clear z0
      go_wp2_with fail
      refine (HCALL.out).mono ?_
      rintro r w1 ⟨rfl, hu1, hI', hpost⟩
      have hb2' : BlockIs w1 (w.heap.size + 1) Val.zero.cells 28 := hb2.upd hu1 (by simp; exact fun h => absurd (HCD.out _ h) (by omega))
      have hU1 : Upd C w w1 := upd_new hU hu1
      by_cases hz : (G v' s').1 = 0
      · have hb1' := hpost hz
        have hzb : ((G v' s').1 != 0) = false := by simp [hz]
        have HFN : Hid (R = foldG (gs.drop (k + 1)) (G v' s').2.1 (G v' s').2.2) := by
          have := HFD.out; rwa [foldG, if_pos hz] at this
        have hwf' := hwf hz
        clear hpost HFD HCALL hwf hz hb1 hb2 hI
        generalize (G v' s').2.1 = v2 at *
        generalize (G v' s').2.2 = s2 at *
        generalize (G v' s').1 = code at *
        go_wp2
        go_roundw
        case rel => exact ⟨k + 1, v2, s2, by omega, by go_num, hb1', hb2', hI', hU1, hwf', HFN⟩
        case measure => simp [intOf] <;> omega
      · have hzb : ((G v' s').1 != 0) = true := by simp [hz]
        have HFN : Hid (R = ((G v' s').1, Val.zero, (G v' s').2.2)) := by
          have := HFD.out; rwa [foldG, if_neg hz] at this
        obtain ⟨c0, c1, c2, c3, c4, c5, c6, f0, f1, f2, f3, f4, f5, f6⟩ := vfacts hb2'
        have HI := Lib.hid hI'
        clear hpost HFD HCALL hwf hz hb1 hb2 hI hI'
        generalize (G v' s').2.2 = s2 at *
        generalize (G v' s').1 = code at *
        go_wp2
        refine bodyPost_ret (v := .tuple #[.agg Val.zero.cells, .int .i64 code]) (by simp [results, Try.results27, go_sem, c0, c1, c2, c3, c4, c5, c6]; rfl) rfl ⟨?_, ?_, ?_⟩
        · exact ret_vi (by rw [HFN.out] <;> rfl) (by rw [HFN.out] <;> rfl)
        · iterate 7 (with_reducible refine upd_set_new ?_ (by omega) _ _)
          exact hU1
        · rw [HFN.out]
          iterate 7 (with_reducible refine HST.out _ _ _ _ ?_)
          exact HI.out
    · have hge : ps.length ≤ k := by omega
      have HFN : Hid (R = (0, v', s')) := by
        have := HF.out; rwa [List.drop_of_length_le (by have := HGL.out; omega), foldG] at this
      obtain ⟨bal', st', sl', rq', ex', wd', dl'⟩ := v'
      obtain ⟨a0, a1, a2, a3, a4, a5, a6, _, _, _, _, _, _, _⟩ := vfacts hb1
      obtain ⟨c0, c1, c2, c3, c4, c5, c6, f0, f1, f2, f3, f4, f5, f6⟩ := vfacts hb2
      clear hb1 hb2
      have HI := Lib.hid hI
      clear hI hw
      go_wp2
      refine bodyPost_ret (v := .tuple #[.agg (Val.cells ⟨bal', st', sl', rq', ex', wd', dl'⟩), .int .i64 0]) (by simp [results, Try.results27, go_sem, c0, c1, c2, c3, c4, c5, c6, Val.cells]) rfl ⟨?_, ?_, ?_⟩
      · exact ret_vi (by rw [HFN.out] <;> rfl) (by rw [HFN.out] <;> rfl)
      · iterate 7 (with_reducible refine upd_set_new ?_ (by omega) _ _)
        exact hU
      · rw [HFN.out]
        iterate 7 (with_reducible refine HST.out _ _ _ _ ?_)
        exact HI.out
end Go.Proofs.Ytfohgbcjhmmpeaa
