/- Contracts of package penalty: the changes as what 'apply' wants, and the four functions. -/
import Derived.Test.YtfohgbcjhmmpeaaPenaltyD
namespace Go.Proofs.Ytfohgbcjhmmpeaa
open Go.RowKit
set_option linter.unusedVariables false
/-- Cells that are known, and the variable in which the penalty is kept. -/
def IF (F : List (Nat × Nat × Value)) (uo : Option Nat) (s : Int) (W : World) : Prop :=
  (∀ p ∈ F, W.cell? ⟨p.1, p.2.1, none⟩ = some p.2.2) ∧ ∀ u, uo = some u → W.cell? ⟨u, 0, none⟩ = some (.int .u64 s) ∧ W.frozen? ⟨u, 0, none⟩ = false
def IC (F : List (Nat × Nat × Value)) (uo : Option Nat) : List Nat := F.map (·.1) ++ uo.toList
theorem IF.below {F : List (Nat × Nat × Value)} {uo : Option Nat} {s : Int} {W W' : World} (h : IF F uo s W) (hb : Below W.heap.size W W') : IF F uo s W' :=
  ⟨fun p hp => (hb.cell (p := ⟨p.1, p.2.1, none⟩) (World.block_lt_of_cell? W _ (h.1 p hp))).trans (h.1 p hp), fun u hu =>
    have hl := World.block_lt_of_cell? W _ (h.2 u hu).1
    ⟨(hb.cell (p := ⟨u, 0, none⟩) hl).trans (h.2 u hu).1, (hb.frozen (p := ⟨u, 0, none⟩) hl).trans (h.2 u hu).2⟩⟩
theorem IF.upd {F : List (Nat × Nat × Value)} {uo : Option Nat} {s : Int} {W W' : World} {b : Nat} (h : IF F uo s W) (hb : Upd [b] W W') (hn : b ∉ IC F uo) : IF F uo s W' := by
  have key : ∀ k, k ∈ IC F uo → k < W.heap.size → W'.heap[k]? = W.heap[k]? := fun k hk hl => hb.block k hl (by simp; rintro rfl; exact hn hk)
  refine ⟨fun p hp => ?_, fun u hu => ?_⟩
  · have hl := World.block_lt_of_cell? W _ (h.1 p hp)
    rw [World.cell?_of_block (w := W) (a := ⟨p.1, p.2.1, none⟩) (key p.1 (by simp [IC]; exact .inl ⟨_, _, hp⟩) hl)]
    exact h.1 p hp
  · have hl := World.block_lt_of_cell? W _ (h.2 u hu).1
    have hk := key u (by simp [IC, hu]) hl
    exact ⟨(World.cell?_of_block (w := W) (a := ⟨u, 0, none⟩) hk).trans (h.2 u hu).1, (World.frozen?_of_block (w := W) (a := ⟨u, 0, none⟩) hk).trans (h.2 u hu).2⟩
theorem IF.set {F : List (Nat × Nat × Value)} {uo : Option Nat} {s : Int} {W : World} {b : Nat} (h : IF F uo s W) (hn : b ∉ IC F uo) (i : Nat) (x : Value) : IF F uo s (W.setCell ⟨b, i, none⟩ x) :=
  h.upd ((Upd.refl [b] W).setCell (by simp) _ _) hn
theorem upd_cons {b : Nat} {C : List Nat} {w w' : World} (h : Upd [b] w w') : Upd (b :: C) w w' := h.mono fun k hk _ => by simp at hk; simp [hk]
section
variable {F : List (Nat × Nat × Value)} {uo : Option Nat}
def gEvent (ev : Int) (v : Val) (s : Int) : Int × Val × Int := if nextF v.st ev = 0 then (8, v, s) else (0, { v with st := nextF v.st ev }, s)
def gDelay (ep dy : Int) (v : Val) (s : Int) : Int × Val × Int := if laterB ep [dy] then (0, { v with wd := maxF [v.wd, laterF ep [dy]] }, s) else (10, v, s)
def gMark (ep : Int) (v : Val) (s : Int) : Int × Val × Int := if v.sl then (9, v, s) else (0, { v with rq := if v.st = 2 then ep else v.rq, sl := true, dl := -1 }, s)
def gBurn (pn pd : Int) (v : Val) (_ : Int) : Int × Val × Int := (0, { v with bal := v.bal - penF v.bal pn pd }, penF v.bal pn pd)
def gDue (ep : Int) (v : Val) (s : Int) : Int × Val × Int := if ep < v.wd then (8, v, s) else (0, { v with bal := 0 }, s)
def gRequest (ep : Int) (v : Val) (s : Int) : Int × Val × Int := if laterB ep [] then (0, { v with rq := ep }, s) else (10, v, s)
def gFresh (xt : Int) (v : Val) (s : Int) : Int × Val × Int := if v.st ≠ 3 ∨ v.ex ≠ -1 then (8, v, s) else (0, { v with ex := xt }, s)
theorem nextF_wf (s e : Int) : (Lit.int .i64 (nextF s e)).wf = true := by
  have : 0 ≤ nextF s e ∧ nextF s e ≤ 7 := by
    unfold nextF
    repeat' split
    all_goals omega
  exact wf_small _ (by omega) (by omega)
theorem chg_event {c : Nat} {ev : Int} (he : (Lit.int .i64 ev).wf = true) (hF : (c, 0, Value.int .i64 ev) ∈ F) : ChgRun (IC F uo) uo.toList (IF F uo) (42, #[.pointer (some ⟨c, 0, none⟩)]) (gEvent ev) := by
  refine ⟨fun args w => by go_simp, fun w b v s hI hv hb hw => ?_⟩
  obtain ⟨bal, st, sl, rq, ex, wd, dl⟩ := v
  have hc := hI.1 _ hF
  unfold gEvent
  by_cases hn : nextF st ev = 0
  · rw [if_pos hn]
    refine ⟨fun h => by simp at h, (event_no b c bal st rq ex wd dl ev sl w hv hc hw.2.1 he hn).mono fun r w' ⟨h1, h2⟩ => ⟨h1, upd_cons h2, hI.upd h2 hb, fun h => by simp at h⟩⟩
  · rw [if_neg hn]
    exact ⟨fun _ => ⟨hw.1, nextF_wf _ _, hw.2.2⟩, (event_ok b c bal st rq ex wd dl ev sl w hv hc hw.2.1 he hn).mono fun r w' ⟨h1, h2, h3⟩ => ⟨h1, upd_cons h2, hI.upd h2 hb, fun _ => h3⟩⟩
theorem maxF_wf (a b : Int) (ha : (Lit.int .i64 a).wf = true) (hb : (Lit.int .i64 b).wf = true) : (Lit.int .i64 (maxF [a, b])).wf = true := by
  show (Lit.int .i64 (if a < b then b else a)).wf = true
  split
  · exact hb
  · exact ha
theorem laterGo_le : ∀ (l : List Int) (s : Int), 0 ≤ s → s ≤ 1099511627776 → 0 ≤ (laterGo s l).1 ∧ (laterGo s l).1 ≤ 1099511627776
  | [], s, h0, h1 => ⟨h0, h1⟩
  | n :: t, s, h0, h1 => by
    unfold laterGo
    split
    · simp
    · exact laterGo_le t _ (by omega) (by omega)
theorem laterF_wf (a : Int) (l : List Int) : (Lit.int .i64 (laterF a l)).wf = true := by
  have := laterGo_le (a :: l) 0 (by omega) (by omega)
  exact WalkArith.wf_i64 (by unfold laterF; omega)
theorem chg_delay {c d : Nat} {ep dy : Int} (hep : (Lit.int .i64 ep).wf = true) (hdy : (Lit.int .i64 dy).wf = true) (hF : (c, 0, Value.int .i64 ep) ∈ F) (hF' : (d, 0, Value.int .i64 dy) ∈ F) :
    ChgRun (IC F uo) uo.toList (IF F uo) (44, #[.pointer (some ⟨c, 0, none⟩), .pointer (some ⟨d, 0, none⟩)]) (gDelay ep dy) := by
  refine ⟨fun args w => by go_simp, fun w b v s hI hv hb hw => ?_⟩
  obtain ⟨bal, st, sl, rq, ex, wd, dl⟩ := v
  have hc := hI.1 _ hF
  have hd := hI.1 _ hF'
  unfold gDelay
  by_cases hn : laterB ep [dy] = true
  · rw [if_pos hn]
    exact ⟨fun _ => ⟨hw.1, hw.2.1, hw.2.2.1, hw.2.2.2.1, maxF_wf _ _ hw.2.2.2.2.1 (laterF_wf _ _), hw.2.2.2.2.2⟩, (delay_ok b c d bal st rq ex wd dl ep dy sl w hv hc hd hep hdy hn).mono fun r w' ⟨h1, h2, h3⟩ => ⟨h1, upd_cons h2, hI.upd h2 hb, fun _ => h3⟩⟩
  · rw [if_neg hn]
    exact ⟨fun h => by simp at h, (delay_no b c d bal st rq ex wd dl ep dy sl w hv hc hd hep hdy (by simpa using hn)).mono fun r w' ⟨h1, h2⟩ => ⟨h1, upd_cons h2, hI.upd h2 hb, fun h => by simp at h⟩⟩
theorem chg_mark {c : Nat} {ep : Int} (hep : (Lit.int .i64 ep).wf = true) (hF : (c, 0, Value.int .i64 ep) ∈ F) : ChgRun (IC F uo) uo.toList (IF F uo) (25, #[.pointer (some ⟨c, 0, none⟩)]) (gMark ep) := by
  refine ⟨fun args w => by go_simp, fun w b v s hI hv hb hw => ?_⟩
  obtain ⟨bal, st, sl, rq, ex, wd, dl⟩ := v
  have hc := hI.1 _ hF
  have hbc : b ≠ c := fun e => hb (by rw [e]; simp [IC]; exact .inl ⟨_, _, hF⟩)
  unfold gMark
  cases sl with
  | true =>
    rw [if_pos rfl]
    exact ⟨fun h => by simp at h, (mark_no b c bal st rq ex wd dl ep true w hv rfl).mono fun r w' ⟨h1, h2⟩ => ⟨h1, upd_cons h2, hI.upd h2 hb, fun h => by simp at h⟩⟩
  | false =>
    rw [if_neg (by simp)]
    have hdl : (Lit.int .i64 (-1)).wf = true := WalkArith.wf_i64 (by omega)
    by_cases h2 : st = 2
    · simp only [if_pos h2]
      exact ⟨fun _ => ⟨hw.1, hw.2.1, hep, hw.2.2.2.1, hw.2.2.2.2.1, hdl⟩, (mark_act b c bal st rq ex wd dl ep false w hv hc rfl (by simpa using h2) hbc).mono fun r w' ⟨h1, h2, h3⟩ => ⟨h1, upd_cons h2, hI.upd h2 hb, fun _ => h3⟩⟩
    · simp only [if_neg h2]
      exact ⟨fun _ => ⟨hw.1, hw.2.1, hw.2.2.1, hw.2.2.2.1, hw.2.2.2.2.1, hdl⟩, (mark_oth b c bal st rq ex wd dl ep false w hv hc rfl (by simpa using h2) hbc).mono fun r w' ⟨h1, h2, h3⟩ => ⟨h1, upd_cons h2, hI.upd h2 hb, fun _ => h3⟩⟩
theorem chg_burn {c u : Nat} {pn pd : Int} (hF : (c, 18, Value.int .u64 pn) ∈ F) (hF' : (c, 19, Value.int .u64 pd) ∈ F) (hu : uo = some u) (hne : ∀ p ∈ F, p.1 ≠ u)
    (hn0 : 0 ≤ pn) (hn : pn ≤ 18446744073709551615) (hd0 : 0 ≤ pd) (hd : pd ≤ 18446744073709551615) :
    ChgRun (IC F uo) uo.toList (IF F uo) (26, #[.pointer (some ⟨c, 0, none⟩), .pointer (some ⟨u, 0, none⟩)]) (gBurn pn pd) := by
  refine ⟨fun args w => by go_simp, fun w b v s hI hv hb hw => ?_⟩
  obtain ⟨bal, st, sl, rq, ex, wd, dl⟩ := v
  have hc := hI.1 _ hF
  have hd' := hI.1 _ hF'
  have hcu : c ≠ u := hne _ hF
  have hbu : b ≠ u := fun e => hb (by rw [e]; simp [IC, hu])
  have hl := World.block_lt_of_cell? w _ hc
  obtain ⟨hb0, hb1⟩ := hw.1
  obtain ⟨p0, p1⟩ := penF_le bal pn pd hb0 hn0
  refine ⟨fun _ => ⟨⟨by simp only [gBurn]; omega, by simp only [gBurn] at *; omega⟩, hw.2⟩, (burn_ok b c u bal st rq ex wd dl pn pd s sl w hv hc hd' hl (hI.2 u hu) (Ne.symm hbu) (Ne.symm hcu) hcu hbu hb0 hb1 hn0 hn hd0 hd).mono fun r w' ⟨h1, h2, h3, h4⟩ => ⟨h1, ?_, ⟨?_, fun u' hu' => ?_⟩, fun _ => h3⟩⟩
  · exact h2.mono fun k hk _ => by
      simp at hk
      rcases hk with rfl | rfl
      · simp
      · simp [hu]
  · intro p hp
    have hlp := World.block_lt_of_cell? w _ (hI.1 p hp)
    rw [World.cell?_of_block (w := w) (a := ⟨p.1, p.2.1, none⟩) (h2.block p.1 hlp (by
      simp
      exact ⟨fun e => hb (by rw [← e]; simp [IC]; exact .inl ⟨_, _, hp⟩), hne p hp⟩))]
    exact hI.1 p hp
  · rw [hu] at hu'; cases hu'; exact h4
theorem chg_due {c : Nat} {ep : Int} (hF : (c, 0, Value.int .i64 ep) ∈ F) : ChgRun (IC F uo) uo.toList (IF F uo) (32, #[.pointer (some ⟨c, 0, none⟩)]) (gDue ep) := by
  refine ⟨fun args w => by go_simp, fun w b v s hI hv hb hw => ?_⟩
  obtain ⟨bal, st, sl, rq, ex, wd, dl⟩ := v
  have hc := hI.1 _ hF
  unfold gDue
  by_cases hn : ep < wd
  · rw [if_pos hn]
    exact ⟨fun h => by simp at h, (due_no b c bal st rq ex wd dl ep sl w hv hc hn).mono fun r w' ⟨h1, h2⟩ => ⟨h1, upd_cons h2, hI.upd h2 hb, fun h => by simp at h⟩⟩
  · rw [if_neg hn]
    exact ⟨fun _ => ⟨by simp, hw.2⟩, (due_ok b c bal st rq ex wd dl ep sl w hv hc hn).mono fun r w' ⟨h1, h2, h3⟩ => ⟨h1, upd_cons h2, hI.upd h2 hb, fun _ => h3⟩⟩
theorem chg_request {c : Nat} {ep : Int} (hep : (Lit.int .i64 ep).wf = true) (hF : (c, 0, Value.int .i64 ep) ∈ F) : ChgRun (IC F uo) uo.toList (IF F uo) (33, #[.pointer (some ⟨c, 0, none⟩)]) (gRequest ep) := by
  refine ⟨fun args w => by go_simp, fun w b v s hI hv hb hw => ?_⟩
  obtain ⟨bal, st, sl, rq, ex, wd, dl⟩ := v
  have hc := hI.1 _ hF
  unfold gRequest
  by_cases hn : laterB ep [] = true
  · rw [if_pos hn]
    exact ⟨fun _ => ⟨hw.1, hw.2.1, hep, hw.2.2.2⟩, (request_ok b c bal st rq ex wd dl ep sl w hv hc hep hn).mono fun r w' ⟨h1, h2, h3⟩ => ⟨h1, upd_cons h2, hI.upd h2 hb, fun _ => h3⟩⟩
  · rw [if_neg hn]
    exact ⟨fun h => by simp at h, (request_no b c bal st rq ex wd dl ep sl w hv hc hep (by simpa using hn)).mono fun r w' ⟨h1, h2⟩ => ⟨h1, upd_cons h2, hI.upd h2 hb, fun h => by simp at h⟩⟩
theorem chg_fresh {c : Nat} {xt : Int} (hx : (Lit.int .i64 xt).wf = true) (hF : (c, 0, Value.int .i64 xt) ∈ F) : ChgRun (IC F uo) uo.toList (IF F uo) (35, #[.pointer (some ⟨c, 0, none⟩)]) (gFresh xt) := by
  refine ⟨fun args w => by go_simp, fun w b v s hI hv hb hw => ?_⟩
  obtain ⟨bal, st, sl, rq, ex, wd, dl⟩ := v
  have hc := hI.1 _ hF
  unfold gFresh
  by_cases h1 : st = 3
  · by_cases h2 : ex = -1
    · rw [if_neg (by simp [h1, h2])]
      exact ⟨fun _ => ⟨hw.1, hw.2.1, hw.2.2.1, hx, hw.2.2.2.2⟩, (fresh_ok b c bal st rq ex wd dl xt sl w hv hc (by simpa using h1) (by simpa using h2)).mono fun r w' ⟨h1, h2, h3⟩ => ⟨h1, upd_cons h2, hI.upd h2 hb, fun _ => h3⟩⟩
    · rw [if_pos (.inr h2)]
      exact ⟨fun h => by simp at h, (fresh_no2 b c bal st rq ex wd dl sl w hv (by simpa using h1) (by simpa using h2)).mono fun r w' ⟨h1, h2⟩ => ⟨h1, upd_cons h2, hI.upd h2 hb, fun h => by simp at h⟩⟩
  · rw [if_pos (.inl h1)]
    exact ⟨fun h => by simp at h, (fresh_no1 b c bal st rq ex wd dl sl w hv (by simpa using h1)).mono fun r w' ⟨h1, h2⟩ => ⟨h1, upd_cons h2, hI.upd h2 hb, fun h => by simp at h⟩⟩
end
end Go.Proofs.Ytfohgbcjhmmpeaa
