/- Validators behind a change are well formed. -/
import Derived.Test.YtfohgbcjhmmpeaaPenaltyH
namespace Go.Proofs.Ytfohgbcjhmmpeaa
open Go.RowKit
theorem zero_wf : Val.zero.wf := ⟨⟨by decide, by decide⟩, by decide, by decide, by decide, by decide, by decide⟩
theorem slaR_wf {v : Val} {ep dy pn pd : Int} (hv : v.wf) (hep : (Lit.int .i64 ep).wf = true) (hdy : (Lit.int .i64 dy).wf = true) (hn : 0 ≤ pn) : (slaR v ep dy pn pd).2.1.wf := by
  have hp := penF_le v.bal pn pd hv.1.1 hn
  obtain ⟨⟨h0, h1⟩, h2, h3, h4, h5, h6⟩ := hv
  obtain ⟨bal, st, sl, rq, ex, wd, dl⟩ := v
  cases sl with
  | true => simpa [slaR, foldG, gMark] using zero_wf
  | false =>
    by_cases k2 : nextF st 7 = 0
    · simpa [slaR, foldG, gMark, gEvent, k2] using zero_wf
    · by_cases k3 : laterB ep [dy] = true
      · simp only [slaR, foldG, gMark, gEvent, gDelay, gBurn, k2, k3, if_true, if_false, Bool.false_eq_true]
        simp only [] at *
        have e1 : (Lit.int .i64 (if st = 2 then ep else rq)).wf = true := by split <;> assumption
        have e2 : (Lit.int .i64 (-1)).wf = true := by decide
        exact ⟨⟨by show 0 ≤ bal - penF bal pn pd; omega, by show bal - penF bal pn pd ≤ _; omega⟩, nextF_wf st 7, e1, h4, maxF_wf wd _ h5 (laterF_wf _ _), e2⟩
      · have k3' : laterB ep [dy] = false := by simpa using k3
        simpa [slaR, foldG, gMark, gEvent, gDelay, k2, k3'] using zero_wf
theorem accR_wf {v : Val} {ep : Int} (hv : v.wf) (hep : (Lit.int .i64 ep).wf = true) : (accR v ep).2.1.wf := by
  obtain ⟨h1, h2, h3, h4, h5, h6⟩ := hv
  obtain ⟨bal, st, sl, rq, ex, wd, dl⟩ := v
  by_cases k1 : laterB ep [] = true
  · by_cases k2 : nextF st 2 = 0
    · simpa [accR, foldG, gRequest, gEvent, k1, k2] using zero_wf
    · simp only [accR, foldG, gRequest, gEvent, k1, k2, if_true, if_false]
      exact ⟨h1, nextF_wf st 2, hep, h4, h5, h6⟩
  · have k1' : laterB ep [] = false := by simpa using k1
    simpa [accR, foldG, gRequest, k1'] using zero_wf
theorem asgR_wf {v : Val} {xt dy : Int} (hv : v.wf) (hxt : (Lit.int .i64 xt).wf = true) (hdy : (Lit.int .i64 dy).wf = true) : (asgR v xt dy).2.1.wf := by
  obtain ⟨h1, h2, h3, h4, h5, h6⟩ := hv
  obtain ⟨bal, st, sl, rq, ex, wd, dl⟩ := v
  by_cases k1 : st ≠ 3 ∨ ex ≠ -1
  · simpa [asgR, foldG, gFresh, k1] using zero_wf
  · by_cases k3 : laterB xt [dy] = true
    · simp only [asgR, foldG, gFresh, gDelay, k1, k3, if_true, if_false]
      exact ⟨h1, h2, h3, hxt, maxF_wf wd _ h5 (laterF_wf _ _), h6⟩
    · have k3' : laterB xt [dy] = false := by simpa using k3
      simpa [asgR, foldG, gFresh, gDelay, k1, k3'] using zero_wf
end Go.Proofs.Ytfohgbcjhmmpeaa
