/- Paths that meet again. -/
import Derived.Test.YtdlihlfknedpfaaSa
namespace Go.Proofs.Ytdlihlfknedpfaa
open Go.RowKit
set_option linter.unusedVariables false
set_option maxRecDepth 100000
section
variable {Q : Exit → Act → World → Prop} {a : Act} {w : World} {n : Nat} {l : List (Nat × Value)} {L : List Asn}
theorem Fr.meet {dl : List (Nat × Value)} {l' st : List (Nat × Value)} (F : Fr a n l') (h0 : ∀ p ∈ dl ++ st, look l' p.1 = some p.2) : Fr a n (dl ++ st) := F.keep h0
/-- Behind x the paths meet: dl, dL: what they leave that is not as it was, by a ghost state; fg: slots that are forgotten. -/
theorem svJoin {x y : Code} {σ : Type} (F : Fr a n l) (M : Mem w L) (s0 : σ) (dl : σ → List (Nat × Value)) (dL0 : List Asn) (dL : σ → List Asn) (Pf : σ → Prop) (fg : List Nat) {st : List (Nat × Value)} {R : List Asn}
    (h1 : Fr a n l → Mem w L → x.wp Try.prog (Exit.then (fun a' w' => ∃ s, Fr a' n (dl s ++ st) ∧ Mem w' (dL s ++ R) ∧ Pf s) Q) a w)
    (h2 : ∀ s, Pf s → ∀ a w, Fr a n (dl s ++ st) → Mem w (dL s ++ R) → y.wp Try.prog Q a w)
    (hs : restO (fg ++ slotsL (dl s0)) l = some st := by exact rfl) (hR : Pulls L dL0 R := by (first | (focus ((repeat (first | exact Pulls.nil | (apply Pulls.cons; (focus ((repeat (first | exact Pull.here | apply Pull.there)); done))))); done)) | fail)) : (Code.seq x y).wp Try.prog Q a w :=
  wp_seq (wp_mono (h1 F M) fun e a w h => by
    cases e with
    | normal => obtain ⟨s, k1, k2, k3⟩ := h; exact h2 s k3 a w k1 k2
    | _ => exact h)
theorem svMeet {σ : Type} {lf : σ → List (Nat × Value)} {Lf : σ → List Asn} {Pf : σ → Prop} (F : Fr a n l) (M : Mem w L) (s' : σ) (h0 : ∀ p ∈ lf s', look l p.1 = some p.2) (hL : Perms L (Lf s')) (hP : Pf s') :
    ∃ s', Fr a n (lf s') ∧ Mem w (Lf s') ∧ Pf s' := ⟨s', F.keep h0, M.perms hL, hP⟩
theorem Reads.tl {k : FuncId} {us : List Value} {v : Value} {L : List Asn} (h : Reads k us v L) (A : Asn) : Reads k us v (A :: L) := fun K hk => h K fun w M => (hk w M).drop
theorem Reads.im {k : FuncId} {us : List Value} {v : Value} {L K : List Asn} (h : Reads k us v L) (hk : ∀ w, Mem w K → Mem w L) : Reads k us v K := fun K' hk' => h K' fun w M => hk w (hk' w M)
end
end Go.Proofs.Ytdlihlfknedpfaa
