/- Decimal numbers: strconv.Itoa, the reference's Format. -/
import Derived.Test.YtffmcnaaaojgpaaDoorStrs
import Derived.Test.YtffmcnaaaojgpaaDoorRfmt
import Derived.Lib.ItoaLen
import Derived.Lib.AppendIntMem
namespace Go.Proofs.YtffmcnaaaojgpaaDoor
open Go.RowKit
set_option linter.unusedVariables false
set_option maxRecDepth 100000
set_option linter.unusedSimpArgs false
set_option maxHeartbeats 2000000
theorem itoa_any (m : Int) (h0 : -9223372036854775808 ≤ m) (h1 : m ≤ 9223372036854775807) (w0 : World) (ht : Tens w0) :
    Calls Tryd.prog 43 [.int .i64 m].toArray w0 fun e w' => e = .returned (str (Lib.itoa m)) ∧ Below w0.heap.size w0 w' :=
  (Tryd.strconv_Itoa m h0 h1 w0 ht).mono fun e w' ⟨h1, k, os, h2⟩ => ⟨h1, by
    subst h2
    exact Lib.below_grow _ _ (Nat.le_refl _) k os⟩
theorem itoa_nat (m : Int) (h : 0 ≤ m) : Lib.itoa m = Lib.decDigits m.toNat := by rw [Lib.itoa, if_neg (by omega)]
theorem itoa_neg (m : Int) (h : m < 0) : Lib.itoa m = 45 :: Lib.decDigits (-m).toNat := by rw [Lib.itoa, if_pos h]; congr 2; omega
end Go.Proofs.YtffmcnaaaojgpaaDoor
