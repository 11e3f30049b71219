/- The statements PenaltySlashes, PenaltyPays, PenaltyTwice at arguments that can be read. -/
import Derived.Test.YtfohgbcjhmmpeaaLawP
namespace Go.Proofs.Ytfohgbcjhmmpeaa
open Go.RowKit
set_option linter.unusedVariables false
theorem start_PenaltyPays (w : World) (cs : Array Value) (sv : (HasSh w (.agg [.int .u64, .int .i64, .bool, .int .i64, .int .i64, .int .i64, .int .i64]) cs.toList)) (ep : Int) (hep : -9223372036854775808 ≤ ep ∧ ep ≤ 9223372036854775807) :
    Calls Try.prog 5 #[.agg cs, .int .i64 ep] w fun e w' => e = .returned (.bool true) ∧ Below w.heap.size w w' := by
  obtain ⟨v, rfl, hv⟩ := val_of_sh sv
  exact sx_PenaltyPays w v hv ep
theorem start_PenaltySlashes (w : World) (cs : Array Value) (sv : (HasSh w (.agg [.int .u64, .int .i64, .bool, .int .i64, .int .i64, .int .i64, .int .i64]) cs.toList)) (ep : Int) (hep : -9223372036854775808 ≤ ep ∧ ep ≤ 9223372036854775807) (cc : Array Value) (sc : (HasSh w (.agg [.int .i64, .int .i64, .int .u64, .int .u64, .int .u64, .int .u64, .int .u64, .int .u64, .int .u64, .int .u64, .int .i64, .int .i64, .int .i64, .int .i64, .int .i64, .int .i64, .int .i64, .int .i64, .int .u64, .int .u64]) cc.toList)) :
    Calls Try.prog 4 #[.agg cs, .int .i64 ep, .agg cc] w fun e w' => e = .returned (.bool true) ∧ Below w.heap.size w w' := by
  obtain ⟨v, rfl, hv⟩ := val_of_sh sv
  obtain ⟨cf, rfl, hcf⟩ := cfg_of_sh sc
  exact sx_PenaltySlashes w v hv ep (WalkArith.wf_i64 hep) cf hcf
theorem start_PenaltyTwice (w : World) (cs : Array Value) (sv : (HasSh w (.agg [.int .u64, .int .i64, .bool, .int .i64, .int .i64, .int .i64, .int .i64]) cs.toList)) (ep : Int) (hep : -9223372036854775808 ≤ ep ∧ ep ≤ 9223372036854775807) (cc : Array Value) (sc : (HasSh w (.agg [.int .i64, .int .i64, .int .u64, .int .u64, .int .u64, .int .u64, .int .u64, .int .u64, .int .u64, .int .u64, .int .i64, .int .i64, .int .i64, .int .i64, .int .i64, .int .i64, .int .i64, .int .i64, .int .u64, .int .u64]) cc.toList)) :
    Calls Try.prog 7 #[.agg cs, .int .i64 ep, .agg cc] w fun e w' => e = .returned (.bool true) ∧ Below w.heap.size w w' := by
  obtain ⟨v, rfl, hv⟩ := val_of_sh sv
  obtain ⟨cf, rfl, hcf⟩ := cfg_of_sh sc
  exact sx_PenaltyTwice w v hv ep (WalkArith.wf_i64 hep) cf hcf
end Go.Proofs.Ytfohgbcjhmmpeaa
