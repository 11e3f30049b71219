import Derived.Test.YtjbfcacmdahnhaaGreatZkx
set_option linter.unusedVariables false
set_option linter.unusedSimpArgs false
set_option linter.unusedSectionVars false
set_option maxRecDepth 100000
set_option maxHeartbeats 8000000
namespace Go.Proofs.YtjbfcacmdahnhaaGreat
section
open Go.RowKit
theorem start_EngineKeeps (w:World) (ks:Array Value) (hk:HasSh w cfgSh ks.toList) (v:Value) (hv:HasSh w (.slice 4 oprSh) [v]) (i:Int) (hi:-9223372036854775808≤i∧i≤9223372036854775807):Calls Tryz.prog 6 #[.agg ks,v,.int .i64 i] w fun e w'=>e=.returned (.bool true)∧Below w.heap.size w w':=by
 obtain ⟨c,rfl,h0,h1⟩:=cfg_ops hk
 obtain ⟨l,gl,hl⟩:=ops_sh hv
 exact law_old (us:=[cfgV c,v,.int .i64 i]) (keeps22_law c v l i [Old w] gl h0 h1 hl)
end
end Go.Proofs.YtjbfcacmdahnhaaGreat
