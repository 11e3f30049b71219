import Derived.Test.YtjbfcacmdahnhaaGreatZrz
set_option linter.unusedVariables false
set_option linter.unusedSimpArgs false
set_option linter.unusedSectionVars false
set_option maxRecDepth 100000
set_option maxHeartbeats 8000000
namespace Go.Proofs.YtjbfcacmdahnhaaGreat
section
open Go.RowKit
theorem start_TopRejected (w:World) (ks:Array Value) (hk:HasSh w cfgSh ks.toList) (v:Value) (hv:HasSh w (.slice 4 oprSh) [v]):Calls Tryz.prog 5 #[.agg ks,v] w fun e w'=>e=.returned (.bool true)∧Below w.heap.size w w':=by
 obtain ⟨c,rfl,h0,h1⟩:=cfg_ops hk
 obtain ⟨l,gl,hl⟩:=ops_sh hv
 exact law_old (us:=[cfgV c,v]) (trej_law c v l [Old w] gl h0 h1 hl)
end
end Go.Proofs.YtjbfcacmdahnhaaGreat
