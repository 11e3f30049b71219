/- A receipt's slices are as they came. -/
import Derived.Test.YtffmcnaaaojgpaaDoorLawRcp
namespace Go.Proofs.YtffmcnaaaojgpaaDoor
open Go.RowKit
theorem rcg_old {w0 : World} {x : RcS} (h : SlT w0 asgL 3 (sl x.s) x.r.asg ∧ SlT w0 pmL 3 (sl x.p) x.r.pms) {L L' : List Asn} (hp : Pull L (Old w0) L') : RcG L x.r x.s x.p := ⟨gs_oldT h.1 hp, gs_oldT h.2 hp⟩
theorem rcg_old' {w0 : World} {x : Rc} {s p : SlH} (h : SlT w0 asgL 3 (sl s) x.asg ∧ SlT w0 pmL 3 (sl p) x.pms) {L L' : List Asn} (hp : Pull L (Old w0) L') : RcG L x s p := ⟨gs_oldT h.1 hp, gs_oldT h.2 hp⟩
end Go.Proofs.YtffmcnaaaojgpaaDoor
