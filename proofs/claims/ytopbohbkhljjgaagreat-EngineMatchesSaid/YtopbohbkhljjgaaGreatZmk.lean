import Derived.Test.YtopbohbkhljjgaaGreatZmj
set_option linter.unusedVariables false
set_option linter.unusedSimpArgs false
set_option linter.unusedSectionVars false
set_option maxRecDepth 100000
set_option maxHeartbeats 8000000
namespace Go.Proofs.YtopbohbkhljjgaaGreat
section
open Go.RowKit
def epochB (e:Int):Bool:=decide (0≤e∧e≤1099511627776)
set_option maxHeartbeats 400000 in
theorem rEpoch_any (e:Int) (w:World):Calls Tryz.prog 231 #[.int .i64 e] w fun r w'=>r=.returned (.bool (epochB e))∧w=w':=by
 by_cases h0:0≤e
 ·by_cases h1:e≤1099511627776
  ·have hd1:decide (e≤1099511627776)=true:=by simpa using h1
   have HD:=Lib.hid (show epochB e=true by simp[epochB,h0,h1])
   go_enter Tryz.func231,Tryz.ntmps231
   go_wp2_with (go_at_call 295;refine(rMaxEpoch_any _).mono ?_;rintro r w1 ⟨rfl,rfl⟩)
   go_ret
   exact⟨by rw[HD.out];first|rfl|simp[*],rfl⟩
  ·have hd1:decide (e≤1099511627776)=false:=by simpa using h1
   have HD:=Lib.hid (show epochB e=false by simp[epochB];omega)
   go_enter Tryz.func231,Tryz.ntmps231
   go_wp2_with (go_at_call 295;refine(rMaxEpoch_any _).mono ?_;rintro r w1 ⟨rfl,rfl⟩)
   go_ret
   exact⟨by rw[HD.out];first|rfl|simp[*],rfl⟩
 ·have HD:=Lib.hid (show epochB e=false by simp[epochB];omega)
  go_enter Tryz.func231,Tryz.ntmps231
  go_wp2
  go_ret
  exact⟨by rw[HD.out];first|rfl|simp[*],rfl⟩
set_option maxHeartbeats 1000000 in
theorem rNext_any (s e:Int) (w:World):Calls Tryz.prog 232 #[.int .i64 s,.int .i64 e] w fun r w'=>r=.returned (.int .i64 (nextF s e))∧w=w':=by
 by_cases h7:e=7
 ·subst h7
  by_cases h2:s=2
  ·subst h2
   go_enter Tryz.func232,Tryz.ntmps232
   go_wp2
   go_ret
   exact⟨rfl,rfl⟩
  ·by_cases h3:s=3
   ·subst h3
    go_enter Tryz.func232,Tryz.ntmps232
    go_wp2
    go_ret
    exact⟨rfl,rfl⟩
   ·by_cases h4:s=4
    ·subst h4
     go_enter Tryz.func232,Tryz.ntmps232
     go_wp2
     go_ret
     exact⟨rfl,rfl⟩
    ·by_cases h5:s=5
     ·subst h5
      go_enter Tryz.func232,Tryz.ntmps232
      go_wp2
      go_ret
      exact⟨rfl,rfl⟩
     ·have HI:=Lib.hid (show nextF s 7=0 by unfold nextF;simp[h2,h3,h4,h5])
      have d2:(s == 2)=false:=by simpa using h2
      have d3:(s == 3)=false:=by simpa using h3
      have d4:(s == 4)=false:=by simpa using h4
      have d5:(s == 5)=false:=by simpa using h5
      go_enter Tryz.func232,Tryz.ntmps232
      go_wp2
      go_ret
      exact⟨by rw[HI.out];rfl,rfl⟩
 ·have d7:(e == 7)=false:=by simpa using h7
  by_cases h6:e=6
  ·subst h6
   by_cases h2:s=2
   ·subst h2
    go_enter Tryz.func232,Tryz.ntmps232
    go_wp2
    go_ret
    exact⟨rfl,rfl⟩
   ·have HI:=Lib.hid (show nextF s 6=0 by unfold nextF;simp[h2])
    have d2:(s == 2)=false:=by simpa using h2
    go_enter Tryz.func232,Tryz.ntmps232
    go_wp2
    go_ret
    exact⟨by rw[HI.out];rfl,rfl⟩
  ·have d6:(e == 6)=false:=by simpa using h6
   by_cases h1:1≤e∧e≤5∧s=e
   ·obtain ⟨h1,h5,rfl⟩:=h1
    have HI:=Lib.hid (show nextF s s=s+1 by unfold nextF;simp[h7,h6,h1,h5])
    go_enter Tryz.func232,Tryz.ntmps232
    go_wp2
    go_ret
    exact⟨by rw[HI.out];rfl,rfl⟩
   ·have HI:=Lib.hid (show nextF s e=0 by unfold nextF;rw[if_neg h7,if_neg (by omega),if_neg h1])
    by_cases h1a:1≤e
    ·by_cases h5a:e≤5
     ·have ds:(s == e)=false:=by simp;omega
      go_enter Tryz.func232,Tryz.ntmps232
      go_wp2
      go_ret
      exact⟨by rw[HI.out];rfl,rfl⟩
     ·have d5:decide (e≤5)=false:=by simpa using h5a
      go_enter Tryz.func232,Tryz.ntmps232
      go_wp2
      go_ret
      exact⟨by rw[HI.out];rfl,rfl⟩
    ·have d1:decide (1≤e)=false:=by simpa using h1a
     go_enter Tryz.func232,Tryz.ntmps232
     go_wp2
     go_ret
     exact⟨by rw[HI.out];rfl,rfl⟩
set_option maxHeartbeats 1000000 in
theorem rAmount_any (b n d:Int) (w:World) (hb0:0≤b) (hb:b≤18446744073709551615) (hn0:0≤n) (hn:n≤18446744073709551615) (hd0:0≤d) (hd:d≤18446744073709551615) :
  Calls Tryz.prog 237 #[.int .u64 b,.int .u64 n,.int .u64 d] w fun r w'=>r=.returned (.tuple #[.int .u64 (penF b n d),.bool (penB b n d)])∧w=w':=by
 by_cases h0:d=0
 ·subst h0
  have HI:=Lib.hid (show penF b n 0=0∧penB b n 0=false by
   unfold penF penB
   by_cases h:(0:Int)<n
   ·simp[h]
   ·have:n=0:=by omega
    subst this
    simp[mulF,mulB])
  go_enter Tryz.func237,Tryz.ntmps237
  go_wp2
  go_ret2
  exact⟨ret_ib (HI.out.1.symm) (HI.out.2.symm),rfl⟩
 ·have hd1:(d == 0)=false:=by simpa using h0
  by_cases h:d<n
  ·have HI:=Lib.hid (show penF b n d=0∧penB b n d=false by simp[penF,penB,h])
   go_enter Tryz.func237,Tryz.ntmps237
   go_wp2
   go_ret2
   exact⟨ret_ib (HI.out.1.symm) (HI.out.2.symm),rfl⟩
  ·have HI:=Lib.hid (show penF b n d=mulF b n d∧penB b n d=mulB b n d by simp[penF,penB,h])
   have hdn:decide (d<n)=false:=by simpa using h
   have HM:=Lib.hid (rMulDiv_any b n d w hb0 hb hn0 hn hd0 hd)
   go_enter Tryz.func237,Tryz.ntmps237
   go_wp2_with (go_at_call 299;refine(HM.out).mono ?_;rintro r w1 ⟨rfl,rfl⟩)
   go_ret2
   exact⟨ret_ib (HI.out.1.symm) (HI.out.2.symm),rfl⟩
theorem laterB_nil (e:Int):laterB e []=epochB e:=by
 unfold laterB epochB
 simp only[laterGo]
 by_cases h:0≤e∧e≤1099511627776
 ·rw[if_neg (by omega)];simp[h]
 ·rw[if_pos (by omega)];simp;omega
theorem Same.thru {W w1:World} {b:Nat} {c:Array Value} {t:TypeId} {Q:Prop} (h:BlockIs W b c t) (hS:Same W w1) (k:BlockIs w1 b c t→Q):Q:=k (by obtain ⟨d,rfl⟩:=hS;exact h)
theorem Below.thru' {B:Nat} {a b c:World} {Q:Prop} (h:Below B a b) (k:Below B b c) (q:Below B a c→Q):Q:=q (h.trans k)
set_option maxHeartbeats 2000000 in
theorem rAccept_any (v:Val) (ep:Int) (w:World) :
  Calls Tryz.prog 170 #[.agg v.cells,.int .i64 ep] w fun r w'=>r=.returned (.tuple #[.agg (accR v ep).2.1.cells,.int .i64 (accR v ep).1])∧Below w.heap.size w w':=by
 obtain ⟨bal,st,sl,rq,ex,wd,dl⟩:=v
 have hbel:Below w.heap.size w w:=Below.refl _ _
 by_cases h1:epochB ep=true
 ·by_cases h2:nextF st 2=0
  ·have HI:Hid (accR ⟨bal,st,sl,rq,ex,wd,dl⟩ ep=(8,Val.zero,0)):=by simp[Hid,accR,foldG,gRequest,gEvent,laterB_nil,h1,h2]
   have hb2:(nextF st 2 == 0)=true:=by simpa using h2
   clear h2
   rw[HI.out]
   simp only[Val.cells,Val.zero]
   go_enter Tryz.func170,Tryz.ntmps170
   go_wp2_with (first|(go_at_call 231;refine(rEpoch_any _ _).mono ?_;rintro r w1 ⟨rfl,rfl⟩)|(go_at_call 232;refine(rNext_any _ _ _).mono ?_;rintro r w1 ⟨rfl,rfl⟩))
   refine bodyPost_ret (v:=.tuple #[.agg #[.int .u64 0,.int .i64 0,.bool false,.int .i64 0,.int .i64 0,.int .i64 0,.int .i64 0],.int .i64 8]) (by simp[results,Tryz.results170,go_sem, *]) rfl ⟨rfl,?_⟩
   (focus ((repeat (with_reducible first|exact hbel|assumption|exact Below.refl _ _|refine Below.drew ?_|refine below_drewN ?_ _|refine Below.setCell ?_ (by first|omega|(simp<;>omega)) _|apply Below.alloc2|refine Below.alloc ?_ (by first|omega|(simp<;>omega)) _|(apply Below.join2;assumption)));done))
  ·have HI:Hid (accR ⟨bal,st,sl,rq,ex,wd,dl⟩ ep=(0,⟨bal,nextF st 2,sl,ep,ex,wd,dl⟩,0)):=by simp[Hid,accR,foldG,gRequest,gEvent,laterB_nil,h1,h2]
   have hb2:(nextF st 2 == 0)=false:=by simpa using h2
   clear h2
   rw[HI.out]
   simp only[Val.cells,Val.zero]
   go_enter Tryz.func170,Tryz.ntmps170
   go_wp2_with (first|(go_at_call 231;refine(rEpoch_any _ _).mono ?_;rintro r w1 ⟨rfl,rfl⟩)|(go_at_call 232;refine(rNext_any _ _ _).mono ?_;rintro r w1 ⟨rfl,rfl⟩))
   refine bodyPost_ret (v:=.tuple #[.agg #[.int .u64 bal,.int .i64 (nextF st 2),.bool sl,.int .i64 ep,.int .i64 ex,.int .i64 wd,.int .i64 dl],.int .i64 0]) (by simp[results,Tryz.results170,go_sem, *]) rfl ⟨rfl,?_⟩
   (focus ((repeat (with_reducible first|exact hbel|assumption|exact Below.refl _ _|refine Below.drew ?_|refine below_drewN ?_ _|refine Below.setCell ?_ (by first|omega|(simp<;>omega)) _|apply Below.alloc2|refine Below.alloc ?_ (by first|omega|(simp<;>omega)) _|(apply Below.join2;assumption)));done))
 ·have hb1:epochB ep=false:=by simpa using h1
  have HI:Hid (accR ⟨bal,st,sl,rq,ex,wd,dl⟩ ep=(10,Val.zero,0)):=by simp[Hid,accR,foldG,gRequest,gEvent,laterB_nil,hb1]
  clear h1
  rw[HI.out]
  simp only[Val.cells,Val.zero]
  go_enter Tryz.func170,Tryz.ntmps170
  go_wp2_with (first|(go_at_call 231;refine(rEpoch_any _ _).mono ?_;rintro r w1 ⟨rfl,rfl⟩)|(go_at_call 232;refine(rNext_any _ _ _).mono ?_;rintro r w1 ⟨rfl,rfl⟩))
  refine bodyPost_ret (v:=.tuple #[.agg #[.int .u64 0,.int .i64 0,.bool false,.int .i64 0,.int .i64 0,.int .i64 0,.int .i64 0],.int .i64 10]) (by simp[results,Tryz.results170,go_sem, *]) rfl ⟨rfl,?_⟩
  (focus ((repeat (with_reducible first|exact hbel|assumption|exact Below.refl _ _|refine Below.drew ?_|refine below_drewN ?_ _|refine Below.setCell ?_ (by first|omega|(simp<;>omega)) _|apply Below.alloc2|refine Below.alloc ?_ (by first|omega|(simp<;>omega)) _|(apply Below.join2;assumption)));done))
theorem maxF_max (a b:Int):maxF [a,b]=max a b:=by
 show(if a<b then b else a)=max a b
 split<;>omega
set_option maxHeartbeats 2000000 in
theorem rAssign_any (v:Val) (xt:Int) (cf:Cfg) (hdy:(Lit.int .i64 cf.unbonding).wf=true) (w:World) :
  Calls Tryz.prog 242 #[.agg v.cells,.int .i64 xt,.agg cf.cells] w fun r w'=>r=.returned (.tuple #[.agg (asgR v xt cf.unbonding).2.1.cells,.int .i64 (asgR v xt cf.unbonding).1])∧Below w.heap.size w w':=by
 obtain ⟨k0,k1,k2,k3,k4,k5,k6,k7,k8,k9,dy,k11,k12,k13,k14,k15,k16,k17,k18,k19⟩:=cf
 obtain ⟨bal,st,sl,rq,ex,wd,dl⟩:=v
 simp only[] at hdy ⊢
 have HBD:Hid (∀ z∈[dy],-9223372036854775808≤z∧z≤9223372036854775807):=Lib.hid (by simp;exact bounds_i64 hdy)
 clear hdy
 have hbel:Below w.heap.size w w:=Below.refl _ _
 by_cases h1:st=3
 ·subst h1
  by_cases h2:ex = -1
  ·subst h2
   by_cases h3:laterB xt [dy]=true
   ·have HI:Hid (asgR ⟨bal,3,sl,rq,-1,wd,dl⟩ xt dy=(0,⟨bal,3,sl,rq,xt,max wd (laterF xt [dy]),dl⟩,0)):=by simp[Hid,asgR,foldG,gFresh,gDelay,h3,maxF_max]
    rw[HI.out]
    simp only[Val.cells,Val.zero,Cfg.cells]
    go_enter Tryz.func242,Tryz.ntmps242
    go_wp2_with (first|(go_at_call 231;refine(rEpoch_any _ _).mono ?_;rintro r w1 ⟨rfl,rfl⟩)|(go_at_call 232;refine(rNext_any _ _ _).mono ?_;rintro r w1 ⟨rfl,rfl⟩)|(go_at_call 236;refine(rLater_any _ _ [dy] _ (slr_of_block (BlockIs.new' (c:=#[.int .i64 dy]) (t:=3) ?_) 1 rfl (by decide)) (by simp) HBD.out).mono ?_;(focus (simp<;>done));rintro r w1 ⟨rfl,hS⟩;refine Same.thru (b:=w.heap.size) (c:=#[.int .u64 bal,.int .i64 3,.bool sl,.int .i64 rq,.int .i64 (-1),.int .i64 wd,.int .i64 dl]) (t:=48) ?_ hS (fun gv=>?_);(focus (repeat (first|(with_reducible refine BlockIs.drew ?_)|((with_reducible refine BlockIs.new' ?_);(simp<;>omega))|(with_reducible refine BlockIs.alloc ?_ _)));done);refine Same.thru (b:=w.heap.size+1+1) (c:=#[.int .u64 0,.int .i64 0,.bool false,.int .i64 0,.int .i64 0,.int .i64 0,.int .i64 0]) (t:=48) ?_ hS (fun gz=>?_);(focus (repeat (first|(with_reducible refine BlockIs.drew ?_)|((with_reducible refine BlockIs.new' ?_);(simp<;>omega))|(with_reducible refine BlockIs.alloc ?_ _)));done);refine Below.thru' (B:=w.heap.size) (a:=w) ?_ (hS.below _) (fun hbel=>?_);(focus ((repeat (with_reducible first|exact hbel|assumption|exact Below.refl _ _|refine Below.drew ?_|refine below_drewN ?_ _|refine Below.setCell ?_ (by first|omega|(simp<;>omega)) _|apply Below.alloc2|refine Below.alloc ?_ (by first|omega|(simp<;>omega)) _|(apply Below.join2;assumption)));done));obtain ⟨v0,v1,v2,v3,v4,v5,v6,f0,f1,f2,f3,f4,f5,f6⟩:=vfacts gv;obtain ⟨z0,z1,z2,z3,z4,z5,z6,y0,y1,y2,y3,y4,y5,y6⟩:=vfacts gz;have gvl:=gv.lt;have gzl:=gz.lt;clear gv gz hS))
    refine bodyPost_ret (v:=.tuple #[.agg #[.int .u64 bal,.int .i64 3,.bool sl,.int .i64 rq,.int .i64 xt,.int .i64 (max wd (laterF xt [dy])),.int .i64 dl],.int .i64 0]) (by simp[results,Tryz.results242,go_sem, *]) rfl ⟨rfl,?_⟩
    (focus ((repeat (with_reducible first|exact hbel|assumption|exact Below.refl _ _|refine Below.drew ?_|refine below_drewN ?_ _|refine Below.setCell ?_ (by first|omega|(simp<;>omega)) _|apply Below.alloc2|refine Below.alloc ?_ (by first|omega|(simp<;>omega)) _|(apply Below.join2;assumption)));done))
   ·have b3:laterB xt [dy]=false:=by simpa using h3
    have HI:Hid (asgR ⟨bal,3,sl,rq,-1,wd,dl⟩ xt dy=(10,Val.zero,0)):=by simp[Hid,asgR,foldG,gFresh,gDelay,b3]
    clear h3
    rw[HI.out]
    simp only[Val.cells,Val.zero,Cfg.cells]
    go_enter Tryz.func242,Tryz.ntmps242
    go_wp2_with (first|(go_at_call 231;refine(rEpoch_any _ _).mono ?_;rintro r w1 ⟨rfl,rfl⟩)|(go_at_call 232;refine(rNext_any _ _ _).mono ?_;rintro r w1 ⟨rfl,rfl⟩)|(go_at_call 236;refine(rLater_any _ _ [dy] _ (slr_of_block (BlockIs.new' (c:=#[.int .i64 dy]) (t:=3) ?_) 1 rfl (by decide)) (by simp) HBD.out).mono ?_;(focus (simp<;>done));rintro r w1 ⟨rfl,hS⟩;refine Same.thru (b:=w.heap.size) (c:=#[.int .u64 bal,.int .i64 3,.bool sl,.int .i64 rq,.int .i64 (-1),.int .i64 wd,.int .i64 dl]) (t:=48) ?_ hS (fun gv=>?_);(focus (repeat (first|(with_reducible refine BlockIs.drew ?_)|((with_reducible refine BlockIs.new' ?_);(simp<;>omega))|(with_reducible refine BlockIs.alloc ?_ _)));done);refine Same.thru (b:=w.heap.size+1+1) (c:=#[.int .u64 0,.int .i64 0,.bool false,.int .i64 0,.int .i64 0,.int .i64 0,.int .i64 0]) (t:=48) ?_ hS (fun gz=>?_);(focus (repeat (first|(with_reducible refine BlockIs.drew ?_)|((with_reducible refine BlockIs.new' ?_);(simp<;>omega))|(with_reducible refine BlockIs.alloc ?_ _)));done);refine Below.thru' (B:=w.heap.size) (a:=w) ?_ (hS.below _) (fun hbel=>?_);(focus ((repeat (with_reducible first|exact hbel|assumption|exact Below.refl _ _|refine Below.drew ?_|refine below_drewN ?_ _|refine Below.setCell ?_ (by first|omega|(simp<;>omega)) _|apply Below.alloc2|refine Below.alloc ?_ (by first|omega|(simp<;>omega)) _|(apply Below.join2;assumption)));done));obtain ⟨v0,v1,v2,v3,v4,v5,v6,f0,f1,f2,f3,f4,f5,f6⟩:=vfacts gv;obtain ⟨z0,z1,z2,z3,z4,z5,z6,y0,y1,y2,y3,y4,y5,y6⟩:=vfacts gz;have gvl:=gv.lt;have gzl:=gz.lt;clear gv gz hS))
    refine bodyPost_ret (v:=.tuple #[.agg #[.int .u64 0,.int .i64 0,.bool false,.int .i64 0,.int .i64 0,.int .i64 0,.int .i64 0],.int .i64 10]) (by simp[results,Tryz.results242,go_sem, *]) rfl ⟨rfl,?_⟩
    (focus ((repeat (with_reducible first|exact hbel|assumption|exact Below.refl _ _|refine Below.drew ?_|refine below_drewN ?_ _|refine Below.setCell ?_ (by first|omega|(simp<;>omega)) _|apply Below.alloc2|refine Below.alloc ?_ (by first|omega|(simp<;>omega)) _|(apply Below.join2;assumption)));done))
  ·have b2:(ex == -1)=false:=by simpa using h2
   have HI:Hid (asgR ⟨bal,3,sl,rq,ex,wd,dl⟩ xt dy=(8,Val.zero,0)):=by simp[Hid,asgR,foldG,gFresh,gDelay,h2]
   clear h2
   rw[HI.out]
   simp only[Val.cells,Val.zero,Cfg.cells]
   go_enter Tryz.func242,Tryz.ntmps242
   go_wp2_with (first|(go_at_call 231;refine(rEpoch_any _ _).mono ?_;rintro r w1 ⟨rfl,rfl⟩)|(go_at_call 232;refine(rNext_any _ _ _).mono ?_;rintro r w1 ⟨rfl,rfl⟩)|(go_at_call 236;refine(rLater_any _ _ [dy] _ (slr_of_block (BlockIs.new' (c:=#[.int .i64 dy]) (t:=3) ?_) 1 rfl (by decide)) (by simp) HBD.out).mono ?_;(focus (simp<;>done));rintro r w1 ⟨rfl,hS⟩;refine Same.thru (b:=w.heap.size) (c:=#[.int .u64 bal,.int .i64 3,.bool sl,.int .i64 rq,.int .i64 (-1),.int .i64 wd,.int .i64 dl]) (t:=48) ?_ hS (fun gv=>?_);(focus (repeat (first|(with_reducible refine BlockIs.drew ?_)|((with_reducible refine BlockIs.new' ?_);(simp<;>omega))|(with_reducible refine BlockIs.alloc ?_ _)));done);refine Same.thru (b:=w.heap.size+1+1) (c:=#[.int .u64 0,.int .i64 0,.bool false,.int .i64 0,.int .i64 0,.int .i64 0,.int .i64 0]) (t:=48) ?_ hS (fun gz=>?_);(focus (repeat (first|(with_reducible refine BlockIs.drew ?_)|((with_reducible refine BlockIs.new' ?_);(simp<;>omega))|(with_reducible refine BlockIs.alloc ?_ _)));done);refine Below.thru' (B:=w.heap.size) (a:=w) ?_ (hS.below _) (fun hbel=>?_);(focus ((repeat (with_reducible first|exact hbel|assumption|exact Below.refl _ _|refine Below.drew ?_|refine below_drewN ?_ _|refine Below.setCell ?_ (by first|omega|(simp<;>omega)) _|apply Below.alloc2|refine Below.alloc ?_ (by first|omega|(simp<;>omega)) _|(apply Below.join2;assumption)));done));obtain ⟨v0,v1,v2,v3,v4,v5,v6,f0,f1,f2,f3,f4,f5,f6⟩:=vfacts gv;obtain ⟨z0,z1,z2,z3,z4,z5,z6,y0,y1,y2,y3,y4,y5,y6⟩:=vfacts gz;have gvl:=gv.lt;have gzl:=gz.lt;clear gv gz hS))
   refine bodyPost_ret (v:=.tuple #[.agg #[.int .u64 0,.int .i64 0,.bool false,.int .i64 0,.int .i64 0,.int .i64 0,.int .i64 0],.int .i64 8]) (by simp[results,Tryz.results242,go_sem, *]) rfl ⟨rfl,?_⟩
   (focus ((repeat (with_reducible first|exact hbel|assumption|exact Below.refl _ _|refine Below.drew ?_|refine below_drewN ?_ _|refine Below.setCell ?_ (by first|omega|(simp<;>omega)) _|apply Below.alloc2|refine Below.alloc ?_ (by first|omega|(simp<;>omega)) _|(apply Below.join2;assumption)));done))
 ·have b1:(st == 3)=false:=by simpa using h1
  have HI:Hid (asgR ⟨bal,st,sl,rq,ex,wd,dl⟩ xt dy=(8,Val.zero,0)):=by simp[Hid,asgR,foldG,gFresh,gDelay,h1]
  clear h1
  rw[HI.out]
  simp only[Val.cells,Val.zero,Cfg.cells]
  go_enter Tryz.func242,Tryz.ntmps242
  go_wp2_with (first|(go_at_call 231;refine(rEpoch_any _ _).mono ?_;rintro r w1 ⟨rfl,rfl⟩)|(go_at_call 232;refine(rNext_any _ _ _).mono ?_;rintro r w1 ⟨rfl,rfl⟩)|(go_at_call 236;refine(rLater_any _ _ [dy] _ (slr_of_block (BlockIs.new' (c:=#[.int .i64 dy]) (t:=3) ?_) 1 rfl (by decide)) (by simp) HBD.out).mono ?_;(focus (simp<;>done));rintro r w1 ⟨rfl,hS⟩;refine Same.thru (b:=w.heap.size) (c:=#[.int .u64 bal,.int .i64 3,.bool sl,.int .i64 rq,.int .i64 (-1),.int .i64 wd,.int .i64 dl]) (t:=48) ?_ hS (fun gv=>?_);(focus (repeat (first|(with_reducible refine BlockIs.drew ?_)|((with_reducible refine BlockIs.new' ?_);(simp<;>omega))|(with_reducible refine BlockIs.alloc ?_ _)));done);refine Same.thru (b:=w.heap.size+1+1) (c:=#[.int .u64 0,.int .i64 0,.bool false,.int .i64 0,.int .i64 0,.int .i64 0,.int .i64 0]) (t:=48) ?_ hS (fun gz=>?_);(focus (repeat (first|(with_reducible refine BlockIs.drew ?_)|((with_reducible refine BlockIs.new' ?_);(simp<;>omega))|(with_reducible refine BlockIs.alloc ?_ _)));done);refine Below.thru' (B:=w.heap.size) (a:=w) ?_ (hS.below _) (fun hbel=>?_);(focus ((repeat (with_reducible first|exact hbel|assumption|exact Below.refl _ _|refine Below.drew ?_|refine below_drewN ?_ _|refine Below.setCell ?_ (by first|omega|(simp<;>omega)) _|apply Below.alloc2|refine Below.alloc ?_ (by first|omega|(simp<;>omega)) _|(apply Below.join2;assumption)));done));obtain ⟨v0,v1,v2,v3,v4,v5,v6,f0,f1,f2,f3,f4,f5,f6⟩:=vfacts gv;obtain ⟨z0,z1,z2,z3,z4,z5,z6,y0,y1,y2,y3,y4,y5,y6⟩:=vfacts gz;have gvl:=gv.lt;have gzl:=gz.lt;clear gv gz hS))
  refine bodyPost_ret (v:=.tuple #[.agg #[.int .u64 0,.int .i64 0,.bool false,.int .i64 0,.int .i64 0,.int .i64 0,.int .i64 0],.int .i64 8]) (by simp[results,Tryz.results242,go_sem, *]) rfl ⟨rfl,?_⟩
  (focus ((repeat (with_reducible first|exact hbel|assumption|exact Below.refl _ _|refine Below.drew ?_|refine below_drewN ?_ _|refine Below.setCell ?_ (by first|omega|(simp<;>omega)) _|apply Below.alloc2|refine Below.alloc ?_ (by first|omega|(simp<;>omega)) _|(apply Below.join2;assumption)));done))
set_option maxHeartbeats 2000000 in
theorem rSlash_any (v:Val) (hb0:0≤v.bal) (hb:v.bal≤18446744073709551615) (ep:Int) (cf:Cfg) (hdy:(Lit.int .i64 cf.slashDelay).wf=true) (hn0:0≤cf.penNum) (hn:cf.penNum≤18446744073709551615) (hd0:0≤cf.penDen) (hd:cf.penDen≤18446744073709551615) (w:World) :
  Calls Tryz.prog 175 #[.agg v.cells,.int .i64 ep,.agg cf.cells] w fun r w'=>r=.returned (.tuple #[.agg (slaR v ep cf.slashDelay cf.penNum cf.penDen).2.1.cells,.int .u64 (slaR v ep cf.slashDelay cf.penNum cf.penDen).2.2,.int .i64 (slaR v ep cf.slashDelay cf.penNum cf.penDen).1])∧Below w.heap.size w w':=by
 obtain ⟨k0,k1,k2,k3,k4,k5,k6,k7,k8,k9,k10,dy,k12,k13,k14,k15,k16,k17,pn,pd⟩:=cf
 obtain ⟨bal,st,sl,rq,ex,wd,dl⟩:=v
 simp only[] at hdy hn0 hn hd0 hd hb0 hb ⊢
 have HBD:Hid (∀ z∈[dy],-9223372036854775808≤z∧z≤9223372036854775807):=Lib.hid (by simp;exact bounds_i64 hdy)
 have HAM:=Lib.hid (fun w=>rAmount_any bal pn pd w hb0 hb hn0 hn hd0 hd)
 obtain ⟨p0,p1⟩:=penF_le bal pn pd hb0 hn0
 clear hdy hn hn0 hd hd0
 have hbel:Below w.heap.size w w:=Below.refl _ _
 cases sl with
 | true =>
  have HI:Hid (slaR ⟨bal,st,true,rq,ex,wd,dl⟩ ep dy pn pd=(9,Val.zero,0)):=by simp[Hid,slaR,foldG,gMark]
  rw[HI.out]
  simp only[Val.cells,Val.zero,Cfg.cells]
  go_enter Tryz.func175,Tryz.ntmps175
  go_wp2_with (first|(go_at_call 231;refine(rEpoch_any _ _).mono ?_;rintro r w1 ⟨rfl,rfl⟩)|(go_at_call 232;refine(rNext_any _ _ _).mono ?_;rintro r w1 ⟨rfl,rfl⟩)|(go_at_call 236;refine(rLater_any _ _ [dy] _ (slr_of_block (BlockIs.new' (c:=#[.int .i64 dy]) (t:=3) ?_) 1 rfl (by decide)) (by simp) HBD.out).mono ?_;(focus (simp<;>done));rintro r w1 ⟨rfl,hS⟩;refine Same.thru (b:=w.heap.size) (c:=#[.int .u64 bal,.int .i64 st,.bool false,.int .i64 rq,.int .i64 ex,.int .i64 wd,.int .i64 dl]) (t:=48) ?_ hS (fun gv=>?_);(focus (repeat (first|(with_reducible refine BlockIs.drew ?_)|((with_reducible refine BlockIs.new' ?_);(simp<;>omega))|(with_reducible refine BlockIs.alloc ?_ _)));done);refine Same.thru (b:=w.heap.size+1+1) (c:=#[.int .u64 0,.int .i64 0,.bool false,.int .i64 0,.int .i64 0,.int .i64 0,.int .i64 0]) (t:=48) ?_ hS (fun gz=>?_);(focus (repeat (first|(with_reducible refine BlockIs.drew ?_)|((with_reducible refine BlockIs.new' ?_);(simp<;>omega))|(with_reducible refine BlockIs.alloc ?_ _)));done);refine Below.thru' (B:=w.heap.size) (a:=w) ?_ (hS.below _) (fun hbel=>?_);(focus ((repeat (with_reducible first|exact hbel|assumption|exact Below.refl _ _|refine Below.drew ?_|refine below_drewN ?_ _|refine Below.setCell ?_ (by first|omega|(simp<;>omega)) _|apply Below.alloc2|refine Below.alloc ?_ (by first|omega|(simp<;>omega)) _|(apply Below.join2;assumption)));done));refine Same.thru (b:=w.heap.size+1) (c:=#[.int .i64 k0,.int .i64 k1,.int .u64 k2,.int .u64 k3,.int .u64 k4,.int .u64 k5,.int .u64 k6,.int .u64 k7,.int .u64 k8,.int .u64 k9,.int .i64 k10,.int .i64 dy,.int .i64 k12,.int .i64 k13,.int .i64 k14,.int .i64 k15,.int .i64 k16,.int .i64 k17,.int .u64 pn,.int .u64 pd]) (t:=30) ?_ hS (fun gc=>?_);(focus (repeat (first|(with_reducible refine BlockIs.drew ?_)|((with_reducible refine BlockIs.new' ?_);(simp<;>omega))|(with_reducible refine BlockIs.alloc ?_ _)));done);have c18:w1.cell? ⟨w.heap.size+1,18,none⟩=some (.int .u64 pn):=gc.cell (i:=18) rfl;have c19:w1.cell? ⟨w.heap.size+1,19,none⟩=some (.int .u64 pd):=gc.cell (i:=19) rfl;clear gc;obtain ⟨v0,v1,v2,v3,v4,v5,v6,f0,f1,f2,f3,f4,f5,f6⟩:=vfacts gv;obtain ⟨z0,z1,z2,z3,z4,z5,z6,y0,y1,y2,y3,y4,y5,y6⟩:=vfacts gz;have gvl:=gv.lt;have gzl:=gz.lt;clear gv gz hS)|(go_at_call 237;refine(HAM.out _).mono ?_;rintro r w1 ⟨rfl,rfl⟩))
  refine bodyPost_ret (v:=.tuple #[.agg #[.int .u64 0,.int .i64 0,.bool false,.int .i64 0,.int .i64 0,.int .i64 0,.int .i64 0],.int .u64 0,.int .i64 9]) (by simp[results,Tryz.results175,go_sem, *]) rfl ⟨rfl,?_⟩
  (focus ((repeat (with_reducible first|exact hbel|assumption|exact Below.refl _ _|refine Below.drew ?_|refine below_drewN ?_ _|refine Below.setCell ?_ (by first|omega|(simp<;>omega)) _|apply Below.alloc2|refine Below.alloc ?_ (by first|omega|(simp<;>omega)) _|(apply Below.join2;assumption)));done))
 | false =>
  by_cases h2:nextF st 7=0
  ·have HI:Hid (slaR ⟨bal,st,false,rq,ex,wd,dl⟩ ep dy pn pd=(8,Val.zero,0)):=by simp[Hid,slaR,foldG,gMark,gEvent,h2]
   have hb2:(nextF st 7 == 0)=true:=by simpa using h2
   clear h2
   rw[HI.out]
   simp only[Val.cells,Val.zero,Cfg.cells]
   go_enter Tryz.func175,Tryz.ntmps175
   go_wp2_with (first|(go_at_call 231;refine(rEpoch_any _ _).mono ?_;rintro r w1 ⟨rfl,rfl⟩)|(go_at_call 232;refine(rNext_any _ _ _).mono ?_;rintro r w1 ⟨rfl,rfl⟩)|(go_at_call 236;refine(rLater_any _ _ [dy] _ (slr_of_block (BlockIs.new' (c:=#[.int .i64 dy]) (t:=3) ?_) 1 rfl (by decide)) (by simp) HBD.out).mono ?_;(focus (simp<;>done));rintro r w1 ⟨rfl,hS⟩;refine Same.thru (b:=w.heap.size) (c:=#[.int .u64 bal,.int .i64 st,.bool false,.int .i64 rq,.int .i64 ex,.int .i64 wd,.int .i64 dl]) (t:=48) ?_ hS (fun gv=>?_);(focus (repeat (first|(with_reducible refine BlockIs.drew ?_)|((with_reducible refine BlockIs.new' ?_);(simp<;>omega))|(with_reducible refine BlockIs.alloc ?_ _)));done);refine Same.thru (b:=w.heap.size+1+1) (c:=#[.int .u64 0,.int .i64 0,.bool false,.int .i64 0,.int .i64 0,.int .i64 0,.int .i64 0]) (t:=48) ?_ hS (fun gz=>?_);(focus (repeat (first|(with_reducible refine BlockIs.drew ?_)|((with_reducible refine BlockIs.new' ?_);(simp<;>omega))|(with_reducible refine BlockIs.alloc ?_ _)));done);refine Below.thru' (B:=w.heap.size) (a:=w) ?_ (hS.below _) (fun hbel=>?_);(focus ((repeat (with_reducible first|exact hbel|assumption|exact Below.refl _ _|refine Below.drew ?_|refine below_drewN ?_ _|refine Below.setCell ?_ (by first|omega|(simp<;>omega)) _|apply Below.alloc2|refine Below.alloc ?_ (by first|omega|(simp<;>omega)) _|(apply Below.join2;assumption)));done));refine Same.thru (b:=w.heap.size+1) (c:=#[.int .i64 k0,.int .i64 k1,.int .u64 k2,.int .u64 k3,.int .u64 k4,.int .u64 k5,.int .u64 k6,.int .u64 k7,.int .u64 k8,.int .u64 k9,.int .i64 k10,.int .i64 dy,.int .i64 k12,.int .i64 k13,.int .i64 k14,.int .i64 k15,.int .i64 k16,.int .i64 k17,.int .u64 pn,.int .u64 pd]) (t:=30) ?_ hS (fun gc=>?_);(focus (repeat (first|(with_reducible refine BlockIs.drew ?_)|((with_reducible refine BlockIs.new' ?_);(simp<;>omega))|(with_reducible refine BlockIs.alloc ?_ _)));done);have c18:w1.cell? ⟨w.heap.size+1,18,none⟩=some (.int .u64 pn):=gc.cell (i:=18) rfl;have c19:w1.cell? ⟨w.heap.size+1,19,none⟩=some (.int .u64 pd):=gc.cell (i:=19) rfl;clear gc;obtain ⟨v0,v1,v2,v3,v4,v5,v6,f0,f1,f2,f3,f4,f5,f6⟩:=vfacts gv;obtain ⟨z0,z1,z2,z3,z4,z5,z6,y0,y1,y2,y3,y4,y5,y6⟩:=vfacts gz;have gvl:=gv.lt;have gzl:=gz.lt;clear gv gz hS)|(go_at_call 237;refine(HAM.out _).mono ?_;rintro r w1 ⟨rfl,rfl⟩))
   refine bodyPost_ret (v:=.tuple #[.agg #[.int .u64 0,.int .i64 0,.bool false,.int .i64 0,.int .i64 0,.int .i64 0,.int .i64 0],.int .u64 0,.int .i64 8]) (by simp[results,Tryz.results175,go_sem, *]) rfl ⟨rfl,?_⟩
   (focus ((repeat (with_reducible first|exact hbel|assumption|exact Below.refl _ _|refine Below.drew ?_|refine below_drewN ?_ _|refine Below.setCell ?_ (by first|omega|(simp<;>omega)) _|apply Below.alloc2|refine Below.alloc ?_ (by first|omega|(simp<;>omega)) _|(apply Below.join2;assumption)));done))
  ·have hb2:(nextF st 7 == 0)=false:=by simpa using h2
   by_cases h3:laterB ep [dy]=true
   ·by_cases h4:st=2
    ·subst h4
     have HI:Hid (slaR ⟨bal,2,false,rq,ex,wd,dl⟩ ep dy pn pd=(0,⟨bal - penF bal pn pd,nextF 2 7,true,ep,ex,max wd (laterF ep [dy]),-1⟩,penF bal pn pd)):=by simp[Hid,slaR,foldG,gMark,gEvent,gDelay,gBurn,h2,h3,maxF_max]
     clear h2
     rw[HI.out]
     simp only[Val.cells,Val.zero,Cfg.cells]
     generalize penF bal pn pd=px at *
     go_enter Tryz.func175,Tryz.ntmps175
     go_wp2_with (first|(go_at_call 231;refine(rEpoch_any _ _).mono ?_;rintro r w1 ⟨rfl,rfl⟩)|(go_at_call 232;refine(rNext_any _ _ _).mono ?_;rintro r w1 ⟨rfl,rfl⟩)|(go_at_call 236;refine(rLater_any _ _ [dy] _ (slr_of_block (BlockIs.new' (c:=#[.int .i64 dy]) (t:=3) ?_) 1 rfl (by decide)) (by simp) HBD.out).mono ?_;(focus (simp<;>done));rintro r w1 ⟨rfl,hS⟩;refine Same.thru (b:=w.heap.size) (c:=#[.int .u64 bal,.int .i64 2,.bool false,.int .i64 rq,.int .i64 ex,.int .i64 wd,.int .i64 dl]) (t:=48) ?_ hS (fun gv=>?_);(focus (repeat (first|(with_reducible refine BlockIs.drew ?_)|((with_reducible refine BlockIs.new' ?_);(simp<;>omega))|(with_reducible refine BlockIs.alloc ?_ _)));done);refine Same.thru (b:=w.heap.size+1+1) (c:=#[.int .u64 0,.int .i64 0,.bool false,.int .i64 0,.int .i64 0,.int .i64 0,.int .i64 0]) (t:=48) ?_ hS (fun gz=>?_);(focus (repeat (first|(with_reducible refine BlockIs.drew ?_)|((with_reducible refine BlockIs.new' ?_);(simp<;>omega))|(with_reducible refine BlockIs.alloc ?_ _)));done);refine Below.thru' (B:=w.heap.size) (a:=w) ?_ (hS.below _) (fun hbel=>?_);(focus ((repeat (with_reducible first|exact hbel|assumption|exact Below.refl _ _|refine Below.drew ?_|refine below_drewN ?_ _|refine Below.setCell ?_ (by first|omega|(simp<;>omega)) _|apply Below.alloc2|refine Below.alloc ?_ (by first|omega|(simp<;>omega)) _|(apply Below.join2;assumption)));done));refine Same.thru (b:=w.heap.size+1) (c:=#[.int .i64 k0,.int .i64 k1,.int .u64 k2,.int .u64 k3,.int .u64 k4,.int .u64 k5,.int .u64 k6,.int .u64 k7,.int .u64 k8,.int .u64 k9,.int .i64 k10,.int .i64 dy,.int .i64 k12,.int .i64 k13,.int .i64 k14,.int .i64 k15,.int .i64 k16,.int .i64 k17,.int .u64 pn,.int .u64 pd]) (t:=30) ?_ hS (fun gc=>?_);(focus (repeat (first|(with_reducible refine BlockIs.drew ?_)|((with_reducible refine BlockIs.new' ?_);(simp<;>omega))|(with_reducible refine BlockIs.alloc ?_ _)));done);have c18:w1.cell? ⟨w.heap.size+1,18,none⟩=some (.int .u64 pn):=gc.cell (i:=18) rfl;have c19:w1.cell? ⟨w.heap.size+1,19,none⟩=some (.int .u64 pd):=gc.cell (i:=19) rfl;clear gc;obtain ⟨v0,v1,v2,v3,v4,v5,v6,f0,f1,f2,f3,f4,f5,f6⟩:=vfacts gv;obtain ⟨z0,z1,z2,z3,z4,z5,z6,y0,y1,y2,y3,y4,y5,y6⟩:=vfacts gz;have gvl:=gv.lt;have gzl:=gz.lt;clear gv gz hS)|(go_at_call 237;refine(HAM.out _).mono ?_;rintro r w1 ⟨rfl,rfl⟩))
     refine bodyPost_ret (v:=.tuple #[.agg #[.int .u64 (bal - px),.int .i64 (nextF 2 7),.bool true,.int .i64 ep,.int .i64 ex,.int .i64 (max wd (laterF ep [dy])),.int .i64 (-1)],.int .u64 px,.int .i64 0]) (by simp[results,Tryz.results175,go_sem, *]) rfl ⟨rfl,?_⟩
     (focus ((repeat (with_reducible first|exact hbel|assumption|exact Below.refl _ _|refine Below.drew ?_|refine below_drewN ?_ _|refine Below.setCell ?_ (by first|omega|(simp<;>omega)) _|apply Below.alloc2|refine Below.alloc ?_ (by first|omega|(simp<;>omega)) _|(apply Below.join2;assumption)));done))
    ·have b4:(st == 2)=false:=by simpa using h4
     have HI:Hid (slaR ⟨bal,st,false,rq,ex,wd,dl⟩ ep dy pn pd=(0,⟨bal - penF bal pn pd,nextF st 7,true,rq,ex,max wd (laterF ep [dy]),-1⟩,penF bal pn pd)):=by simp[Hid,slaR,foldG,gMark,gEvent,gDelay,gBurn,h2,h3,h4,maxF_max]
     clear h2 h4
     rw[HI.out]
     simp only[Val.cells,Val.zero,Cfg.cells]
     generalize penF bal pn pd=px at *
     go_enter Tryz.func175,Tryz.ntmps175
     go_wp2_with (first|(go_at_call 231;refine(rEpoch_any _ _).mono ?_;rintro r w1 ⟨rfl,rfl⟩)|(go_at_call 232;refine(rNext_any _ _ _).mono ?_;rintro r w1 ⟨rfl,rfl⟩)|(go_at_call 236;refine(rLater_any _ _ [dy] _ (slr_of_block (BlockIs.new' (c:=#[.int .i64 dy]) (t:=3) ?_) 1 rfl (by decide)) (by simp) HBD.out).mono ?_;(focus (simp<;>done));rintro r w1 ⟨rfl,hS⟩;refine Same.thru (b:=w.heap.size) (c:=#[.int .u64 bal,.int .i64 st,.bool false,.int .i64 rq,.int .i64 ex,.int .i64 wd,.int .i64 dl]) (t:=48) ?_ hS (fun gv=>?_);(focus (repeat (first|(with_reducible refine BlockIs.drew ?_)|((with_reducible refine BlockIs.new' ?_);(simp<;>omega))|(with_reducible refine BlockIs.alloc ?_ _)));done);refine Same.thru (b:=w.heap.size+1+1) (c:=#[.int .u64 0,.int .i64 0,.bool false,.int .i64 0,.int .i64 0,.int .i64 0,.int .i64 0]) (t:=48) ?_ hS (fun gz=>?_);(focus (repeat (first|(with_reducible refine BlockIs.drew ?_)|((with_reducible refine BlockIs.new' ?_);(simp<;>omega))|(with_reducible refine BlockIs.alloc ?_ _)));done);refine Below.thru' (B:=w.heap.size) (a:=w) ?_ (hS.below _) (fun hbel=>?_);(focus ((repeat (with_reducible first|exact hbel|assumption|exact Below.refl _ _|refine Below.drew ?_|refine below_drewN ?_ _|refine Below.setCell ?_ (by first|omega|(simp<;>omega)) _|apply Below.alloc2|refine Below.alloc ?_ (by first|omega|(simp<;>omega)) _|(apply Below.join2;assumption)));done));refine Same.thru (b:=w.heap.size+1) (c:=#[.int .i64 k0,.int .i64 k1,.int .u64 k2,.int .u64 k3,.int .u64 k4,.int .u64 k5,.int .u64 k6,.int .u64 k7,.int .u64 k8,.int .u64 k9,.int .i64 k10,.int .i64 dy,.int .i64 k12,.int .i64 k13,.int .i64 k14,.int .i64 k15,.int .i64 k16,.int .i64 k17,.int .u64 pn,.int .u64 pd]) (t:=30) ?_ hS (fun gc=>?_);(focus (repeat (first|(with_reducible refine BlockIs.drew ?_)|((with_reducible refine BlockIs.new' ?_);(simp<;>omega))|(with_reducible refine BlockIs.alloc ?_ _)));done);have c18:w1.cell? ⟨w.heap.size+1,18,none⟩=some (.int .u64 pn):=gc.cell (i:=18) rfl;have c19:w1.cell? ⟨w.heap.size+1,19,none⟩=some (.int .u64 pd):=gc.cell (i:=19) rfl;clear gc;obtain ⟨v0,v1,v2,v3,v4,v5,v6,f0,f1,f2,f3,f4,f5,f6⟩:=vfacts gv;obtain ⟨z0,z1,z2,z3,z4,z5,z6,y0,y1,y2,y3,y4,y5,y6⟩:=vfacts gz;have gvl:=gv.lt;have gzl:=gz.lt;clear gv gz hS)|(go_at_call 237;refine(HAM.out _).mono ?_;rintro r w1 ⟨rfl,rfl⟩))
     refine bodyPost_ret (v:=.tuple #[.agg #[.int .u64 (bal - px),.int .i64 (nextF st 7),.bool true,.int .i64 rq,.int .i64 ex,.int .i64 (max wd (laterF ep [dy])),.int .i64 (-1)],.int .u64 px,.int .i64 0]) (by simp[results,Tryz.results175,go_sem, *]) rfl ⟨rfl,?_⟩
     (focus ((repeat (with_reducible first|exact hbel|assumption|exact Below.refl _ _|refine Below.drew ?_|refine below_drewN ?_ _|refine Below.setCell ?_ (by first|omega|(simp<;>omega)) _|apply Below.alloc2|refine Below.alloc ?_ (by first|omega|(simp<;>omega)) _|(apply Below.join2;assumption)));done))
   ·have b3:laterB ep [dy]=false:=by simpa using h3
    have HI:Hid (slaR ⟨bal,st,false,rq,ex,wd,dl⟩ ep dy pn pd=(10,Val.zero,0)):=by
     by_cases h4:st=2
     ·subst h4;simp[Hid,slaR,foldG,gMark,gEvent,gDelay,show nextF 2 7=3 by decide,b3]
     ·simp[Hid,slaR,foldG,gMark,gEvent,gDelay,h2,b3,h4]
    clear h2 h3
    rw[HI.out]
    simp only[Val.cells,Val.zero,Cfg.cells]
    go_enter Tryz.func175,Tryz.ntmps175
    go_wp2_with (first|(go_at_call 231;refine(rEpoch_any _ _).mono ?_;rintro r w1 ⟨rfl,rfl⟩)|(go_at_call 232;refine(rNext_any _ _ _).mono ?_;rintro r w1 ⟨rfl,rfl⟩)|(go_at_call 236;refine(rLater_any _ _ [dy] _ (slr_of_block (BlockIs.new' (c:=#[.int .i64 dy]) (t:=3) ?_) 1 rfl (by decide)) (by simp) HBD.out).mono ?_;(focus (simp<;>done));rintro r w1 ⟨rfl,hS⟩;refine Same.thru (b:=w.heap.size) (c:=#[.int .u64 bal,.int .i64 st,.bool false,.int .i64 rq,.int .i64 ex,.int .i64 wd,.int .i64 dl]) (t:=48) ?_ hS (fun gv=>?_);(focus (repeat (first|(with_reducible refine BlockIs.drew ?_)|((with_reducible refine BlockIs.new' ?_);(simp<;>omega))|(with_reducible refine BlockIs.alloc ?_ _)));done);refine Same.thru (b:=w.heap.size+1+1) (c:=#[.int .u64 0,.int .i64 0,.bool false,.int .i64 0,.int .i64 0,.int .i64 0,.int .i64 0]) (t:=48) ?_ hS (fun gz=>?_);(focus (repeat (first|(with_reducible refine BlockIs.drew ?_)|((with_reducible refine BlockIs.new' ?_);(simp<;>omega))|(with_reducible refine BlockIs.alloc ?_ _)));done);refine Below.thru' (B:=w.heap.size) (a:=w) ?_ (hS.below _) (fun hbel=>?_);(focus ((repeat (with_reducible first|exact hbel|assumption|exact Below.refl _ _|refine Below.drew ?_|refine below_drewN ?_ _|refine Below.setCell ?_ (by first|omega|(simp<;>omega)) _|apply Below.alloc2|refine Below.alloc ?_ (by first|omega|(simp<;>omega)) _|(apply Below.join2;assumption)));done));refine Same.thru (b:=w.heap.size+1) (c:=#[.int .i64 k0,.int .i64 k1,.int .u64 k2,.int .u64 k3,.int .u64 k4,.int .u64 k5,.int .u64 k6,.int .u64 k7,.int .u64 k8,.int .u64 k9,.int .i64 k10,.int .i64 dy,.int .i64 k12,.int .i64 k13,.int .i64 k14,.int .i64 k15,.int .i64 k16,.int .i64 k17,.int .u64 pn,.int .u64 pd]) (t:=30) ?_ hS (fun gc=>?_);(focus (repeat (first|(with_reducible refine BlockIs.drew ?_)|((with_reducible refine BlockIs.new' ?_);(simp<;>omega))|(with_reducible refine BlockIs.alloc ?_ _)));done);have c18:w1.cell? ⟨w.heap.size+1,18,none⟩=some (.int .u64 pn):=gc.cell (i:=18) rfl;have c19:w1.cell? ⟨w.heap.size+1,19,none⟩=some (.int .u64 pd):=gc.cell (i:=19) rfl;clear gc;obtain ⟨v0,v1,v2,v3,v4,v5,v6,f0,f1,f2,f3,f4,f5,f6⟩:=vfacts gv;obtain ⟨z0,z1,z2,z3,z4,z5,z6,y0,y1,y2,y3,y4,y5,y6⟩:=vfacts gz;have gvl:=gv.lt;have gzl:=gz.lt;clear gv gz hS)|(go_at_call 237;refine(HAM.out _).mono ?_;rintro r w1 ⟨rfl,rfl⟩))
    refine bodyPost_ret (v:=.tuple #[.agg #[.int .u64 0,.int .i64 0,.bool false,.int .i64 0,.int .i64 0,.int .i64 0,.int .i64 0],.int .u64 0,.int .i64 10]) (by simp[results,Tryz.results175,go_sem, *]) rfl ⟨rfl,?_⟩
    (focus ((repeat (with_reducible first|exact hbel|assumption|exact Below.refl _ _|refine Below.drew ?_|refine below_drewN ?_ _|refine Below.setCell ?_ (by first|omega|(simp<;>omega)) _|apply Below.alloc2|refine Below.alloc ?_ (by first|omega|(simp<;>omega)) _|(apply Below.join2;assumption)));done))
set_option maxHeartbeats 2000000 in
theorem rPay_any (v:Val) (ep:Int) (w:World) :
  Calls Tryz.prog 183 #[.agg v.cells,.int .i64 ep] w fun r w'=>r=.returned (.tuple #[.agg (payR v ep).2.1.cells,.int .u64 (if (payR v ep).1=0 then v.bal else 0),.int .i64 (payR v ep).1])∧Below w.heap.size w w':=by
 obtain ⟨bal,st,sl,rq,ex,wd,dl⟩:=v
 simp only[]
 have hbel:Below w.heap.size w w:=Below.refl _ _
 by_cases h1:st=5
 ·subst h1
  have n5:nextF 5 5=6:=by decide
  by_cases h2:ep<wd
  ·have HI:Hid (payR ⟨bal,5,sl,rq,ex,wd,dl⟩ ep=(8,Val.zero,0)):=by simp[Hid,payR,foldG,gEvent,gDue,h2,n5]
   have b2:decide (ep<wd)=true:=by simpa using h2
   clear n5
   rw[HI.out]
   simp only[Val.cells,Val.zero]
   go_enter Tryz.func183,Tryz.ntmps183
   go_wp2
   refine bodyPost_ret (v:=.tuple #[.agg #[.int .u64 0,.int .i64 0,.bool false,.int .i64 0,.int .i64 0,.int .i64 0,.int .i64 0],.int .u64 0,.int .i64 8]) (by simp[results,Tryz.results183,go_sem, *]) rfl ⟨rfl,?_⟩
   (focus ((repeat (with_reducible first|exact hbel|assumption|exact Below.refl _ _|refine Below.drew ?_|refine below_drewN ?_ _|refine Below.setCell ?_ (by first|omega|(simp<;>omega)) _|apply Below.alloc2|refine Below.alloc ?_ (by first|omega|(simp<;>omega)) _|(apply Below.join2;assumption)));done))
  ·have HI:Hid (payR ⟨bal,5,sl,rq,ex,wd,dl⟩ ep=(0,⟨0,6,sl,rq,ex,wd,dl⟩,0)):=by simp[Hid,payR,foldG,gEvent,gDue,h2,n5]
   have b2:decide (ep<wd)=false:=by simpa using h2
   clear n5
   rw[HI.out]
   simp only[Val.cells,Val.zero]
   go_enter Tryz.func183,Tryz.ntmps183
   go_wp2
   refine bodyPost_ret (v:=.tuple #[.agg #[.int .u64 0,.int .i64 6,.bool sl,.int .i64 rq,.int .i64 ex,.int .i64 wd,.int .i64 dl],.int .u64 bal,.int .i64 0]) (by simp[results,Tryz.results183,go_sem, *]) rfl ⟨rfl,?_⟩
   (focus ((repeat (with_reducible first|exact hbel|assumption|exact Below.refl _ _|refine Below.drew ?_|refine below_drewN ?_ _|refine Below.setCell ?_ (by first|omega|(simp<;>omega)) _|apply Below.alloc2|refine Below.alloc ?_ (by first|omega|(simp<;>omega)) _|(apply Below.join2;assumption)));done))
 ·have b1:(st == 5)=false:=by simpa using h1
  have b1':(st != 5)=true:=by simpa using h1
  have HI:Hid (payR ⟨bal,st,sl,rq,ex,wd,dl⟩ ep=(8,Val.zero,0)):=by
   have:nextF st 5=0:=by unfold nextF;simp;omega
   simp[Hid,payR,foldG,gEvent,this]
  clear h1
  rw[HI.out]
  simp only[Val.cells,Val.zero]
  go_enter Tryz.func183,Tryz.ntmps183
  go_wp2
  refine bodyPost_ret (v:=.tuple #[.agg #[.int .u64 0,.int .i64 0,.bool false,.int .i64 0,.int .i64 0,.int .i64 0,.int .i64 0],.int .u64 0,.int .i64 8]) (by simp[results,Tryz.results183,go_sem, *]) rfl ⟨rfl,?_⟩
  (focus ((repeat (with_reducible first|exact hbel|assumption|exact Below.refl _ _|refine Below.drew ?_|refine below_drewN ?_ _|refine Below.setCell ?_ (by first|omega|(simp<;>omega)) _|apply Below.alloc2|refine Below.alloc ?_ (by first|omega|(simp<;>omega)) _|(apply Below.join2;assumption)));done))
end
section
open Go.RowKit
def Cfg.deflt:Cfg:=⟨16,8,16,64,1024,8,128,32,4,64,2,5,4,4,6,4,2,2,1,4⟩
theorem built_cfg (k1 k2 k3 k4 k5 k6 k7 k8 k9 k10 k11 k12 k13 k14 k15 k16 k17 k18 k19 k20:Int):Tryz.prog.built 30 [(0,.int .i64 k1),(1,.int .i64 k2),(2,.int .u64 k3),(3,.int .u64 k4),(4,.int .u64 k5),(5,.int .u64 k6),(6,.int .u64 k7),(7,.int .u64 k8),(8,.int .u64 k9),(9,.int .u64 k10),(10,.int .i64 k11),(11,.int .i64 k12),(12,.int .i64 k13),(13,.int .i64 k14),(14,.int .i64 k15),(15,.int .i64 k16),(16,.int .i64 k17),(17,.int .i64 k18),(18,.int .u64 k19),(19,.int .u64 k20)]=some (Cfg.cells ⟨k1,k2,k3,k4,k5,k6,k7,k8,k9,k10,k11,k12,k13,k14,k15,k16,k17,k18,k19,k20⟩):=by kernel_rfl
theorem wpList_build' {P:Program} {ops:Array Oper} {rest:List Oper} {o:Oper} {a:Act} {w:World} {Q:Exit→Act→World→Prop} (hg:o.guard=none) (t:TypeId) (parts:Array (Nat × Operand)) (ho:o.op=.build t parts)
  (vs:List (Nat × Value)) (hv:(parts.map fun (i,x)=>(i,a.eval x)).toList=vs) (cells:Array Value) (hf:P.built t vs=some cells) (h:wpList P ops Q rest (a.put o.dst (.agg cells)) w):wpList P ops Q (o::rest) a w :=
 wpList_build hg t parts ho (by rw[hv,hf];rfl) (by rw[hv,hf];exact h)
theorem cfg_size (c:Cfg):(Tryz.prog.info? 30).map (·.size)=some c.cells.size:=by
 have h:(Tryz.prog.info? 30).map (·.size)=some 20:=by kernel_rfl
 rw[h];rfl
theorem cfg_one (c:Cfg):c.cells.all (·.oneCell')=true:=by simp[Cfg.cells,Value.oneCell']
set_option maxHeartbeats 1000000 in
theorem default_any (w:World):Calls Tryz.prog 49 #[] w fun r w'=>r=.returned (.agg Cfg.deflt.cells)∧Below w.heap.size w w':=by
 have HZ:=Lib.hid (cfg_size Cfg.deflt)
 have H1:=Lib.hid (cfg_one Cfg.deflt)
 have HB:=Lib.hid (built_cfg 16 8 16 64 1024 8 128 32 4 64 2 5 4 4 6 4 2 2 1 4)
 go_enter Tryz.func49,Tryz.ntmps49
 go_step
 go_step
 go_step
 go_step
 go_step
 go_step
 go_step
 go_step
 go_step
 go_step
 go_step
 refine wpList_build' rfl 30 _ rfl [(0,.int .i64 16),(1,.int .i64 8),(2,.int .u64 16),(3,.int .u64 64),(4,.int .u64 1024),(5,.int .u64 8),(6,.int .u64 128),(7,.int .u64 32),(8,.int .u64 4),(9,.int .u64 64),(10,.int .i64 2),(11,.int .i64 5),(12,.int .i64 4),(13,.int .i64 4),(14,.int .i64 6),(15,.int .i64 4),(16,.int .i64 2),(17,.int .i64 2),(18,.int .u64 1),(19,.int .u64 4)] ?_ Cfg.deflt.cells HB.out ?_
 ·simp[Act.eval]
 refine wpList_store_row ?_ 30 (.tmp 0) (.tmp 1) ?_ w.heap.size Cfg.deflt.cells ?_ ?_ 30 ?old ?_ HZ.out ?_ H1.out ?_
 case old=>exact Cfg.cells ⟨0,0,0,0,0,0,0,0,0,0,0,0,0,0,0,0,0,0,0,0⟩
 ·rfl
 ·rfl
 ·rfl
 ·rfl
 ·exact heap_alloc_last w _
 ·rfl
 rw[World.setRow_alloc_new]
 go_wp2
 refine bodyPost_ret (v:=.agg Cfg.deflt.cells) (results_cell_row rfl _ _ w.heap.size 30 _ (0,0) _ rfl (heap_alloc_last w _) Tryz.underlying30 rfl HZ.out) rfl ⟨rfl,?_⟩
 exact(Below.refl _ _).alloc (Nat.le_refl _) _
end
section
open Go.RowKit
def bt (n lo hi:Int):Bool:=decide (lo≤n) && decide (n≤hi)
theorem ret_b {p q:Bool} (h:p=q):Ending.returned (.bool p)=.returned (.bool q):=by rw[h]
set_option maxHeartbeats 1000000 in
theorem between_any (n lo hi:Int) (w:World):Calls Tryz.prog 103 #[.int .i64 n,.int .i64 lo,.int .i64 hi] w fun r w'=>r=.returned (.bool (bt n lo hi))∧w=w':=by
 by_cases h:lo≤n
 ·have HI:Hid (bt n lo hi=decide (n≤hi)):=by simp[Hid,bt,h]
  have hd:decide (lo≤n)=true:=by simpa using h
  go_enter Tryz.func103,Tryz.ntmps103
  go_wp2
  go_ret
  exact⟨ret_b HI.out.symm,rfl⟩
 ·have HI:Hid (bt n lo hi=false):=by simp[Hid,bt,h]
  have hd:decide (lo≤n)=false:=by simpa using h
  go_enter Tryz.func103,Tryz.ntmps103
  go_wp2
  go_ret
  exact⟨ret_b HI.out.symm,rfl⟩
def fieldB (c:Cfg):Nat→Bool
 | 1=>bt c.capacity 1 4096
 | 2=>bt c.queueSize 1 4096
 | 3=>decide (1≤c.minDeposit)
 | 4=>decide (c.minDeposit≤c.maxDeposit)
 | 5=>decide (c.maxDeposit≤c.supplyCap) && decide (c.supplyCap≤1152921504606846976)
 | 6=>decide (1≤c.minBalance) && decide (c.minBalance≤c.minDeposit)
 | 7=>decide (c.maxDeposit≤c.maxBalance) && decide (c.maxBalance≤c.supplyCap)
 | 8=>decide (1≤c.minChurn) && decide (c.minChurn≤1152921504606846976)
 | 9=>decide (1≤c.quotient)
 | 10=>decide (c.forcedCap≤1152921504606846976)
 | 11=>bt c.unbonding 1 1048576
 | 12=>decide (c.unbonding<c.slashDelay) && decide (c.slashDelay≤1048576)
 | 13=>bt c.ringLen 1 4096
 | 14=>bt c.epochLen 1 4096
 | 15=>bt c.visits 1 4096
 | 16=>bt c.payments 1 4096
 | 17=>decide (0≤c.partials) && decide (c.partials<c.visits) && decide (c.partials<c.payments)
 | 18=>bt c.merges 0 4096
 | 19=>decide (c.penNum≤c.penDen)
 | 20=>decide (1≤c.penDen) && decide (c.penDen≤4294967296)
 | _=>true
theorem right_1 (c:Cfg) (w:World):Calls Tryz.prog 48 #[.agg c.cells,.int .i64 1] w fun r w'=>r=.returned (.bool (fieldB c 1))∧Below w.heap.size w w':=by
 have HI:Hid (fieldB c 1=bt c.capacity 1 4096):=rfl;obtain ⟨k1,k2,k3,k4,k5,k6,k7,k8,k9,k10,k11,k12,k13,k14,k15,k16,k17,k18,k19,k20⟩:=c;unfold Cfg.cells;(try simp only[] at *);go_enter Tryz.func48,Tryz.ntmps48;go_wp2_with (go_at_call 103;refine(between_any _ _ _ _).mono ?_;rintro r w1 ⟨rfl,rfl⟩);go_ret;exact⟨ret_b HI.out.symm,by(repeat (with_reducible first|exact Below.refl _ _|refine Below.drew ?_|refine Below.alloc ?_ (by first|omega|(simp<;>omega)) _))⟩
theorem right_2 (c:Cfg) (w:World):Calls Tryz.prog 48 #[.agg c.cells,.int .i64 2] w fun r w'=>r=.returned (.bool (fieldB c 2))∧Below w.heap.size w w':=by
 have HI:Hid (fieldB c 2=bt c.queueSize 1 4096):=rfl;obtain ⟨k1,k2,k3,k4,k5,k6,k7,k8,k9,k10,k11,k12,k13,k14,k15,k16,k17,k18,k19,k20⟩:=c;unfold Cfg.cells;(try simp only[] at *);go_enter Tryz.func48,Tryz.ntmps48;go_wp2_with (go_at_call 103;refine(between_any _ _ _ _).mono ?_;rintro r w1 ⟨rfl,rfl⟩);go_ret;exact⟨ret_b HI.out.symm,by(repeat (with_reducible first|exact Below.refl _ _|refine Below.drew ?_|refine Below.alloc ?_ (by first|omega|(simp<;>omega)) _))⟩
theorem right_3 (c:Cfg) (w:World):Calls Tryz.prog 48 #[.agg c.cells,.int .i64 3] w fun r w'=>r=.returned (.bool (fieldB c 3))∧Below w.heap.size w w':=by
 have HI:Hid (fieldB c 3=decide (1≤c.minDeposit)):=rfl;obtain ⟨k1,k2,k3,k4,k5,k6,k7,k8,k9,k10,k11,k12,k13,k14,k15,k16,k17,k18,k19,k20⟩:=c;unfold Cfg.cells;(try simp only[] at *);go_enter Tryz.func48,Tryz.ntmps48;go_wp2_with (go_at_call 103;refine(between_any _ _ _ _).mono ?_;rintro r w1 ⟨rfl,rfl⟩);go_ret;exact⟨ret_b HI.out.symm,by(repeat (with_reducible first|exact Below.refl _ _|refine Below.drew ?_|refine Below.alloc ?_ (by first|omega|(simp<;>omega)) _))⟩
theorem right_4 (c:Cfg) (w:World):Calls Tryz.prog 48 #[.agg c.cells,.int .i64 4] w fun r w'=>r=.returned (.bool (fieldB c 4))∧Below w.heap.size w w':=by
 have HI:Hid (fieldB c 4=decide (c.minDeposit≤c.maxDeposit)):=rfl;obtain ⟨k1,k2,k3,k4,k5,k6,k7,k8,k9,k10,k11,k12,k13,k14,k15,k16,k17,k18,k19,k20⟩:=c;unfold Cfg.cells;(try simp only[] at *);go_enter Tryz.func48,Tryz.ntmps48;go_wp2_with (go_at_call 103;refine(between_any _ _ _ _).mono ?_;rintro r w1 ⟨rfl,rfl⟩);go_ret;exact⟨ret_b HI.out.symm,by(repeat (with_reducible first|exact Below.refl _ _|refine Below.drew ?_|refine Below.alloc ?_ (by first|omega|(simp<;>omega)) _))⟩
theorem right_5 (c:Cfg) (w:World):Calls Tryz.prog 48 #[.agg c.cells,.int .i64 5] w fun r w'=>r=.returned (.bool (fieldB c 5))∧Below w.heap.size w w':=by
 by_cases h:c.maxDeposit≤c.supplyCap;(focus (have HI:Hid (fieldB c 5=decide (c.supplyCap≤1152921504606846976)):=(by simp[Hid,fieldB,h]);have hd:decide (c.maxDeposit≤c.supplyCap)=true:=(by simpa using h);clear h;obtain ⟨k1,k2,k3,k4,k5,k6,k7,k8,k9,k10,k11,k12,k13,k14,k15,k16,k17,k18,k19,k20⟩:=c;unfold Cfg.cells;(try simp only[] at *);go_enter Tryz.func48,Tryz.ntmps48;go_wp2_with (go_at_call 103;refine(between_any _ _ _ _).mono ?_;rintro r w1 ⟨rfl,rfl⟩);go_ret;exact⟨ret_b HI.out.symm,by(repeat (with_reducible first|exact Below.refl _ _|refine Below.drew ?_|refine Below.alloc ?_ (by first|omega|(simp<;>omega)) _))⟩));(focus (have HI:Hid (fieldB c 5=false):=(by simp[Hid,fieldB,h]);have hd:decide (c.maxDeposit≤c.supplyCap)=false:=(by simpa using h);clear h;obtain ⟨k1,k2,k3,k4,k5,k6,k7,k8,k9,k10,k11,k12,k13,k14,k15,k16,k17,k18,k19,k20⟩:=c;unfold Cfg.cells;(try simp only[] at *);go_enter Tryz.func48,Tryz.ntmps48;go_wp2_with (go_at_call 103;refine(between_any _ _ _ _).mono ?_;rintro r w1 ⟨rfl,rfl⟩);go_ret;exact⟨ret_b HI.out.symm,by(repeat (with_reducible first|exact Below.refl _ _|refine Below.drew ?_|refine Below.alloc ?_ (by first|omega|(simp<;>omega)) _))⟩))
theorem right_6 (c:Cfg) (w:World):Calls Tryz.prog 48 #[.agg c.cells,.int .i64 6] w fun r w'=>r=.returned (.bool (fieldB c 6))∧Below w.heap.size w w':=by
 by_cases h:1≤c.minBalance;(focus (have HI:Hid (fieldB c 6=decide (c.minBalance≤c.minDeposit)):=(by simp[Hid,fieldB,h]);have hd:decide (1≤c.minBalance)=true:=(by simpa using h);clear h;obtain ⟨k1,k2,k3,k4,k5,k6,k7,k8,k9,k10,k11,k12,k13,k14,k15,k16,k17,k18,k19,k20⟩:=c;unfold Cfg.cells;(try simp only[] at *);go_enter Tryz.func48,Tryz.ntmps48;go_wp2_with (go_at_call 103;refine(between_any _ _ _ _).mono ?_;rintro r w1 ⟨rfl,rfl⟩);go_ret;exact⟨ret_b HI.out.symm,by(repeat (with_reducible first|exact Below.refl _ _|refine Below.drew ?_|refine Below.alloc ?_ (by first|omega|(simp<;>omega)) _))⟩));(focus (have HI:Hid (fieldB c 6=false):=(by simp[Hid,fieldB,h]);have hd:decide (1≤c.minBalance)=false:=(by simpa using h);clear h;obtain ⟨k1,k2,k3,k4,k5,k6,k7,k8,k9,k10,k11,k12,k13,k14,k15,k16,k17,k18,k19,k20⟩:=c;unfold Cfg.cells;(try simp only[] at *);go_enter Tryz.func48,Tryz.ntmps48;go_wp2_with (go_at_call 103;refine(between_any _ _ _ _).mono ?_;rintro r w1 ⟨rfl,rfl⟩);go_ret;exact⟨ret_b HI.out.symm,by(repeat (with_reducible first|exact Below.refl _ _|refine Below.drew ?_|refine Below.alloc ?_ (by first|omega|(simp<;>omega)) _))⟩))
theorem right_7 (c:Cfg) (w:World):Calls Tryz.prog 48 #[.agg c.cells,.int .i64 7] w fun r w'=>r=.returned (.bool (fieldB c 7))∧Below w.heap.size w w':=by
 by_cases h:c.maxDeposit≤c.maxBalance;(focus (have HI:Hid (fieldB c 7=decide (c.maxBalance≤c.supplyCap)):=(by simp[Hid,fieldB,h]);have hd:decide (c.maxDeposit≤c.maxBalance)=true:=(by simpa using h);clear h;obtain ⟨k1,k2,k3,k4,k5,k6,k7,k8,k9,k10,k11,k12,k13,k14,k15,k16,k17,k18,k19,k20⟩:=c;unfold Cfg.cells;(try simp only[] at *);go_enter Tryz.func48,Tryz.ntmps48;go_wp2_with (go_at_call 103;refine(between_any _ _ _ _).mono ?_;rintro r w1 ⟨rfl,rfl⟩);go_ret;exact⟨ret_b HI.out.symm,by(repeat (with_reducible first|exact Below.refl _ _|refine Below.drew ?_|refine Below.alloc ?_ (by first|omega|(simp<;>omega)) _))⟩));(focus (have HI:Hid (fieldB c 7=false):=(by simp[Hid,fieldB,h]);have hd:decide (c.maxDeposit≤c.maxBalance)=false:=(by simpa using h);clear h;obtain ⟨k1,k2,k3,k4,k5,k6,k7,k8,k9,k10,k11,k12,k13,k14,k15,k16,k17,k18,k19,k20⟩:=c;unfold Cfg.cells;(try simp only[] at *);go_enter Tryz.func48,Tryz.ntmps48;go_wp2_with (go_at_call 103;refine(between_any _ _ _ _).mono ?_;rintro r w1 ⟨rfl,rfl⟩);go_ret;exact⟨ret_b HI.out.symm,by(repeat (with_reducible first|exact Below.refl _ _|refine Below.drew ?_|refine Below.alloc ?_ (by first|omega|(simp<;>omega)) _))⟩))
theorem right_8 (c:Cfg) (w:World):Calls Tryz.prog 48 #[.agg c.cells,.int .i64 8] w fun r w'=>r=.returned (.bool (fieldB c 8))∧Below w.heap.size w w':=by
 by_cases h:1≤c.minChurn;(focus (have HI:Hid (fieldB c 8=decide (c.minChurn≤1152921504606846976)):=(by simp[Hid,fieldB,h]);have hd:decide (1≤c.minChurn)=true:=(by simpa using h);clear h;obtain ⟨k1,k2,k3,k4,k5,k6,k7,k8,k9,k10,k11,k12,k13,k14,k15,k16,k17,k18,k19,k20⟩:=c;unfold Cfg.cells;(try simp only[] at *);go_enter Tryz.func48,Tryz.ntmps48;go_wp2_with (go_at_call 103;refine(between_any _ _ _ _).mono ?_;rintro r w1 ⟨rfl,rfl⟩);go_ret;exact⟨ret_b HI.out.symm,by(repeat (with_reducible first|exact Below.refl _ _|refine Below.drew ?_|refine Below.alloc ?_ (by first|omega|(simp<;>omega)) _))⟩));(focus (have HI:Hid (fieldB c 8=false):=(by simp[Hid,fieldB,h]);have hd:decide (1≤c.minChurn)=false:=(by simpa using h);clear h;obtain ⟨k1,k2,k3,k4,k5,k6,k7,k8,k9,k10,k11,k12,k13,k14,k15,k16,k17,k18,k19,k20⟩:=c;unfold Cfg.cells;(try simp only[] at *);go_enter Tryz.func48,Tryz.ntmps48;go_wp2_with (go_at_call 103;refine(between_any _ _ _ _).mono ?_;rintro r w1 ⟨rfl,rfl⟩);go_ret;exact⟨ret_b HI.out.symm,by(repeat (with_reducible first|exact Below.refl _ _|refine Below.drew ?_|refine Below.alloc ?_ (by first|omega|(simp<;>omega)) _))⟩))
theorem right_9 (c:Cfg) (w:World):Calls Tryz.prog 48 #[.agg c.cells,.int .i64 9] w fun r w'=>r=.returned (.bool (fieldB c 9))∧Below w.heap.size w w':=by
 have HI:Hid (fieldB c 9=decide (1≤c.quotient)):=rfl;obtain ⟨k1,k2,k3,k4,k5,k6,k7,k8,k9,k10,k11,k12,k13,k14,k15,k16,k17,k18,k19,k20⟩:=c;unfold Cfg.cells;(try simp only[] at *);go_enter Tryz.func48,Tryz.ntmps48;go_wp2_with (go_at_call 103;refine(between_any _ _ _ _).mono ?_;rintro r w1 ⟨rfl,rfl⟩);go_ret;exact⟨ret_b HI.out.symm,by(repeat (with_reducible first|exact Below.refl _ _|refine Below.drew ?_|refine Below.alloc ?_ (by first|omega|(simp<;>omega)) _))⟩
theorem right_10 (c:Cfg) (w:World):Calls Tryz.prog 48 #[.agg c.cells,.int .i64 10] w fun r w'=>r=.returned (.bool (fieldB c 10))∧Below w.heap.size w w':=by
 have HI:Hid (fieldB c 10=decide (c.forcedCap≤1152921504606846976)):=rfl;obtain ⟨k1,k2,k3,k4,k5,k6,k7,k8,k9,k10,k11,k12,k13,k14,k15,k16,k17,k18,k19,k20⟩:=c;unfold Cfg.cells;(try simp only[] at *);go_enter Tryz.func48,Tryz.ntmps48;go_wp2_with (go_at_call 103;refine(between_any _ _ _ _).mono ?_;rintro r w1 ⟨rfl,rfl⟩);go_ret;exact⟨ret_b HI.out.symm,by(repeat (with_reducible first|exact Below.refl _ _|refine Below.drew ?_|refine Below.alloc ?_ (by first|omega|(simp<;>omega)) _))⟩
theorem right_11 (c:Cfg) (w:World):Calls Tryz.prog 48 #[.agg c.cells,.int .i64 11] w fun r w'=>r=.returned (.bool (fieldB c 11))∧Below w.heap.size w w':=by
 have HI:Hid (fieldB c 11=bt c.unbonding 1 1048576):=rfl;obtain ⟨k1,k2,k3,k4,k5,k6,k7,k8,k9,k10,k11,k12,k13,k14,k15,k16,k17,k18,k19,k20⟩:=c;unfold Cfg.cells;(try simp only[] at *);go_enter Tryz.func48,Tryz.ntmps48;go_wp2_with (go_at_call 103;refine(between_any _ _ _ _).mono ?_;rintro r w1 ⟨rfl,rfl⟩);go_ret;exact⟨ret_b HI.out.symm,by(repeat (with_reducible first|exact Below.refl _ _|refine Below.drew ?_|refine Below.alloc ?_ (by first|omega|(simp<;>omega)) _))⟩
theorem right_12 (c:Cfg) (w:World):Calls Tryz.prog 48 #[.agg c.cells,.int .i64 12] w fun r w'=>r=.returned (.bool (fieldB c 12))∧Below w.heap.size w w':=by
 by_cases h:c.unbonding<c.slashDelay;(focus (have HI:Hid (fieldB c 12=decide (c.slashDelay≤1048576)):=(by simp[Hid,fieldB,h]);have hd:decide (c.unbonding<c.slashDelay)=true:=(by simpa using h);clear h;obtain ⟨k1,k2,k3,k4,k5,k6,k7,k8,k9,k10,k11,k12,k13,k14,k15,k16,k17,k18,k19,k20⟩:=c;unfold Cfg.cells;(try simp only[] at *);go_enter Tryz.func48,Tryz.ntmps48;go_wp2_with (go_at_call 103;refine(between_any _ _ _ _).mono ?_;rintro r w1 ⟨rfl,rfl⟩);go_ret;exact⟨ret_b HI.out.symm,by(repeat (with_reducible first|exact Below.refl _ _|refine Below.drew ?_|refine Below.alloc ?_ (by first|omega|(simp<;>omega)) _))⟩));(focus (have HI:Hid (fieldB c 12=false):=(by simp[Hid,fieldB,h]);have hd:decide (c.unbonding<c.slashDelay)=false:=(by simpa using h);clear h;obtain ⟨k1,k2,k3,k4,k5,k6,k7,k8,k9,k10,k11,k12,k13,k14,k15,k16,k17,k18,k19,k20⟩:=c;unfold Cfg.cells;(try simp only[] at *);go_enter Tryz.func48,Tryz.ntmps48;go_wp2_with (go_at_call 103;refine(between_any _ _ _ _).mono ?_;rintro r w1 ⟨rfl,rfl⟩);go_ret;exact⟨ret_b HI.out.symm,by(repeat (with_reducible first|exact Below.refl _ _|refine Below.drew ?_|refine Below.alloc ?_ (by first|omega|(simp<;>omega)) _))⟩))
theorem right_13 (c:Cfg) (w:World):Calls Tryz.prog 48 #[.agg c.cells,.int .i64 13] w fun r w'=>r=.returned (.bool (fieldB c 13))∧Below w.heap.size w w':=by
 have HI:Hid (fieldB c 13=bt c.ringLen 1 4096):=rfl;obtain ⟨k1,k2,k3,k4,k5,k6,k7,k8,k9,k10,k11,k12,k13,k14,k15,k16,k17,k18,k19,k20⟩:=c;unfold Cfg.cells;(try simp only[] at *);go_enter Tryz.func48,Tryz.ntmps48;go_wp2_with (go_at_call 103;refine(between_any _ _ _ _).mono ?_;rintro r w1 ⟨rfl,rfl⟩);go_ret;exact⟨ret_b HI.out.symm,by(repeat (with_reducible first|exact Below.refl _ _|refine Below.drew ?_|refine Below.alloc ?_ (by first|omega|(simp<;>omega)) _))⟩
theorem right_14 (c:Cfg) (w:World):Calls Tryz.prog 48 #[.agg c.cells,.int .i64 14] w fun r w'=>r=.returned (.bool (fieldB c 14))∧Below w.heap.size w w':=by
 have HI:Hid (fieldB c 14=bt c.epochLen 1 4096):=rfl;obtain ⟨k1,k2,k3,k4,k5,k6,k7,k8,k9,k10,k11,k12,k13,k14,k15,k16,k17,k18,k19,k20⟩:=c;unfold Cfg.cells;(try simp only[] at *);go_enter Tryz.func48,Tryz.ntmps48;go_wp2_with (go_at_call 103;refine(between_any _ _ _ _).mono ?_;rintro r w1 ⟨rfl,rfl⟩);go_ret;exact⟨ret_b HI.out.symm,by(repeat (with_reducible first|exact Below.refl _ _|refine Below.drew ?_|refine Below.alloc ?_ (by first|omega|(simp<;>omega)) _))⟩
theorem right_15 (c:Cfg) (w:World):Calls Tryz.prog 48 #[.agg c.cells,.int .i64 15] w fun r w'=>r=.returned (.bool (fieldB c 15))∧Below w.heap.size w w':=by
 have HI:Hid (fieldB c 15=bt c.visits 1 4096):=rfl;obtain ⟨k1,k2,k3,k4,k5,k6,k7,k8,k9,k10,k11,k12,k13,k14,k15,k16,k17,k18,k19,k20⟩:=c;unfold Cfg.cells;(try simp only[] at *);go_enter Tryz.func48,Tryz.ntmps48;go_wp2_with (go_at_call 103;refine(between_any _ _ _ _).mono ?_;rintro r w1 ⟨rfl,rfl⟩);go_ret;exact⟨ret_b HI.out.symm,by(repeat (with_reducible first|exact Below.refl _ _|refine Below.drew ?_|refine Below.alloc ?_ (by first|omega|(simp<;>omega)) _))⟩
theorem right_16 (c:Cfg) (w:World):Calls Tryz.prog 48 #[.agg c.cells,.int .i64 16] w fun r w'=>r=.returned (.bool (fieldB c 16))∧Below w.heap.size w w':=by
 have HI:Hid (fieldB c 16=bt c.payments 1 4096):=rfl;obtain ⟨k1,k2,k3,k4,k5,k6,k7,k8,k9,k10,k11,k12,k13,k14,k15,k16,k17,k18,k19,k20⟩:=c;unfold Cfg.cells;(try simp only[] at *);go_enter Tryz.func48,Tryz.ntmps48;go_wp2_with (go_at_call 103;refine(between_any _ _ _ _).mono ?_;rintro r w1 ⟨rfl,rfl⟩);go_ret;exact⟨ret_b HI.out.symm,by(repeat (with_reducible first|exact Below.refl _ _|refine Below.drew ?_|refine Below.alloc ?_ (by first|omega|(simp<;>omega)) _))⟩
theorem right_18 (c:Cfg) (w:World):Calls Tryz.prog 48 #[.agg c.cells,.int .i64 18] w fun r w'=>r=.returned (.bool (fieldB c 18))∧Below w.heap.size w w':=by
 have HI:Hid (fieldB c 18=bt c.merges 0 4096):=rfl;obtain ⟨k1,k2,k3,k4,k5,k6,k7,k8,k9,k10,k11,k12,k13,k14,k15,k16,k17,k18,k19,k20⟩:=c;unfold Cfg.cells;(try simp only[] at *);go_enter Tryz.func48,Tryz.ntmps48;go_wp2_with (go_at_call 103;refine(between_any _ _ _ _).mono ?_;rintro r w1 ⟨rfl,rfl⟩);go_ret;exact⟨ret_b HI.out.symm,by(repeat (with_reducible first|exact Below.refl _ _|refine Below.drew ?_|refine Below.alloc ?_ (by first|omega|(simp<;>omega)) _))⟩
theorem right_19 (c:Cfg) (w:World):Calls Tryz.prog 48 #[.agg c.cells,.int .i64 19] w fun r w'=>r=.returned (.bool (fieldB c 19))∧Below w.heap.size w w':=by
 have HI:Hid (fieldB c 19=decide (c.penNum≤c.penDen)):=rfl;obtain ⟨k1,k2,k3,k4,k5,k6,k7,k8,k9,k10,k11,k12,k13,k14,k15,k16,k17,k18,k19,k20⟩:=c;unfold Cfg.cells;(try simp only[] at *);go_enter Tryz.func48,Tryz.ntmps48;go_wp2_with (go_at_call 103;refine(between_any _ _ _ _).mono ?_;rintro r w1 ⟨rfl,rfl⟩);go_ret;exact⟨ret_b HI.out.symm,by(repeat (with_reducible first|exact Below.refl _ _|refine Below.drew ?_|refine Below.alloc ?_ (by first|omega|(simp<;>omega)) _))⟩
theorem right_20 (c:Cfg) (w:World):Calls Tryz.prog 48 #[.agg c.cells,.int .i64 20] w fun r w'=>r=.returned (.bool (fieldB c 20))∧Below w.heap.size w w':=by
 by_cases h:1≤c.penDen;(focus (have HI:Hid (fieldB c 20=decide (c.penDen≤4294967296)):=(by simp[Hid,fieldB,h]);have hd:decide (1≤c.penDen)=true:=(by simpa using h);clear h;obtain ⟨k1,k2,k3,k4,k5,k6,k7,k8,k9,k10,k11,k12,k13,k14,k15,k16,k17,k18,k19,k20⟩:=c;unfold Cfg.cells;(try simp only[] at *);go_enter Tryz.func48,Tryz.ntmps48;go_wp2_with (go_at_call 103;refine(between_any _ _ _ _).mono ?_;rintro r w1 ⟨rfl,rfl⟩);go_ret;exact⟨ret_b HI.out.symm,by(repeat (with_reducible first|exact Below.refl _ _|refine Below.drew ?_|refine Below.alloc ?_ (by first|omega|(simp<;>omega)) _))⟩));(focus (have HI:Hid (fieldB c 20=false):=(by simp[Hid,fieldB,h]);have hd:decide (1≤c.penDen)=false:=(by simpa using h);clear h;obtain ⟨k1,k2,k3,k4,k5,k6,k7,k8,k9,k10,k11,k12,k13,k14,k15,k16,k17,k18,k19,k20⟩:=c;unfold Cfg.cells;(try simp only[] at *);go_enter Tryz.func48,Tryz.ntmps48;go_wp2_with (go_at_call 103;refine(between_any _ _ _ _).mono ?_;rintro r w1 ⟨rfl,rfl⟩);go_ret;exact⟨ret_b HI.out.symm,by(repeat (with_reducible first|exact Below.refl _ _|refine Below.drew ?_|refine Below.alloc ?_ (by first|omega|(simp<;>omega)) _))⟩))
theorem right_17 (c:Cfg) (w:World):Calls Tryz.prog 48 #[.agg c.cells,.int .i64 17] w fun r w'=>r=.returned (.bool (fieldB c 17))∧Below w.heap.size w w':=by
 by_cases h:0≤c.partials
 ·by_cases h2:c.partials<c.visits
  ·have HI:Hid (fieldB c 17=decide (c.partials<c.payments)):=by simp[Hid,fieldB,h,h2]
   have hd:decide (0≤c.partials)=true:=by simpa using h
   have hd2:decide (c.partials<c.visits)=true:=by simpa using h2
   clear h h2
   obtain ⟨k1,k2,k3,k4,k5,k6,k7,k8,k9,k10,k11,k12,k13,k14,k15,k16,k17,k18,k19,k20⟩:=c;unfold Cfg.cells;(try simp only[] at *);go_enter Tryz.func48,Tryz.ntmps48;go_wp2_with (go_at_call 103;refine(between_any _ _ _ _).mono ?_;rintro r w1 ⟨rfl,rfl⟩)
   go_ret;exact⟨ret_b HI.out.symm,by(repeat (with_reducible first|exact Below.refl _ _|refine Below.drew ?_|refine Below.alloc ?_ (by first|omega|(simp<;>omega)) _))⟩
  ·have HI:Hid (fieldB c 17=false):=by simp[Hid,fieldB,h,h2]
   have hd:decide (0≤c.partials)=true:=by simpa using h
   have hd2:decide (c.partials<c.visits)=false:=by simpa using h2
   clear h h2
   obtain ⟨k1,k2,k3,k4,k5,k6,k7,k8,k9,k10,k11,k12,k13,k14,k15,k16,k17,k18,k19,k20⟩:=c;unfold Cfg.cells;(try simp only[] at *);go_enter Tryz.func48,Tryz.ntmps48;go_wp2_with (go_at_call 103;refine(between_any _ _ _ _).mono ?_;rintro r w1 ⟨rfl,rfl⟩)
   go_ret;exact⟨ret_b HI.out.symm,by(repeat (with_reducible first|exact Below.refl _ _|refine Below.drew ?_|refine Below.alloc ?_ (by first|omega|(simp<;>omega)) _))⟩
 ·have HI:Hid (fieldB c 17=false):=by simp[Hid,fieldB,h]
  have hd:decide (0≤c.partials)=false:=by simpa using h
  clear h
  obtain ⟨k1,k2,k3,k4,k5,k6,k7,k8,k9,k10,k11,k12,k13,k14,k15,k16,k17,k18,k19,k20⟩:=c;unfold Cfg.cells;(try simp only[] at *);go_enter Tryz.func48,Tryz.ntmps48;go_wp2_with (go_at_call 103;refine(between_any _ _ _ _).mono ?_;rintro r w1 ⟨rfl,rfl⟩)
  go_ret;exact⟨ret_b HI.out.symm,by(repeat (with_reducible first|exact Below.refl _ _|refine Below.drew ?_|refine Below.alloc ?_ (by first|omega|(simp<;>omega)) _))⟩
theorem right_any (c:Cfg) (i:Nat) (h1:1≤i) (h2:i≤20) (w:World):Calls Tryz.prog 48 #[.agg c.cells,.int .i64 i] w fun r w'=>r=.returned (.bool (fieldB c i))∧Below w.heap.size w w':=by
 have h:i=1∨i=2∨i=3∨i=4∨i=5∨i=6∨i=7∨i=8∨i=9∨i=10∨i=11∨i=12∨i=13∨i=14∨i=15∨i=16∨i=17∨i=18∨i=19∨i=20:=by omega
 rcases h with rfl|rfl|rfl|rfl|rfl|rfl|rfl|rfl|rfl|rfl|rfl|rfl|rfl|rfl|rfl|rfl|rfl|rfl|rfl|rfl
 ·rw[show((1:Nat):Int)=1 from rfl];exact right_1 c w
 ·rw[show((2:Nat):Int)=2 from rfl];exact right_2 c w
 ·rw[show((3:Nat):Int)=3 from rfl];exact right_3 c w
 ·rw[show((4:Nat):Int)=4 from rfl];exact right_4 c w
 ·rw[show((5:Nat):Int)=5 from rfl];exact right_5 c w
 ·rw[show((6:Nat):Int)=6 from rfl];exact right_6 c w
 ·rw[show((7:Nat):Int)=7 from rfl];exact right_7 c w
 ·rw[show((8:Nat):Int)=8 from rfl];exact right_8 c w
 ·rw[show((9:Nat):Int)=9 from rfl];exact right_9 c w
 ·rw[show((10:Nat):Int)=10 from rfl];exact right_10 c w
 ·rw[show((11:Nat):Int)=11 from rfl];exact right_11 c w
 ·rw[show((12:Nat):Int)=12 from rfl];exact right_12 c w
 ·rw[show((13:Nat):Int)=13 from rfl];exact right_13 c w
 ·rw[show((14:Nat):Int)=14 from rfl];exact right_14 c w
 ·rw[show((15:Nat):Int)=15 from rfl];exact right_15 c w
 ·rw[show((16:Nat):Int)=16 from rfl];exact right_16 c w
 ·rw[show((17:Nat):Int)=17 from rfl];exact right_17 c w
 ·rw[show((18:Nat):Int)=18 from rfl];exact right_18 c w
 ·rw[show((19:Nat):Int)=19 from rfl];exact right_19 c w
 ·rw[show((20:Nat):Int)=20 from rfl];exact right_20 c w
def checkGo (c:Cfg):Nat→Nat→Nat
 | 0,_=>0
 | n+1,i=>if fieldB c i then checkGo c n (i+1) else i
def checkF (c:Cfg):Nat:=checkGo c 20 1
theorem ret_i {k:IntKind} {x y:Int} (h:x=y):Ending.returned (.int k x)=.returned (.int k y):=by rw[h]
theorem checkF_zero {c:Cfg} (h:checkF c=0):∀ i,1≤i→i≤20→fieldB c i=true:=by
 have key:∀ n i,checkGo c n i=0→1≤i→∀ j,i≤j→j<i+n→fieldB c j=true:=by
  intro n
  induction n with
  | zero=>intro i _ _ j h1 h2;omega
  | succ n ih =>
   intro i hi h0 j h1 h2
   rw[checkGo] at hi
   by_cases hf:fieldB c i=true
   ·rw[if_pos hf] at hi
    by_cases hj:j=i
    ·rw[hj];exact hf
    ·exact ih (i+1) hi (by omega) j (by omega) (by omega)
   ·rw[if_neg hf] at hi;omega
 intro i h1 h2
 exact key 20 1 h (by omega) i h1 (by omega)
set_option maxHeartbeats 1000000 in
theorem rCheck_any (c:Cfg) (w:World):Calls Tryz.prog 16 #[.agg c.cells] w fun r w'=>r=.returned (.int .i64 (checkF c))∧Below w.heap.size w w':=by
 have HR:=Lib.hid (fun i h1 h2 w=>right_any c i h1 h2 w)
 have hs:checkF c=checkGo c (21 - 1) 1:=rfl
 have hb:=BlockIs.new w c.cells 30
 have HS:=Lib.hid hs
 have HB:=Lib.hid hb
 have HZ:=Lib.hid (cfg_size c)
 clear hs hb
 have HCG:∀ n k,n+1=21 - k→checkGo c (21 - k) k=if fieldB c k then checkGo c n (k+1) else k:=fun n k h=>by rw[← h];rfl
 have HCH:=Lib.hid HCG
 clear HCG
 generalize checkF c=R at *
 generalize c.cells=cs at *
 go_enter Tryz.func16,Tryz.ntmps16
 go_wp2
 go_loopw [3] (fun i wr=>∃ k:Nat,1≤k∧k≤21∧i=.int .i64 k∧Hid (R=checkGo c (21 - k) k)∧Hid (BlockIs wr w.heap.size cs 30)∧Below w.heap.size w wr) (fun i _=>(21 - intOf i).toNat)
 case atStart=>exact⟨1,by omega,by omega,rfl,HS,HB,by(repeat (with_reducible first|exact Below.refl _ _|refine Below.drew ?_|refine Below.alloc ?_ (by first|omega|(simp<;>omega)) _))⟩
 case round =>
  obtain ⟨k,hk1,hk2,rfl,HK,HW,hbel⟩:=hrel
  clear HS HB
  by_cases hlt:k≤20
  ·go_wp2_with (first|(go_at_call 48;fail)|((with_reducible refine wpList_load_row ?_ 30 (.tmp 1) ?_ w.heap.size ?_ 30 cs (0,0) _ ?_ Tryz.underlying30 rfl HZ.out ?_);(focus rfl);(focus rfl);(focus rfl);(focus exact HW.out)))
   refine(HR.out k hk1 hlt _).mono ?_
   rintro r w1 ⟨rfl,hb1⟩
   have HW1:Hid (BlockIs w1 w.heap.size cs 30):=Lib.hid (HW.out.below hb1 HW.out.lt)
   have hbel1:Below w.heap.size w w1:=hbel.trans (hb1.mono hbel.size)
   have HE:=HCH.out (21 - (k+1)) k (by omega)
   by_cases hf:fieldB c k=true
   ·have HN:Hid (R=checkGo c (21 - (k+1)) (k+1)):=by
     have h1:=HK.out
     rw[HE,if_pos hf] at h1
     exact h1
    rw[hf]
    clear HK HE hf
    go_wp2
    go_roundw
    case rel=>exact⟨k+1,by omega,by omega,by go_num,HN,HW1,hbel1⟩
    case measure=>simp[intOf]<;>omega
   ·have HN:Hid (R=k):=by
     have h1:=HK.out
     rw[HE,if_neg hf] at h1
     exact h1
    have hf':fieldB c k=false:=by simpa using hf
    rw[hf']
    clear HK HE hf hf'
    go_wp2
    go_ret
    exact⟨ret_i (by rw[HN.out]),hbel1⟩
  ·have HN:Hid (R=0):=by
    have h1:=HK.out
    rw[show 21 - k=0 by omega] at h1
    exact h1
   clear HK
   go_wp2
   go_ret
   exact⟨ret_i (by rw[HN.out];rfl),hbel⟩
end
end Go.Proofs.YtopbohbkhljjgaaGreat
