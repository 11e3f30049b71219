import Derived.Test.YtjbfcacmdahnhaaGreatZrm
set_option linter.unusedVariables false
set_option linter.unusedSimpArgs false
set_option linter.unusedSectionVars false
set_option maxRecDepth 100000
set_option maxHeartbeats 8000000
namespace Go.Proofs.YtjbfcacmdahnhaaGreat
section
open Go.RowKit
section
variable (v:Val) (e:Int) (h0:0≤e) (hs:(Lit.int .i64 v.st).wf=true) (R:List Asn)
include h0
variable (c:Cfg)
section
variable (hb:U64 v.bal) (hd:0≤c.slashDelay) (h1:e+c.slashDelay≤1099511627776) (hn:0≤c.penNum∧c.penNum≤c.penDen) (hd2:1≤c.penDen∧c.penDen≤4294967296)
include hb hd h1 hn hd2
theorem pn_mul:penF v.bal c.penNum c.penDen=mulF v.bal c.penNum c.penDen∧mulB v.bal c.penNum c.penDen=true∧0≤mulF v.bal c.penNum c.penDen∧mulF v.bal c.penNum c.penDen≤v.bal:=by
 have h2:v.bal*c.penNum≤v.bal*c.penDen:=Int.mul_le_mul_of_nonneg_left hn.2 hb.1
 have h4:v.bal*c.penDen≤18446744073709551615*c.penDen:=Int.mul_le_mul_of_nonneg_right hb.2 (by omega)
 have h3:v.bal*c.penNum<c.penDen*18446744073709551616:=by omega
 refine⟨by unfold penF;rw[if_neg (by omega)],by simp[mulB,h3],?_⟩
 unfold mulF
 rw[if_pos h3]
 constructor
 ·exact Int.ediv_nonneg (Int.mul_nonneg hb.1 hn.1) (by omega)
 ·have h5:v.bal*c.penNum / c.penDen≤v.bal*c.penDen / c.penDen:=Int.ediv_le_ediv (by omega) h2
  rwa [Int.mul_ediv_cancel v.bal (by omega)] at h5
theorem rsla_spec:Spec 148 [valV v,.int .i64 e,cfgV c] R fun u L'=>u=.tuple [valV (slaR v e c.slashDelay c.penNum c.penDen).2.1,.int .u64 (slaR v e c.slashDelay c.penNum c.penDen).2.2,.int .i64 (slaR v e c.slashDelay c.penNum c.penDen).1].toArray∧L'=R:=by
 obtain ⟨p1,p2,p3,p4⟩:=pn_mul v e h0 c hb hd h1 hn hd2
 have hm:=fun R=>rmdv_spec R hb (show U64 c.penNum from ⟨by omega,by omega⟩) (show U64 c.penDen from ⟨by omega,by omega⟩)
 rw[p2] at hm
 unfold slaR
 rw[p1]
 have hmx:(if e+c.slashDelay>v.wd then e+c.slashDelay else v.wd)=max v.wd (e+c.slashDelay):=by split<;>omega
 rw[← hmx]
 generalize mulF v.bal c.penNum c.penDen=P at *
 have hb1:=hb.1;have hb2:=hb.2
 obtain ⟨bal,st,sl,rq,ex,wd,dl⟩:=v
 simp only at hm p3 p4 hmx hb1 hb2 ⊢
 clear hmx
 by_cases hs:sl=true
 ·subst hs
  have il:IL 0:=⟨trivial⟩
  refine zGz zk148 Tryz.func148 ?_;intro G;(repeat'(first|refine zA ?_;repeat intro nb|refine zC ?_;refine kpW (k:=294) (hm _) ?_|refine zB ?_ ?_<;>intro hc<;>try exact no hc|refine zH ?_ ?_<;>(intro hg;rw[hg];try exact no hg)));all_goals exact zXz
 obtain rfl:sl=false:=by simpa using hs
 by_cases h4:st=2∨st=3∨st=4∨st=5
 ·rcases h4 with rfl|rfl|rfl|rfl
  ·have il:IL 0:=⟨trivial⟩
   refine zGz zk148 Tryz.func148 ?_;intro G;(repeat'(first|refine zA ?_;repeat intro nb|refine zC ?_;refine kpW (k:=294) (hm _) ?_|refine zB ?_ ?_<;>intro hc<;>try exact no hc|refine zH ?_ ?_<;>(intro hg;rw[hg];try exact no hg)));all_goals exact zXz
  ·have il:IL 0:=⟨trivial⟩
   refine zGz zk148 Tryz.func148 ?_;intro G;(repeat'(first|refine zA ?_;repeat intro nb|refine zC ?_;refine kpW (k:=294) (hm _) ?_|refine zB ?_ ?_<;>intro hc<;>try exact no hc|refine zH ?_ ?_<;>(intro hg;rw[hg];try exact no hg)));all_goals exact zXz
  ·have il:IL 0:=⟨trivial⟩
   refine zGz zk148 Tryz.func148 ?_;intro G;(repeat'(first|refine zA ?_;repeat intro nb|refine zC ?_;refine kpW (k:=294) (hm _) ?_|refine zB ?_ ?_<;>intro hc<;>try exact no hc|refine zH ?_ ?_<;>(intro hg;rw[hg];try exact no hg)));all_goals exact zXz
  ·have il:IL 0:=⟨trivial⟩
   refine zGz zk148 Tryz.func148 ?_;intro G;(repeat'(first|refine zA ?_;repeat intro nb|refine zC ?_;refine kpW (k:=294) (hm _) ?_|refine zB ?_ ?_<;>intro hc<;>try exact no hc|refine zH ?_ ?_<;>(intro hg;rw[hg];try exact no hg)));all_goals exact zXz
 ·rw[if_neg h4]
  have il:IL 0:=⟨trivial⟩
  refine zGz zk148 Tryz.func148 ?_;intro G;(repeat'(first|refine zA ?_;repeat intro nb|refine zC ?_;refine kpW (k:=294) (hm _) ?_|refine zB ?_ ?_<;>intro hc<;>try exact no hc|refine zH ?_ ?_<;>(intro hg;rw[hg];try exact no hg)));all_goals try refine zO fun a w F M=>?_
  all_goals first|(exfalso;omega)|skip
  all_goals exact zX F M
include hs
theorem pnSla_spec:Spec 131 [valV v,.int .i64 e,cfgV c] R fun u L'=>u=.tuple [valV (slaR v e c.slashDelay c.penNum c.penDen).2.1,.int .u64 (slaR v e c.slashDelay c.penNum c.penDen).2.2,.int .i64 (slaR v e c.slashDelay c.penNum c.penDen).1].toArray∧L'=R:=by
 obtain ⟨p1,p2,p3,p4⟩:=pn_mul v e h0 c hb hd h1 hn hd2
 have hm:=fun R=>mdv_spec R hb (show U64 c.penNum from ⟨by omega,by omega⟩) (show U64 c.penDen from ⟨by omega,by omega⟩)
 rw[p2] at hm
 unfold slaR
 rw[p1]
 have hmx:(if 0+e+c.slashDelay>v.wd then 0+e+c.slashDelay else v.wd)=max v.wd (e+c.slashDelay):=by split<;>omega
 rw[← hmx]
 generalize mulF v.bal c.penNum c.penDen=P at *
 have hb1:=hb.1;have hb2:=hb.2
 obtain ⟨bal,st,sl,rq,ex,wd,dl⟩:=v
 simp only at hm p3 p4 hmx hs hb1 hb2 ⊢
 clear hmx
 by_cases hsl:sl=true
 ·subst hsl
  have il:IL 0:=⟨trivial⟩
  refine zGz zk131 Tryz.func131 ?_;intro G;(repeat'(first|refine zA ?_;repeat intro nb|refine zB ?_ ?_<;>intro hc<;>try exact no hc|refine zH ?_ ?_<;>(intro hg;rw[hg];try exact no hg)));all_goals exact zXz
 obtain rfl:sl=false:=by simpa using hsl
 by_cases h4:st=2∨st=3∨st=4∨st=5
 ·have hn7:=fun R=>nx_spec (s:=st) (e:=7) (x:=slaS st) R hs rfl (by rcases h4 with rfl|rfl|rfl|rfl<;>rfl)
  rcases h4 with rfl|rfl|rfl|rfl
  ·have il:IL 0:=⟨trivial⟩
   refine zGz zk131 Tryz.func131 ?_;intro G;(repeat'(first|refine zA ?_;repeat intro nb|refine zC ?_;(first|refine kpW (k:=284) (hm _) ?_|refine kpW (k:=263) (hn7 _) ?_)|refine zB ?_ ?_<;>intro hc<;>try exact no hc|refine zH ?_ ?_<;>(intro hg;rw[hg];try exact no hg)));all_goals exact zXz
  ·have il:IL 0:=⟨trivial⟩
   refine zGz zk131 Tryz.func131 ?_;intro G;(repeat'(first|refine zA ?_;repeat intro nb|refine zC ?_;(first|refine kpW (k:=284) (hm _) ?_|refine kpW (k:=263) (hn7 _) ?_)|refine zB ?_ ?_<;>intro hc<;>try exact no hc|refine zH ?_ ?_<;>(intro hg;rw[hg];try exact no hg)));all_goals exact zXz
  ·have il:IL 0:=⟨trivial⟩
   refine zGz zk131 Tryz.func131 ?_;intro G;(repeat'(first|refine zA ?_;repeat intro nb|refine zC ?_;(first|refine kpW (k:=284) (hm _) ?_|refine kpW (k:=263) (hn7 _) ?_)|refine zB ?_ ?_<;>intro hc<;>try exact no hc|refine zH ?_ ?_<;>(intro hg;rw[hg];try exact no hg)));all_goals exact zXz
  ·have il:IL 0:=⟨trivial⟩
   refine zGz zk131 Tryz.func131 ?_;intro G;(repeat'(first|refine zA ?_;repeat intro nb|refine zC ?_;(first|refine kpW (k:=284) (hm _) ?_|refine kpW (k:=263) (hn7 _) ?_)|refine zB ?_ ?_<;>intro hc<;>try exact no hc|refine zH ?_ ?_<;>(intro hg;rw[hg];try exact no hg)));all_goals exact zXz
 ·have hn7:=fun R=>nx_spec (s:=st) (e:=7) (x:=0) R hs rfl (by unfold nextF;rw[if_pos rfl,if_neg (by omega),if_neg (by omega)])
  rw[if_neg h4]
  have il:IL 0:=⟨trivial⟩
  refine zGz zk131 Tryz.func131 ?_;intro G;(repeat'(first|refine zA ?_;repeat intro nb|refine zC ?_;(first|refine kpW (k:=284) (hm _) ?_|refine kpW (k:=263) (hn7 _) ?_)|refine zB ?_ ?_<;>intro hc<;>try exact no hc|refine zH ?_ ?_<;>(intro hg;rw[hg];try exact no hg)));all_goals exact zXz
end
end
end
end Go.Proofs.YtjbfcacmdahnhaaGreat
