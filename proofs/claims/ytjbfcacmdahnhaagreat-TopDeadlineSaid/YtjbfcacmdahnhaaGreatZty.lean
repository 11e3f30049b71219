import Derived.Test.YtjbfcacmdahnhaaGreatZtx
set_option linter.unusedVariables false
set_option linter.unusedSimpArgs false
set_option linter.unusedSectionVars false
set_option maxRecDepth 100000
set_option maxHeartbeats 8000000
namespace Go.Proofs.YtjbfcacmdahnhaaGreat
section
open Go.RowKit
structure FfZ where
 k:Nat
 ex:Int
 wd:Int
 op:Bool
section
variable (c:Cfg) (v:Value) (l:List Opn) (R:List Asn) (hg:GS R 4 v l.length (l.flatMap opL)) (h0:0≤c.forcedCap) (h1:0≤c.penNum) (hwf:∀ o∈l,I64 o.k∧U64 o.am)
include hg h0 h1 hwf
theorem tfifo_law:Spec 4 [cfgV c,v] R fun u L'=>u=.bool true∧L'=R:=by
 have hru:=fun R=>runs_spec R
 by_cases hF:Fit c l.length
 ·have hck:=hF.ck
  have hcf:CfOk c:=cfOk_of hck h0 h1
  have hnl:=hF.n
  have hsm:c.capacity≤100∧c.payments≤200:=⟨hF.ca,hF.py⟩
  have hft:=fun (R:List Asn) hg=>fits_yes c v l R hg hF
  have hbg:=fun R=>tbegin_spec c hcf R hck
  have hal:=fun (eb lb:Nat) R hg=>tall_spec c hcf hsm eb lb (LK.iniL hcf) v l hnl hwf (by omega) R hg
  refine zGo Tryz.func4 ?_;intro G w M a F
  have hG:GS (R++G) 4 v l.length (l.flatMap opL):=Gives.app hg
  (try refine zI zk4 F M ?_;clear F M a;try clear w);(repeat'(first|refine zA ?_;repeat intro nb|refine zC ?_;(first|refine acW (k:=8) (hft _ ?_) ?_;exact gsA;rintro u L' ⟨rfl,rfl⟩|refine acW (k:=10) (hbg _) ?_;rintro u L' ⟨eb,lb,rfl,rfl⟩|refine acK (L1:=engB eb c St.ini::logA lb hs0::_) (k:=11) (hal eb lb _ ?_) ?_;exact gsA;rintro u L' ⟨rfl,s0,q0,hL0,rfl⟩)|refine zB ?_ ?_<;>intro hc<;>try exact no hc|refine zH ?_ ?_<;>(intro hg;rw[hg];try exact no hg)));all_goals try refine zO fun a w F M=>?_
  have hcap:s0.V.length≤100:=by have:=hL0.inv.cap;omega
  have hok:q0.ok:=fun i hi=>by
   obtain ⟨n,rfl,h2,h3⟩:=hL0.fo.ok i hi
   exact⟨⟨by omega,by omega⟩,h3⟩
  have hlo:q0.ord.length≤100000:=by have:=hL0.ol;omega
  refine svLoop F M (0:Nat) (fun j=>[(32,.int .i64 j)]) (fun _=>[]) (fun j=>j≤2) (fun j=>2 - j) [] (Nat.zero_le _) ?_
  (rintro j p1 a w F M;(try simp only[zc,zn] at F M p1 ⊢))
  by_cases hj:j<2
  ·obtain ⟨fo,hfo,hOq⟩:∃ fo,(∀ n∈fo,n∈s0.fo++s0.vo)∧Oq q0 (j:Int) fo:=by
    rcases (by omega:j=0∨j=1) with rfl|rfl
    ·exact⟨s0.fo,fun n h=>List.mem_append_left _ h,hL0.fo.o0⟩
    ·exact⟨s0.vo,fun n h=>List.mem_append_right _ h,hL0.fo.o1⟩
   obtain ⟨A,hA,hA2,hA3⟩:=hOq
   have hor:=fun R=>order_spec lb q0 (j:Int) hok hlo R
   have hini:=fifo_ini hcf hL0 hA hA2
   have hstep:=fun {k:Nat} {ex wd:Int} {op:Bool} (hP:FfP c q0 A k ex wd op) {i:Int} hi=>fifo_step hcf hL0 hfo hA hA2 hA3 hP (i:=i) hi
   have hln:=List.length_filter_le (fun i=>decide ((getR i q0.recs).ex.cl=(j:Int))) q0.ord
   generalize q0.ord.filter (fun i=>decide ((getR i q0.recs).ex.cl=(j:Int)))=O at *
   (try refine zI zk4 F M ?_;clear F M a;try clear w);(repeat'(first|refine zA ?_;repeat intro nb|refine zC ?_;refine acK (L1:=logA lb q0::_) (k:=18) (hor _) ?_;rintro u L' ⟨ho,rfl,rfl⟩|refine zB ?_ ?_<;>intro hc<;>try exact no hc|refine zH ?_ ?_<;>(intro hg;rw[hg];try exact no hg)));all_goals try refine zO fun a w F M=>?_
   refine svLoop F M (⟨0,0,0,false⟩:FfZ) (fun z=>[(40,.int .i64 z.k),(8,.int .i64 z.ex),(9,.int .i64 z.wd),(10,.bool z.op)]) (fun _=>[]) (fun z=>z.k≤O.length∧FfP c q0 A z.k z.ex z.wd z.op) (fun z=>O.length - z.k) [] ⟨Nat.zero_le _,hini⟩ ?_
   (rintro⟨k,ex,wd,op⟩ ⟨r1,r2⟩ a w F M;(try simp only[zc,zn] at F M r1 r2 ⊢))
   by_cases hk:k<O.length
   ·obtain ⟨i,hi⟩:∃ i,O[k]? = some i:=⟨O[k],by simp[hk]⟩
    obtain ⟨n,x,rfl,hv,hrd,hcs⟩:=hstep r2 hi
    have hnl2:=(List.getElem?_eq_some_iff.1 hv).1
    have hex:=fun R=>hexR lb q0 n ⟨by omega,by omega⟩ R
    have hgt:=fun R=>getB eb c s0 R (by omega) n x hv
    unfold exOf at hex
    unfold asO at hcs
    simp only[hrd,if_true] at hex
    generalize getR (n:Int) q0.recs=r at *
    obtain ⟨⟨e1,e2,e3,e4,e5,e6,e7⟩,rd,ps,ra,rs,rf⟩:=r
    obtain ⟨x1,x2,x3,x4,x5,x6,x7⟩:=x
    simp only at hcs hex hgt
    rcases hcs with⟨g1,g2⟩|⟨g1,rfl,g2,g3,⟨g4,g5,g6⟩|⟨g4,g5⟩⟩
    ·subst g1
     (try refine zI zk4 F M ?_;clear F M a;try clear w);(repeat'(first|refine zA ?_;repeat intro nb|refine zC ?_;(first|refine acK (L1:=logA lb q0::_) (k:=14) (hex _) ?_;rintro u L' ⟨rfl,rfl⟩|refine acK (L1:=engB eb c s0::_) (k:=19) (hgt _) ?_;rintro u L' ⟨rfl,rfl⟩)|refine zB ?_ ?_<;>intro hc<;>try exact no hc|refine zH ?_ ?_<;>(intro hg;rw[hg];try exact no hg)));all_goals try refine zO fun a w F M=>?_
     all_goals first|(exfalso;simp_all;done)|exact sv_again F M (⟨k+1,ex,wd,true⟩:FfZ) kpA permsA ⟨by simp only;omega,g2⟩ (by simp only;omega)
    ·subst g4
     (try refine zI zk4 F M ?_;clear F M a;try clear w);(repeat'(first|refine zA ?_;repeat intro nb|refine zC ?_;(first|refine acK (L1:=logA lb q0::_) (k:=14) (hex _) ?_;rintro u L' ⟨rfl,rfl⟩|refine acK (L1:=engB eb c s0::_) (k:=19) (hgt _) ?_;rintro u L' ⟨rfl,rfl⟩)|refine zB ?_ ?_<;>intro hc<;>try exact no hc|refine zH ?_ ?_<;>(intro hg;rw[hg];try exact no hg)));all_goals try refine zO fun a w F M=>?_
     all_goals first|(exfalso;simp_all;done)|(exfalso;simp_all;omega)|exact sv_again F M (⟨k+1,e4,x6,false⟩:FfZ) kpA permsA ⟨by simp only;omega,g6⟩ (by simp only;omega)
    ·(try refine zI zk4 F M ?_;clear F M a;try clear w);(repeat'(first|refine zA ?_;repeat intro nb|refine zC ?_;(first|refine acK (L1:=logA lb q0::_) (k:=14) (hex _) ?_;rintro u L' ⟨rfl,rfl⟩|refine acK (L1:=engB eb c s0::_) (k:=19) (hgt _) ?_;rintro u L' ⟨rfl,rfl⟩)|refine zB ?_ ?_<;>intro hc<;>try exact no hc|refine zH ?_ ?_<;>(intro hg;rw[hg];try exact no hg)));all_goals try refine zO fun a w F M=>?_
     all_goals first|(exfalso;simp_all;done)|(exfalso;simp_all;omega)|exact sv_again F M (⟨k+1,e4,wd,false⟩:FfZ) kpA permsA ⟨by simp only;omega,g5⟩ (by simp only;omega)
   obtain rfl:k=O.length:=by omega
   (try refine zI zk4 F M ?_;clear F M a;try clear w);(repeat'(first|refine zA ?_;repeat intro nb|refine zB ?_ ?_<;>intro hc<;>try exact no hc|refine zH ?_ ?_<;>(intro hg;rw[hg];try exact no hg)));all_goals try refine zO fun a w F M=>?_
   exact sv_again F M (j+1) kpA permsA (by omega) (by omega)
  obtain rfl:j=2:=by omega
  (try refine zI zk4 F M ?_;clear F M a;try clear w);(repeat'(first|refine zA ?_;repeat intro nb|refine zC ?_;refine kpW (k:=9) (hru _) ?_|refine zB ?_ ?_<;>intro hc<;>try exact no hc|refine zH ?_ ?_<;>(intro hg;rw[hg];try exact no hg)));all_goals try refine zO fun a w F M=>?_
  all_goals refine zE F M ?_
  exact⟨_,_,rfl,⟨rfl,rfl⟩,M.perms permsA⟩
 ·have hft:=fun (R:List Asn) hg=>fits_no c v l R hg hF
  refine zGo Tryz.func4 ?_;intro G w M a F
  have hG:GS (R++G) 4 v l.length (l.flatMap opL):=Gives.app hg
  (try refine zI zk4 F M ?_;clear F M a;try clear w);(repeat'(first|refine zA ?_;repeat intro nb|refine zC ?_;(first|refine acW (k:=8) (hft _ ?_) ?_;exact gsA;rintro u L' ⟨rfl,rfl⟩|refine kpW (k:=9) (hru _) ?_)|refine zB ?_ ?_<;>intro hc<;>try exact no hc|refine zH ?_ ?_<;>(intro hg;rw[hg];try exact no hg)));all_goals try refine zO fun a w F M=>?_
  all_goals refine zE F M ?_
  exact⟨_,_,rfl,⟨rfl,rfl⟩,M.perms permsA⟩
end
end
end Go.Proofs.YtjbfcacmdahnhaaGreat
