import Derived.Test.YtjbfcacmdahnhaaGreatZtv
set_option linter.unusedVariables false
set_option linter.unusedSimpArgs false
set_option linter.unusedSectionVars false
set_option maxRecDepth 100000
set_option maxHeartbeats 8000000
namespace Go.Proofs.YtjbfcacmdahnhaaGreat
section
open Go.RowKit
section
variable (c:Cfg) (hcf:CfOk c) (hsm:c.capacity≤100∧c.payments≤200) (eb lb:Nat) {s:St} {q:HS} {k:Nat} (hL:LK c s q k)
include hcf hsm hL
theorem tall_spec (v:Value) (l:List Opn) (hl:l.length≤400) (hwf:∀ o∈l,I64 o.k∧U64 o.am) (hk:k+l.length≤10000) (R:List Asn) (hg:GS R 4 v l.length (l.flatMap opL)):Spec 11 [runV eb lb,v] (engB eb c s::logA lb q::R) fun u L'=>u=.tuple #[]∧∃ s' q',LK c s' q' (k+l.length)∧L'=engB eb c s'::logA lb q'::R:=by
 refine zGo Tryz.func11 ?_;intro G w M a F
 have hG:GS (R++G) 4 v l.length (l.flatMap opL):=Gives.app hg
 (try refine zI zk11 F M ?_;clear F M a;try clear w);(repeat'(first|refine zA ?_;repeat intro nb|refine zB ?_ ?_<;>intro hc<;>try exact no hc|refine zH ?_ ?_<;>(intro hg;rw[hg];try exact no hg)));all_goals try refine zO fun a w F M=>?_
 refine svLoop F M ((0,s,q):Nat × St × HS) (fun z=>[(8,.int .i64 z.1)]) (fun z=>[engB eb c z.2.1,logA lb z.2.2]) (fun z=>z.1≤l.length∧LK c z.2.1 z.2.2 (k+z.1)) (fun z=>l.length - z.1) [] ⟨Nat.zero_le _,hL⟩ ?_
 (rintro⟨j,s1,q1⟩ ⟨p1,p2⟩ a w F M;(try simp only[zc,zn] at F M p1 p2 ⊢))
 by_cases hj:j<l.length
 ·obtain ⟨o,ho⟩:∃ o,l[j]? = some o:=⟨l[j],by simp[hj]⟩
  obtain ⟨ho1,ho2⟩:=hwf o (List.mem_of_getElem? ho)
  have hdo:=fun R=>tdo2 c hcf hsm eb lb p2.toLK0 (by omega) o ho1 ho2 R
  have hn:=p2.stepL hcf hsm (by omega) o ho1 ho2
  generalize stepM c s1 o=Y at *
  obtain ⟨⟨y1,y2,y3,y4,y5,y6,y7,y8,y9⟩,s2⟩:=Y
  obtain ⟨ok,oi,ot,oa⟩:=o
  simp only at hdo hn
  (try refine zI zk11 F M ?_;clear F M a;try clear w);(repeat'(first|refine zA ?_;repeat intro nb|refine zC ?_;refine acK (L1:=engB eb c s1::logA lb q1::_) (k:=12) (hdo _) ?_;rintro u L' ⟨ha,hp,rfl,rfl⟩|refine zB ?_ ?_<;>intro hc<;>try exact no hc|refine zH ?_ ?_<;>(intro hg;rw[hg];try exact no hg)));all_goals try refine zO fun a w F M=>?_
  exact sv_again F M (j+1,s2,hAdd ok ⟨y1,y2,y3,y4,y5,y6,y7,y8,y9⟩ q1) kpA permsA ⟨by simp only;omega,hn⟩ (by simp only;omega)
 obtain rfl:j=l.length:=by omega
 (try refine zI zk11 F M ?_;clear F M a;try clear w);(repeat'(first|refine zA ?_;repeat intro nb|refine zB ?_ ?_<;>intro hc<;>try exact no hc|refine zH ?_ ?_<;>(intro hg;rw[hg];try exact no hg)));all_goals try refine zO fun a w F M=>?_
 all_goals refine zE F M ?_
 exact⟨_,_,rfl,⟨rfl,s1,q1,p2,rfl⟩,M.perms permsA⟩
end
theorem hexR (lb:Nat) (q:HS) (i:Int) (hi:I64 i) (R:List Asn):Spec 14 [ptr lb,.int .i64 i] (logA lb q::R) fun u L'=>u=.tuple [.agg (exL (exOf q i)).toArray,.bool (getR i q.recs).rd].toArray∧L'=logA lb q::R:=by
 refine Spec.mono (Spec.fr (hexit_spec lb q i hi) R) ?_
 rintro u L' ⟨L2,⟨h1,rfl⟩,rfl⟩
 exact⟨h1,rfl⟩
section
variable (v:Value) (ps:List Pm) (R:List Asn) (hg:GS R 3 v ps.length (ps.flatMap pmL)) (hp:∀ p∈ps,p.fl=false)
theorem tdl1_spec (p:Pm) (R:List Asn):Spec 17 [.agg (pmL p).toArray] R fun u L'=>u=.bool p.fl∧L'=R:=by
 obtain ⟨pi,pa,pf⟩:=p
 refine zGz zk17 Tryz.func17 ?_;intro G;(repeat'(first|refine zA ?_;repeat intro nb|refine zB ?_ ?_<;>intro hc<;>try exact no hc|refine zH ?_ ?_<;>(intro hg;rw[hg];try exact no hg)));all_goals exact zXz
include hg hp
theorem idx_pm:Spec 54 [v,.func (.func 17) #[] #[]] R fun u L'=>u=.int .i64 (-1)∧L'=R:=by
 refine zGo Tryz.func54 ?_;intro G w M a F
 have hG:GS (R++G) 3 v ps.length (ps.flatMap pmL):=Gives.app hg
 have hlv:=hG.len_le M
 (try refine zI zk54 F M ?_;clear F M a;try clear w);(repeat'(first|refine zA ?_;repeat intro nb|refine zB ?_ ?_<;>intro hc<;>try exact no hc|refine zH ?_ ?_<;>(intro hg;rw[hg];try exact no hg)));all_goals try refine zO fun a w F M=>?_
 refine svLoop F M (0:Nat) (fun j=>[(8,.int .i64 j)]) (fun _=>[]) (fun j=>j≤ps.length) (fun j=>ps.length - j) [] (Nat.zero_le _) ?_
 (rintro j p1 a w F M;(try simp only[zc,zn] at F M p1 ⊢))
 by_cases hj:j<ps.length
 ·obtain ⟨p,hp9⟩:∃ p,ps[j]? = some p:=⟨ps[j],by simp[hj]⟩
  have hfl:=hp p (List.mem_of_getElem? hp9)
  have hcl:=fun R=>tdl1_spec p R
  rw[hfl] at hcl
  obtain ⟨pi,pa,pf⟩:=p
  (try refine zI zk54 F M ?_;clear F M a;try clear w);(repeat'(first|refine zA ?_;repeat intro nb|refine zC ?_;refine acF (k:=17) (hcl _) ?_;rintro u L' ⟨rfl,rfl⟩|refine zB ?_ ?_<;>intro hc<;>try exact no hc|refine zH ?_ ?_<;>(intro hg;rw[hg];try exact no hg)));all_goals try refine zO fun a w F M=>?_
  exact sv_again F M (j+1) kpA permsA (by omega) (by omega)
 obtain rfl:j=ps.length:=by omega
 (try refine zI zk54 F M ?_;clear F M a;try clear w);(repeat'(first|refine zA ?_;repeat intro nb|refine zB ?_ ?_<;>intro hc<;>try exact no hc|refine zH ?_ ?_<;>(intro hg;rw[hg];try exact no hg)));all_goals exact zXz
theorem cnt_pm:Spec 16 [v,.func (.func 17) #[] #[]] R fun u L'=>u=.bool false∧L'=R:=by
 have hx:=fun (R:List Asn) hg=>idx_pm v ps R hg hp
 refine zGo Tryz.func16 ?_;intro G w M a F
 have hG:GS (R++G) 3 v ps.length (ps.flatMap pmL):=Gives.app hg
 have hlv:=hG.len_le M
 (try refine zI zk16 F M ?_;clear F M a;try clear w);(repeat'(first|refine zA ?_;repeat intro nb|refine zC ?_;refine acW (k:=54) (hx _ ?_) ?_;exact gsA;rintro u L' ⟨rfl,rfl⟩|refine zB ?_ ?_<;>intro hc<;>try exact no hc|refine zH ?_ ?_<;>(intro hg;rw[hg];try exact no hg)));all_goals exact zXz
end
section
variable (c:Cfg) (v:Value) (l:List Opn) (R:List Asn) (hg:GS R 4 v l.length (l.flatMap opL)) (h0:0≤c.forcedCap) (h1:0≤c.penNum) (hwf:∀ o∈l,I64 o.k∧U64 o.am)
include hg h0 h1 hwf
theorem tdelays_law:Spec 3 [cfgV c,v] R fun u L'=>u=.bool true∧L'=R:=by
 have hru:=fun R=>runs_spec R
 by_cases hF:Fit c l.length
 ·have hck:=hF.ck
  have hcf:CfOk c:=cfOk_of hck h0 h1
  have hnl:=hF.n
  have hsm:c.capacity≤100∧c.payments≤200:=⟨hF.ca,hF.py⟩
  have hft:=fun (R:List Asn) hg=>fits_yes c v l R hg hF
  have hbg:=fun R=>tbegin_spec c hcf R hck
  have hal:=fun (eb lb:Nat) R hg=>tall_spec c hcf hsm eb lb (LK.iniL hcf) v l hnl hwf (by omega) R hg
  refine zGo Tryz.func3 ?_;intro G w M a F
  have hG:GS (R++G) 4 v l.length (l.flatMap opL):=Gives.app hg
  (try refine zI zk3 F M ?_;clear F M a;try clear w);(repeat'(first|refine zA ?_;repeat intro nb|refine zC ?_;(first|refine acW (k:=8) (hft _ ?_) ?_;exact gsA;rintro u L' ⟨rfl,rfl⟩|refine acW (k:=10) (hbg _) ?_;rintro u L' ⟨eb,lb,rfl,rfl⟩|refine acK (L1:=engB eb c St.ini::logA lb hs0::_) (k:=11) (hal eb lb _ ?_) ?_;exact gsA;rintro u L' ⟨rfl,s0,q0,hL0,rfl⟩)|refine zB ?_ ?_<;>intro hc<;>try exact no hc|refine zH ?_ ?_<;>(intro hg;rw[hg];try exact no hg)));all_goals try refine zO fun a w F M=>?_
  refine svLoop F M ((0,s0,q0):Nat × St × HS) (fun z=>[(25,.int .i64 z.1)]) (fun z=>[engB eb c z.2.1,logA lb z.2.2]) (fun z=>z.1≤100∧LK c z.2.1 z.2.2 (l.length+z.1)) (fun z=>100 - z.1) [] ⟨Nat.zero_le _,by simpa using hL0⟩ ?_
  (rintro⟨j,s1,q1⟩ ⟨p1,p2⟩ a w F M;(try simp only[zc,zn] at F M p1 p2 ⊢))
  by_cases hj:j<100
  ·have hdo:=fun R=>tdo2 c hcf hsm eb lb p2.toLK0 (by omega) ⟨7,0,0,0⟩ ⟨by decide,by decide⟩ ⟨by decide,by decide⟩ R
   have hn:=p2.stepL hcf hsm (by omega) ⟨7,0,0,0⟩ ⟨by decide,by decide⟩ ⟨by decide,by decide⟩
   generalize stepM c s1 ⟨7,0,0,0⟩=Y at *
   obtain ⟨⟨y1,y2,y3,y4,y5,y6,y7,y8,y9⟩,s2⟩:=Y
   simp only at hdo hn
   (try refine zI zk3 F M ?_;clear F M a;try clear w);(repeat'(first|refine zA ?_;repeat intro nb|refine zC ?_;refine acK (L1:=engB eb c s1::logA lb q1::_) (k:=12) (hdo _) ?_;rintro u L' ⟨ha,hp,rfl,rfl⟩|refine zB ?_ ?_<;>intro hc<;>try exact no hc|refine zH ?_ ?_<;>(intro hg;rw[hg];try exact no hg)));all_goals try refine zO fun a w F M=>?_
   exact sv_again F M (j+1,s2,hAdd 7 ⟨y1,y2,y3,y4,y5,y6,y7,y8,y9⟩ q1) kpA permsA ⟨by simp only;omega,by rw[← Nat.add_assoc];exact hn⟩ (by simp only;omega)
  obtain rfl:j=100:=by omega
  have hsn:=fun R=>snapO eb c s1 R hcf p2.inv
  have hcap:s1.V.length≤100:=by have:=p2.inv.cap;omega
  (try refine zI zk3 F M ?_;clear F M a;try clear w);(repeat'(first|refine zV (h:=⟨_,by((exact rt_fieldV (ft:=43) (off:=2) rfl rfl (by kernel_rfl) inferInstance rfl)),?_⟩)|refine zA1 ?_;repeat intro(nb:Nat)|refine zC ?_;refine acK (L1:=engB eb c s1::_) (k:=13) (hsn _) ?_;rintro u L' ⟨a1,a2,a3,a4,a5,a6,rfl,rfl⟩|refine zB ?_ ?_<;>intro hc<;>try exact no hc|refine zH ?_ ?_<;>(intro hg;rw[hg];try exact no hg)));all_goals try refine zO fun a w F M=>?_
  refine svLoop F M (0:Nat) (fun k=>[(36,.int .i64 k)]) (fun _=>[]) (fun k=>k≤s1.V.length) (fun k=>s1.V.length - k) [] (Nat.zero_le _) ?_
  (rintro k q2 a w F M;(try simp only[zc,zn] at F M q2 ⊢))
  by_cases hk:k<s1.V.length
  ·obtain ⟨x,hv⟩:∃ x,s1.V[k]? = some x:=⟨s1.V[k],by simp[hk]⟩
   obtain ⟨d1,d2⟩:=delays_ok hcf p2 (by omega) hv
   have hle:=(p2.le.p k)
   have hun:=hcf.un;have hsd:=hcf.sd
   have hex:=fun R=>hexR lb q1 k ⟨by omega,by omega⟩ R
   have hps:=fun R=>pays_spec lb q1 k ⟨by omega,by omega⟩ (by omega) R
   unfold exOf at hex
   generalize getR (k:Int) q1.recs=r at *
   obtain ⟨⟨e1,e2,e3,e4,e5,e6,e7⟩,rd,ps,ra,rs,rf⟩:=r
   simp only at d1 d2 hle hex hps
   cases rd with
   | false =>
    have hpf:=d1 rfl
    have hcn:=fun (v:Value) (R:List Asn) hg=>cnt_pm v ps R hg hpf
    simp only[Bool.false_eq_true,if_false] at hex
    (try refine zI zk3 F M ?_;clear F M a;try clear w);(repeat'(first|refine zA ?_;repeat intro nb|refine zC ?_;(first|refine acK (L1:=logA lb q1::_) (k:=14) (hex _) ?_;rintro u L' ⟨rfl,rfl⟩|refine acK (L1:=logA lb q1::_) (k:=15) (hps _) ?_;rintro u L' ⟨hq,rfl,rfl⟩|refine acW (k:=16) (hcn _ _ ?_) ?_;exact gs_own pullA;rintro u L' ⟨rfl,rfl⟩)|refine zB ?_ ?_<;>intro hc<;>try exact no hc|refine zH ?_ ?_<;>(intro hg;rw[hg];try exact no hg)));all_goals try refine zO fun a w F M=>?_
    all_goals exact sv_again F M (k+1) kpA permsA (by omega) (by omega)
   | true =>
    obtain ⟨g1,g2,g3⟩:=d2 rfl
    simp only at g1 g2 g3
    simp only[if_true] at hex
    (try refine zI zk3 F M ?_;clear F M a;try clear w);(repeat'(first|refine zA ?_;repeat intro nb|refine zC ?_;refine acK (L1:=logA lb q1::_) (k:=14) (hex _) ?_;rintro u L' ⟨rfl,rfl⟩|refine zB ?_ ?_<;>intro hc<;>try exact no hc|refine zH ?_ ?_<;>(intro hg;rw[hg];try exact no hg)));all_goals try refine zO fun a w F M=>?_
    all_goals first|(exfalso;simp_all;done)|(exfalso;simp_all;omega)|exact sv_again F M (k+1) kpA permsA (by omega) (by omega)
  obtain rfl:k=s1.V.length:=by omega
  (try refine zI zk3 F M ?_;clear F M a;try clear w);(repeat'(first|refine zA ?_;repeat intro nb|refine zC ?_;refine kpW (k:=9) (hru _) ?_|refine zB ?_ ?_<;>intro hc<;>try exact no hc|refine zH ?_ ?_<;>(intro hg;rw[hg];try exact no hg)));all_goals try refine zO fun a w F M=>?_
  all_goals refine zE F M ?_
  exact⟨_,_,rfl,⟨rfl,rfl⟩,M.perms permsA⟩
 ·have hft:=fun (R:List Asn) hg=>fits_no c v l R hg hF
  refine zGo Tryz.func3 ?_;intro G w M a F
  have hG:GS (R++G) 4 v l.length (l.flatMap opL):=Gives.app hg
  (try refine zI zk3 F M ?_;clear F M a;try clear w);(repeat'(first|refine zA ?_;repeat intro nb|refine zC ?_;(first|refine acW (k:=8) (hft _ ?_) ?_;exact gsA;rintro u L' ⟨rfl,rfl⟩|refine kpW (k:=9) (hru _) ?_)|refine zB ?_ ?_<;>intro hc<;>try exact no hc|refine zH ?_ ?_<;>(intro hg;rw[hg];try exact no hg)));all_goals try refine zO fun a w F M=>?_
  all_goals refine zE F M ?_
  exact⟨_,_,rfl,⟨rfl,rfl⟩,M.perms permsA⟩
end
end
end Go.Proofs.YtjbfcacmdahnhaaGreat
