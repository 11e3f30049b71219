import Derived.Test.YtjbfcacmdahnhaaGreatZtz
set_option linter.unusedVariables false
set_option linter.unusedSimpArgs false
set_option linter.unusedSectionVars false
set_option maxRecDepth 100000
set_option maxHeartbeats 8000000
namespace Go.Proofs.YtjbfcacmdahnhaaGreat
section
open Go.RowKit
def prmL (p:Pr):List Value:=[.int .i64 p.ix,.int .i64 p.dl,.int .u64 p.la,.bool p.asd]
instance prmEL:EL prmL 4:=⟨fun _=>rfl,fun x u h=>by simp[prmL] at h;rcases h with rfl|rfl|rfl|rfl<;>rfl⟩
theorem getA (b:Nat) (c:Cfg) (s:St) (R:List Asn) (hl:s.V.length≤4096) (i:Int):Spec 19 [ptr b,.int .i64 i] (engB b c s::R) fun u L'=>∃ ok,u=.tuple [valV (getZ s.V i),.bool ok].toArray∧L'=engB b c s::R:=by
 by_cases hi:i<0∨(s.V.length:Int)≤i
 ·have e:getZ s.V i=Val.zero:=by
   unfold getZ
   split
   ·rfl
   ·rw[List.getD_eq_getElem?_getD,List.getElem?_eq_none (by omega)];rfl
  rw[e]
  exact Spec.mono (getNB b c s R hl i hi) fun u L' ⟨h1,h2⟩=>⟨_,h1,h2⟩
 ·obtain ⟨n,rfl⟩:∃ n:Nat,i=n:=⟨i.toNat,by omega⟩
  have hv:s.V[n]? = some (s.V[n]'(by omega)):=List.getElem?_eq_getElem _
  rw[getZ_some (v:=s.V[n]'(by omega)) (by omega) (by simp)]
  exact Spec.mono (getB b c s R hl n _ hv) fun u L' ⟨h1,h2⟩=>⟨_,h1,h2⟩
structure UtZ where
 s:St
 q:HS
 k:Nat
section
variable (c:Cfg) (hcf:CfOk c) (hsm:c.capacity≤100∧c.payments≤200) (eb lb:Nat)
include hcf hsm
theorem until_spec {P:List Pr} {s:St} {q:HS} {k:Nat} (hL:LK c s q k) (hU:LU c P s q) (m:Int) (hm:0≤m∧m≤1099511627776) (hmE:(m+1)*c.epochLen≤8000) (hk:k≤1000) (R:List Asn):Spec 31 [runV eb lb,.int .i64 m] (engB eb c s::logA lb q::R) fun u L'=>u=.tuple #[]∧∃ s' q' k',LK c s' q' k'∧k'≤9000∧LU c P s' q'∧(m+1)*c.epochLen≤(s'.bk:Int)+1∧L'=engB eb c s'::logA lb q'::R:=by
 have hcg:=fun R=>configB eb c s R
 have hsn:=fun R=>snapB eb c s R hcf hL.inv
 have hel:=hcf.el
 have hb:=hL.bk
 obtain ⟨E,hE⟩:∃ E,(m+1)*c.epochLen=E:=⟨_,rfl⟩
 have hE0:0≤E:=by rw[← hE];exact Int.mul_nonneg (by omega) (by omega)
 rw[hE] at hmE ⊢
 refine zGz zk31 Tryz.func31 ?_;intro G;(repeat'(first|refine zA ?_;repeat intro nb|refine zC ?_;(first|refine acK (L1:=engB eb c s::_) (k:=29) (hcg _) ?_;rintro u L' ⟨rfl,rfl⟩|refine acK (L1:=engB eb c s::_) (k:=13) (hsn _) ?_;rintro u L' ⟨a1,a2,a3,a4,a5,a6,rfl,rfl⟩)|refine zB ?_ ?_<;>intro hc<;>try exact no hc|refine zH ?_ ?_<;>(intro hg;rw[hg];try exact no hg)));all_goals try refine zO fun a w F M=>?_
 refine svLoop F M (⟨s,q,k⟩:UtZ) (fun z=>[(6,.int .i64 z.s.bk)]) (fun z=>[engB eb c z.s,logA lb z.q]) (fun z=>LK c z.s z.q z.k∧LU c P z.s z.q∧z.k=k+(z.s.bk - s.bk)∧s.bk≤z.s.bk∧(z.s.bk=s.bk∨(z.s.bk:Int)+1≤E)) (fun z=>9000 - z.s.bk) [] ⟨hL,hU,by simp,Nat.le_refl _,.inl rfl⟩ ?_
 (rintro⟨s1,q1,k1⟩ ⟨p1,p2,p3,p4,p5⟩ a w F M;(try simp only[zc,zn] at F M p1 p2 p3 p4 p5 ⊢))
 have hb1:=p1.bk
 by_cases hj:(s1.bk:Int)+1<E
 ·have hdo:=fun R=>tdo2 c hcf hsm eb lb p1.toLK0 (by omega) ⟨7,0,0,0⟩ ⟨by decide,by decide⟩ ⟨by decide,by decide⟩ R
  have hn:=p1.stepL hcf hsm (by omega) ⟨7,0,0,0⟩ ⟨by decide,by decide⟩ ⟨by decide,by decide⟩
  have hu:=p2.tick hcf p1 (by omega)
  have hbk:(stepM c s1 ⟨7,0,0,0⟩).2.bk=s1.bk+1:=tick_bk c s1
  generalize stepM c s1 ⟨7,0,0,0⟩=Y at *
  obtain ⟨⟨y1,y2,y3,y4,y5,y6,y7,y8,y9⟩,s2⟩:=Y
  simp only at hdo hn hu hbk
  (try refine zI zk31 F M ?_;clear F M a;try clear w);(repeat'(first|refine zA ?_;repeat intro nb|refine zC ?_;refine acK (L1:=engB eb c s1::logA lb q1::_) (k:=12) (hdo _) ?_;rintro u L' ⟨ha,hp,rfl,rfl⟩|refine zB ?_ ?_<;>intro hc<;>try exact no hc|refine zH ?_ ?_<;>(intro hg;rw[hg];try exact no hg)));all_goals try refine zO fun a w F M=>?_
  refine sv_again F M (⟨s2,hAdd 7 ⟨y1,y2,y3,y4,y5,y6,y7,y8,y9⟩ q1,k1+1⟩:UtZ) ?_ permsA ⟨hn,hu,by simp only;omega,by simp only;omega,.inr (by simp only;omega)⟩ (by simp only;omega)
  simp only[hbk]
  exact kpA
 (try refine zI zk31 F M ?_;clear F M a;try clear w);(repeat'(first|refine zA ?_;repeat intro nb|refine zB ?_ ?_<;>intro hc<;>try exact no hc|refine zH ?_ ?_<;>(intro hg;rw[hg];try exact no hg)));all_goals try refine zO fun a w F M=>?_
 all_goals refine zE F M ?_
 exact⟨_,_,rfl,⟨rfl,s1,q1,k1,p1,by omega,p2,by omega,rfl⟩,M.perms permsA⟩
structure PmZ where
 k:Nat
 s:St
 q:HS
 h:SlH
 P:List Pr
variable (hsc:c.supplyCap≤1099511627776) (v:Value) (l:List Opn) (hl:l.length≤400) (hwf:∀ o∈l,I64 o.k∧U64 o.am)
include hsc hl hwf
theorem promises_spec (R:List Asn) (hg:GS R 4 v l.length (l.flatMap opL)):Spec 30 [runV eb lb,v] (engB eb c St.ini::logA lb hs0::R) fun u L'=>∃ h P s' q',u=sl h∧LD c s' q' l.length P∧L'=ownT 92 prmL 4 (sl h) P::engB eb c s'::logA lb q'::R:=by
 refine zGo Tryz.func30 ?_;intro G w M a F
 have hG:GS (R++G) 4 v l.length (l.flatMap opL):=Gives.app hg
 have M:=M.own_nil 92 4
 (try refine zI zk30 F M ?_;clear F M a;try clear w);(repeat'(first|refine zA ?_;repeat intro nb|refine zB ?_ ?_<;>intro hc<;>try exact no hc|refine zH ?_ ?_<;>(intro hg;rw[hg];try exact no hg)));all_goals try refine zO fun a w F M=>?_
 refine svLoop F M (⟨0,St.ini,hs0,nilH,[]⟩:PmZ) (fun z=>[(19,.int .i64 z.k),(5,sl z.h)]) (fun z=>[ownT 92 prmL 4 (sl z.h) z.P,engB eb c z.s,logA lb z.q]) (fun z=>z.k≤l.length∧LD c z.s z.q z.k z.P) (fun z=>l.length - z.k) [] ⟨Nat.zero_le _,LD.iniD hcf⟩ ?_
 (rintro⟨k,s,q,h,P⟩ ⟨p1,p2⟩ a w F M;(try simp only[zc,zn] at F M p1 p2 ⊢))
 by_cases hk:k<l.length
 ·obtain ⟨o,ho⟩:∃ o,l[k]? = some o:=⟨l[k],by simp[hk]⟩
  obtain ⟨ho1,ho2⟩:=hwf o (List.mem_of_getElem? ho)
  have hca:=hcf.ca
  have hcap:s.V.length≤100:=by have:=p2.lk.inv.cap;omega
  have hga:=fun R=>getA eb c s R (by omega) o.ix
  have hdo:=fun R=>tdo2 c hcf hsm eb lb p2.lk.toLK0 (by omega) o ho1 ho2 R
  have n1:=p2.stepD hcf hsm hsc (by omega) o ho1 ho2
  have hcap2:(stepM c s o).2.V.length≤100:=by have:=n1.lk.inv.cap;omega
  have hga2:=fun R=>getA eb c (stepM c s o).2 R (by omega) o.ix
  have hax:=acc_ix (c:=c) (s:=s) (o:=o)
  have hbz:=getZ_bal n1.lk.inv o.ix
  have hpl:=p2.pl
  have hla:∀ p∈P,p.la≤1000000000000000∧0≤p.la:=fun p hp=>by
   have:=p2.la p hp
   obtain ⟨_,_,hA⟩:=p2.pr p hp
   have:=hA.la
   omega
  obtain ⟨SP,hSP⟩:∃ SP,stepP c s o P=SP:=⟨_,rfl⟩
  rw[hSP] at n1
  unfold stepP at hSP
  generalize getZ s.V o.ix=b0 at *
  generalize stepM c s o=Y at *
  obtain ⟨⟨y1,y2,y3,y4,y5,y6,y7,y8,y9⟩,s2⟩:=Y
  obtain ⟨ok,oi,ot,oa⟩:=o
  simp only at hdo n1 hSP hga hga2 hax hbz
  generalize getZ s2.V oi=x at *
  obtain ⟨b1,b2,b3,b4,b5,b6,b7⟩:=b0
  obtain ⟨x1,x2,x3,x4,x5,x6,x7⟩:=x
  simp only at hbz
  (try refine zI zk30 F M ?_;clear F M a;try clear w);(repeat'(first|refine zA ?_;repeat intro nb|refine zC ?_;(first|refine acK (L1:=engB eb c s::logA lb q::_) (k:=12) (hdo _) ?_;rintro u L' ⟨ha,hp,rfl,rfl⟩|refine acK (L1:=engB eb c s::_) (k:=19) (hga _) ?_;rintro u L' ⟨gb,rfl,rfl⟩)|refine zB ?_ ?_<;>intro hc<;>try exact no hc|refine zH ?_ ?_<;>(intro hg;rw[hg];try exact no hg)));all_goals try refine zO fun a w F M=>?_
  have hlq:=(gs_own (pullA:Pull _ (ownT 75 asgL 3 (sl ha) y8) _)).len_le M
  have hlp:=(gs_own (pullA:Pull _ (ownT 92 prmL 4 (sl h) P) _)).len_le M
  refine svLoop F M ((0,P):Nat × List Pr) (fun z=>[(37,.int .i64 z.1)]) (fun z=>[ownT 92 prmL 4 (sl h) z.2]) (fun z=>z.1≤y8.length∧z.2=prM (y8.take z.1) P) (fun z=>y8.length - z.1) [] ⟨Nat.zero_le _,rfl⟩ ?_
  (rintro⟨i,P1⟩ ⟨r1,r2⟩ a w F M;(try simp only[zc,zn] at F M r1 r2 ⊢))
  by_cases hi:i<y8.length
  ·obtain ⟨y,hy⟩:∃ y,y8[i]? = some y:=⟨y8[i],by simp[hi]⟩
   have hpt:=prM_take hy P
   have hlen:P1.length=P.length:=by rw[r2];exact prM_len _ _
   rw[← r2] at hpt
   obtain ⟨yi,yc,ye⟩:=y
   (try refine zI zk30 F M ?_;clear F M a;try clear w);(repeat'(first|refine zA ?_;repeat intro nb|refine zC ?_;(first|refine acK (L1:=engB eb c s::logA lb q::_) (k:=12) (hdo _) ?_;rintro u L' ⟨ha,hp,rfl,rfl⟩|refine acK (L1:=engB eb c s::_) (k:=19) (hga _) ?_;rintro u L' ⟨gb,rfl,rfl⟩)|refine zB ?_ ?_<;>intro hc<;>try exact no hc|refine zH ?_ ?_<;>(intro hg;rw[hg];try exact no hg)));all_goals try refine zO fun a w F M=>?_
   refine svLoop F M (0:Nat) (fun j=>[(43,.int .i64 j)]) (fun j=>[ownT 92 prmL 4 (sl h) (prTo (mk1 ⟨yi,yc,ye⟩) P1 j)]) (fun j=>j≤P1.length) (fun j=>P1.length - j) [] (Nat.zero_le _) ?_ (hR:=by rw[prTo_zero];(repeat (first|exact Pulls.nil|(apply Pulls.cons;(focus ((repeat (first|exact Pull.here|apply Pull.there));done))))))
   (rintro j t1 a w F M;(try simp only[zc,zn] at F M t1 ⊢))
   by_cases hj:j<P1.length
   ·obtain ⟨p,hp9⟩:∃ p,P1[j]? = some p:=⟨P1[j],by simp[hj]⟩
    obtain ⟨m1,m2,m3⟩:=prTo_step (f:=mk1 ⟨yi,yc,ye⟩) hp9
    have hml:=prTo_len (mk1 ⟨yi,yc,ye⟩) P1 j
    obtain ⟨pi,pd,pl,pa⟩:=p
    by_cases he:(pi:Int)=yi
    ·subst he
     have e1:mk1 ⟨pi,yc,ye⟩ ⟨pi,pd,pl,pa⟩=⟨pi,pd,pl,true⟩:=by simp[mk1]
     rw[e1] at m2
     (try refine zI zk30 F M ?_;clear F M a;try clear w);(repeat'(first|refine zA ?_;repeat intro nb|refine zC ?_;refine ac_storeE (f:=prmL) (v:=sl h) (j:=j) (k:=4) (i:=3) (xs:=prTo (mk1 ⟨pi,yc,ye⟩) P1 j) rfl rfl inferInstance rfl rfl m1 inferInstance rfl (⟨pi,pd,pl,true⟩:Pr) rfl (by(focus ((repeat (first|exact Rep.here|apply Rep.there));done))) ?_|refine zB ?_ ?_<;>intro hc<;>try exact no hc|refine zH ?_ ?_<;>(intro hg;rw[hg];try exact no hg)));all_goals try refine zO fun a w F M=>?_
     all_goals first|(exfalso;simp_all;done)|(rw[m2] at M;exact sv_again F M (j+1) kpA permsA (by omega) (by omega))
    ·have e1:mk1 ⟨yi,yc,ye⟩ ⟨pi,pd,pl,pa⟩=⟨pi,pd,pl,pa⟩:=by simp[mk1,he]
     (try refine zI zk30 F M ?_;clear F M a;try clear w);(repeat'(first|refine zA ?_;repeat intro nb|refine zB ?_ ?_<;>intro hc<;>try exact no hc|refine zH ?_ ?_<;>(intro hg;rw[hg];try exact no hg)));all_goals try refine zO fun a w F M=>?_
     all_goals first|(exfalso;simp_all;done)|(rw[m3 e1] at M;exact sv_again F M (j+1) kpA permsA (by omega) (by omega))
   obtain rfl:j=P1.length:=by omega
   rw[prTo_all,← hpt] at M
   (try refine zI zk30 F M ?_;clear F M a;try clear w);(repeat'(first|refine zA ?_;repeat intro nb|refine zB ?_ ?_<;>intro hc<;>try exact no hc|refine zH ?_ ?_<;>(intro hg;rw[hg];try exact no hg)));all_goals try refine zO fun a w F M=>?_
   exact sv_again F M (i+1,prM (y8.take (i+1)) P) kpA permsA ⟨by simp only;omega,rfl⟩ (by simp only;omega)
  obtain rfl:i=y8.length:=by omega
  rw[List.take_length] at r2
  have hla2:∀ p∈P1,p.la≤1000000000000000∧0≤p.la:=fun p hp=>by
   rw[r2] at hp
   obtain ⟨p0,h0,e1,_⟩:=prM_la _ _ p hp
   rw[e1];exact hla p0 h0
  have hlen:P1.length=P.length:=by rw[r2];exact prM_len _ _
  rw[← r2] at hSP
  by_cases hy:y2=0
  rotate_left
  ·have dy:decide (y2≠0)=true:=by simpa using hy
   rw[if_pos hy] at hSP
   subst hSP
   (try refine zI zk30 F M ?_;clear F M a;try clear w);(repeat'(first|refine zA ?_;repeat intro nb|refine zB ?_ ?_<;>intro hc<;>try exact no hc|refine zH ?_ ?_<;>(intro hg;rw[hg];try exact no hg)));all_goals try refine zO fun a w F M=>?_
   all_goals first|(exfalso;simp_all;done)|exact sv_again F M (⟨k+1,s2,_,h,P1⟩:PmZ) kpA permsA ⟨by simp only;omega,n1⟩ (by simp only;omega)
  subst hy
  rw[if_neg (by simp)] at hSP
  by_cases h3:ok=3∨ok=4∧b2=2
  ·have hf:forcedB ok ⟨b1,b2,b3,b4,b5,b6,b7⟩=true:=by
    rcases h3 with rfl|⟨rfl,rfl⟩<;>simp[forcedB]
   rw[if_pos hf] at hSP
   have lb1:∀ (p:Pr),laP x1 p=(if p.asd=true then p else {p with la:=p.la+x1}):=fun p=>rfl
   rcases h3 with rfl|⟨rfl,rfl⟩
   ·obtain ⟨n,rfl⟩:∃ n:Nat,oi=n:=⟨oi.toNat,by have:=hax rfl (.inr rfl);omega⟩
    simp only[Int.reduceEq,or_true,if_true,Int.toNat_natCast] at hSP
    subst hSP
    (try refine zI zk30 F M ?_;clear F M a;try clear w);(repeat'(first|refine zA ?_;repeat intro nb|refine zC ?_;refine acK (L1:=engB eb c s2::_) (k:=19) (hga2 _) ?_;rintro u L' ⟨gb2,rfl,rfl⟩|refine zB ?_ ?_<;>intro hc<;>try exact no hc|refine zH ?_ ?_<;>(intro hg;rw[hg];try exact no hg)));all_goals try refine zO fun a w F M=>?_
    (refine svLoop F M (0:Nat) (fun j=>[(86,.int .i64 j)]) (fun j=>[ownT 92 prmL 4 (sl h) (prTo (laP x1) P1 j)]) (fun j=>j≤P1.length) (fun j=>P1.length - j) [] (Nat.zero_le _) ?_ (hR:=by rw[prTo_zero];(repeat (first|exact Pulls.nil|(apply Pulls.cons;(focus ((repeat (first|exact Pull.here|apply Pull.there));done)))))))
    (rintro j t1 a w F M;(try simp only[zc,zn] at F M t1 ⊢))
    by_cases hj:j<P1.length
    ·obtain ⟨p,hp9⟩:∃ p,P1[j]? = some p:=⟨P1[j],by simp[hj]⟩
     obtain ⟨m1,m2,m3⟩:=prTo_step (f:=laP x1) hp9
     have hml:=prTo_len (laP x1) P1 j
     have hpl2:=hla2 p (List.mem_of_getElem? hp9)
     obtain ⟨pi,pd,pl,pa⟩:=p
     simp only at hpl2
     cases pa with
     | false =>
      rw[lb1,if_neg (by simp)] at m2
      have hsl:j<((prTo (laP x1) P1 j).set j (⟨pi,pd,pl+x1,false⟩:Pr)).length:=by rw[List.length_set,hml];exact hj
      (try refine zI zk30 F M ?_;clear F M a;try clear w);(repeat'(first|refine zA ?_;repeat intro nb|refine zC ?_;refine ac_storeE (f:=prmL) (v:=sl h) (j:=j) (k:=4) (i:=2) (xs:=prTo (laP x1) P1 j) rfl rfl inferInstance rfl rfl m1 inferInstance rfl (⟨pi,pd,pl+x1,false⟩:Pr) rfl (by(focus ((repeat (first|exact Rep.here|apply Rep.there));done))) ?_|refine zB ?_ ?_<;>intro hc<;>try exact no hc|refine zH ?_ ?_<;>(intro hg;rw[hg];try exact no hg)));all_goals try refine zO fun a w F M=>?_
      all_goals(rw[m2] at M;exact sv_again F M (j+1) kpA permsA (by omega) (by omega))
     | true =>
      (try refine zI zk30 F M ?_;clear F M a;try clear w);(repeat'(first|refine zA ?_;repeat intro nb|refine zB ?_ ?_<;>intro hc<;>try exact no hc|refine zH ?_ ?_<;>(intro hg;rw[hg];try exact no hg)));all_goals try refine zO fun a w F M=>?_
      all_goals(rw[m3 rfl] at M;exact sv_again F M (j+1) kpA permsA (by omega) (by omega))
    obtain rfl:j=P1.length:=by omega
    rw[prTo_all] at M
    (try refine zI zk30 F M ?_;clear F M a;try clear w);(repeat'(first|refine zA ?_;repeat intro nb|refine zC ?_;refine ac_appendH (f:=prmL) (xs:=P1.map (laP x1)) (ys:=[⟨n,y6,0,false⟩]) rfl rfl inferInstance rfl rfl pullA inferInstance (gs_own pullA) rfl rfl (by simp;omega) ?_;intro nv|refine zB ?_ ?_<;>intro hc<;>try exact no hc|refine zH ?_ ?_<;>(intro hg;rw[hg];try exact no hg)));all_goals try refine zO fun a w F M=>?_
    exact sv_again F M (⟨k+1,s2,hAdd 3 ⟨y1,0,y3,y4,y5,y6,y7,y8,y9⟩ q,nv,P1.map (laP x1)++[⟨n,y6,0,false⟩]⟩:PmZ) kpA permsA ⟨by simp only;omega,n1⟩ (by simp only;omega)
   ·simp only[Int.reduceEq,or_self,if_false,List.append_nil] at hSP
    subst hSP
    (try refine zI zk30 F M ?_;clear F M a;try clear w);(repeat'(first|refine zA ?_;repeat intro nb|refine zC ?_;refine acK (L1:=engB eb c s2::_) (k:=19) (hga2 _) ?_;rintro u L' ⟨gb2,rfl,rfl⟩|refine zB ?_ ?_<;>intro hc<;>try exact no hc|refine zH ?_ ?_<;>(intro hg;rw[hg];try exact no hg)));all_goals try refine zO fun a w F M=>?_
    (refine svLoop F M (0:Nat) (fun j=>[(86,.int .i64 j)]) (fun j=>[ownT 92 prmL 4 (sl h) (prTo (laP x1) P1 j)]) (fun j=>j≤P1.length) (fun j=>P1.length - j) [] (Nat.zero_le _) ?_ (hR:=by rw[prTo_zero];(repeat (first|exact Pulls.nil|(apply Pulls.cons;(focus ((repeat (first|exact Pull.here|apply Pull.there));done)))))))
    (rintro j t1 a w F M;(try simp only[zc,zn] at F M t1 ⊢))
    by_cases hj:j<P1.length
    ·obtain ⟨p,hp9⟩:∃ p,P1[j]? = some p:=⟨P1[j],by simp[hj]⟩
     obtain ⟨m1,m2,m3⟩:=prTo_step (f:=laP x1) hp9
     have hml:=prTo_len (laP x1) P1 j
     have hpl2:=hla2 p (List.mem_of_getElem? hp9)
     obtain ⟨pi,pd,pl,pa⟩:=p
     simp only at hpl2
     cases pa with
     | false =>
      rw[lb1,if_neg (by simp)] at m2
      have hsl:j<((prTo (laP x1) P1 j).set j (⟨pi,pd,pl+x1,false⟩:Pr)).length:=by rw[List.length_set,hml];exact hj
      (try refine zI zk30 F M ?_;clear F M a;try clear w);(repeat'(first|refine zA ?_;repeat intro nb|refine zC ?_;refine ac_storeE (f:=prmL) (v:=sl h) (j:=j) (k:=4) (i:=2) (xs:=prTo (laP x1) P1 j) rfl rfl inferInstance rfl rfl m1 inferInstance rfl (⟨pi,pd,pl+x1,false⟩:Pr) rfl (by(focus ((repeat (first|exact Rep.here|apply Rep.there));done))) ?_|refine zB ?_ ?_<;>intro hc<;>try exact no hc|refine zH ?_ ?_<;>(intro hg;rw[hg];try exact no hg)));all_goals try refine zO fun a w F M=>?_
      all_goals(rw[m2] at M;exact sv_again F M (j+1) kpA permsA (by omega) (by omega))
     | true =>
      (try refine zI zk30 F M ?_;clear F M a;try clear w);(repeat'(first|refine zA ?_;repeat intro nb|refine zB ?_ ?_<;>intro hc<;>try exact no hc|refine zH ?_ ?_<;>(intro hg;rw[hg];try exact no hg)));all_goals try refine zO fun a w F M=>?_
      all_goals(rw[m3 rfl] at M;exact sv_again F M (j+1) kpA permsA (by omega) (by omega))
    obtain rfl:j=P1.length:=by omega
    rw[prTo_all] at M
    (try refine zI zk30 F M ?_;clear F M a;try clear w);(repeat'(first|refine zA ?_;repeat intro nb|refine zB ?_ ?_<;>intro hc<;>try exact no hc|refine zH ?_ ?_<;>(intro hg;rw[hg];try exact no hg)));all_goals try refine zO fun a w F M=>?_
    exact sv_again F M (⟨k+1,s2,hAdd 4 ⟨y1,0,y3,y4,y5,y6,y7,y8,y9⟩ q,h,P1.map (laP x1)⟩:PmZ) kpA permsA ⟨by simp only;omega,n1⟩ (by simp only;omega)
  ·have hf:forcedB ok ⟨b1,b2,b3,b4,b5,b6,b7⟩=false:=by
    simp only[forcedB,Bool.or_eq_false_iff,decide_eq_false_iff_not,Bool.and_eq_false_iff];omega
   rw[if_neg (by rw[hf];simp)] at hSP
   have h31:ok≠3:=fun e=>h3 (.inl e)
   by_cases h2:ok=2
   ·subst h2
    obtain ⟨n,rfl⟩:∃ n:Nat,oi=n:=⟨oi.toNat,by have:=hax rfl (.inl rfl);omega⟩
    simp only[true_or,if_true,Int.toNat_natCast] at hSP
    subst hSP
    (try refine zI zk30 F M ?_;clear F M a;try clear w);(repeat'(first|refine zA ?_;repeat intro nb|refine zC ?_;(first|refine acK (L1:=engB eb c s2::_) (k:=19) (hga2 _) ?_;rintro u L' ⟨gb2,rfl,rfl⟩|refine ac_appendH (f:=prmL) (xs:=P1) (ys:=[⟨n,y6,0,false⟩]) rfl rfl inferInstance rfl rfl pullA inferInstance (gs_own pullA) rfl rfl (by simp;omega) ?_;intro nv)|refine zB ?_ ?_<;>intro hc<;>try exact no hc|refine zH ?_ ?_<;>(intro hg;rw[hg];try exact no hg)));all_goals try refine zO fun a w F M=>?_
    exact sv_again F M (⟨k+1,s2,hAdd 2 ⟨y1,0,y3,y4,y5,y6,y7,y8,y9⟩ q,nv,P1++[⟨n,y6,0,false⟩]⟩:PmZ) kpA permsA ⟨by simp only;omega,n1⟩ (by simp only;omega)
   ·rw[if_neg (by omega),List.append_nil] at hSP
    subst hSP
    by_cases h4:ok=4
    ·subst h4
     have hb2:b2≠2:=fun e=>h3 (.inr ⟨rfl,e⟩)
     (try refine zI zk30 F M ?_;clear F M a;try clear w);(repeat'(first|refine zA ?_;repeat intro nb|refine zC ?_;refine acK (L1:=engB eb c s2::_) (k:=19) (hga2 _) ?_;rintro u L' ⟨gb2,rfl,rfl⟩|refine zB ?_ ?_<;>intro hc<;>try exact no hc|refine zH ?_ ?_<;>(intro hg;rw[hg];try exact no hg)));all_goals try refine zO fun a w F M=>?_
     all_goals first|(exfalso;simp_all;done)|exact sv_again F M (⟨k+1,s2,hAdd 4 ⟨y1,0,y3,y4,y5,y6,y7,y8,y9⟩ q,h,P1⟩:PmZ) kpA permsA ⟨by simp only;omega,n1⟩ (by simp only;omega)
    ·(try refine zI zk30 F M ?_;clear F M a;try clear w);(repeat'(first|refine zA ?_;repeat intro nb|refine zC ?_;refine acK (L1:=engB eb c s2::_) (k:=19) (hga2 _) ?_;rintro u L' ⟨gb2,rfl,rfl⟩|refine zB ?_ ?_<;>intro hc<;>try exact no hc|refine zH ?_ ?_<;>(intro hg;rw[hg];try exact no hg)));all_goals try refine zO fun a w F M=>?_
     all_goals first|(exfalso;simp_all;done)|exact sv_again F M (⟨k+1,s2,hAdd ok ⟨y1,0,y3,y4,y5,y6,y7,y8,y9⟩ q,h,P1⟩:PmZ) kpA permsA ⟨by simp only;omega,n1⟩ (by simp only;omega)
 obtain rfl:k=l.length:=by omega
 (try refine zI zk30 F M ?_;clear F M a;try clear w);(repeat'(first|refine zA ?_;repeat intro nb|refine zB ?_ ?_<;>intro hc<;>try exact no hc|refine zH ?_ ?_<;>(intro hg;rw[hg];try exact no hg)));all_goals try refine zO fun a w F M=>?_
 all_goals refine zE F M ?_
 exact⟨_,_,rfl,⟨h,P,s,q,rfl,p2,rfl⟩,M.perms permsA⟩
end
end
end Go.Proofs.YtjbfcacmdahnhaaGreat
