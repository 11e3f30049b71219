import Derived.Test.YtjbfcacmdahnhaaGreatZkw
set_option linter.unusedVariables false
set_option linter.unusedSimpArgs false
set_option linter.unusedSectionVars false
set_option maxRecDepth 100000
set_option maxHeartbeats 8000000
namespace Go.Proofs.YtjbfcacmdahnhaaGreat
section
open Go.RowKit
section
variable (c:Cfg) (v:Value) (l:List Opn) (i:Int) (R:List Asn) (hg:GS R 4 v l.length (l.flatMap opL)) (h0:0≤c.forcedCap) (h1:0≤c.penNum) (hwf:∀ o∈l,I64 o.k∧U64 o.am)
include hg h0 h1 hwf
theorem keeps22_law:Spec 6 [cfgV c,v,.int .i64 i] R fun u L'=>u=.bool true∧L'=R:=by
 have hal:=fun R=>alive22_spec R
 by_cases hF:Fit c l.length
 ·have hck:=hF.ck
  have hcf:CfOk c:=cfOk_of hck h0 h1
  have hnl:=hF.n
  have hnw:=fun R=>newB c R hcf hck
  have hft:=fun (R:List Asn) hg=>fits_yes c v l R hg hF
  have hrn:=fun R=>rnewB c hcf R
  refine zGo Tryz.func6 ?_;intro G w M a F
  have hG:GS (R++G) 4 v l.length (l.flatMap opL):=Gives.app hg
  (try refine zI zk6 F M ?_;clear F M a;try clear w);(repeat'(first|refine zA ?_;repeat intro nb|refine zC ?_;(first|refine acW (k:=24) (hnw _) ?_;rintro u L' ⟨eb,rfl,rfl⟩|refine acW (k:=8) (hft _ ?_) ?_;exact gsA;rintro u L' ⟨rfl,rfl⟩|refine acW (k:=21) (hrn _) ?_;rintro u L' ⟨rb,rfl,rfl⟩)|refine zB ?_ ?_<;>intro hc<;>try exact no hc|refine zH ?_ ?_<;>(intro hg;rw[hg];try exact no hg)));all_goals try refine zO fun a w F M=>?_
  refine svLoop F M ((0,St.ini):Nat × St) (fun y=>[(44,.int .i64 y.1)]) (fun y=>[engB eb c y.2,refB rb c y.2]) (fun y=>y.1≤l.length∧Inv c y.2∧y.2.bk≤y.1) (fun y=>l.length - y.1) [] ⟨Nat.zero_le _,Inv.ini hcf,Nat.le_refl _⟩ ?_
  (rintro⟨k,s⟩ ⟨q1,q2,q3⟩ a w F M;(try simp only[zc,zn] at F M q1 q2 q3 ⊢))
  by_cases hk:k<l.length
  ·obtain ⟨o,ho⟩:∃ o,l[k]? = some o:=⟨l[k],by simp[hk]⟩
   obtain ⟨ho1,ho2⟩:=hwf o (List.mem_of_getElem? ho)
   have hap:=fun R=>applyB eb c s hcf R q2 (by omega) o ho1 ho2
   have hrp:=fun R=>rapplyB rb c s hcf R q2 (by omega) o ho2
   obtain ⟨n1,n2⟩:=stepM_inv hcf q2 (by omega) o ho2
   generalize stepM c s o=Y at *
   obtain ⟨⟨y1,y2,y3,y4,y5,y6,y7,y8,y9⟩,s2⟩:=Y
   simp only at hap hrp n1 n2
   obtain ⟨ok,oi,ot,oa⟩:=o
   (try refine zI zk6 F M ?_;clear F M a;try clear w);(repeat'(first|refine zA ?_;repeat intro nb|refine zC ?_;(first|refine acK (L1:=engB eb c s::_) (k:=26) (hap _) ?_;rintro u L' ⟨ha,hp,rfl,rfl⟩|refine acK (L1:=refB rb c s::_) (k:=27) (hrp _) ?_;rintro u L' ⟨ha2,hp2,rfl,rfl⟩)|refine zB ?_ ?_<;>intro hc<;>try exact no hc|refine zH ?_ ?_<;>(intro hg;rw[hg];try exact no hg)));all_goals try refine zO fun a w F M=>?_
   have hlp:=(gs_own (pullA:Pull _ (ownT 57 pmL 3 (sl hp) y9) _)).len_le M
   have hlq:=(gs_own (pullA:Pull _ (ownT 75 asgL 3 (sl ha) y8) _)).len_le M
   obtain ⟨n3,hn3⟩:∃ x,x=nb:=⟨nb,rfl⟩
   subst hn3
   refine svLoop F M ((0,y9):Nat × List Pm) (fun z=>[(57,.int .i64 z.1)]) (fun z=>[ownT 57 pmL 3 (sl hp) z.2]) (fun z=>z.1≤y9.length∧z.2.length=y9.length) (fun z=>y9.length - z.1) [13] ⟨Nat.zero_le _,rfl⟩ ?_
   (rintro⟨j,ys⟩ ⟨p1,p2⟩ a w F M;(try simp only[zc,zn] at F M p1 p2 ⊢))
   by_cases hj:j<y9.length
   ·obtain ⟨x,hx⟩:∃ x,ys[j]? = some x:=⟨ys[j]'(by omega),by rw[List.getElem?_eq_getElem]⟩
    obtain ⟨xi,xa,xf⟩:=x
    (try refine zI zk6 F M ?_;clear F M a;try clear w);(repeat'(first|refine zV (h:=⟨_,by((apply rt_addWk (k:=.u64) (m:=xa);(exact rfl);(exact rfl);(exact rfl))),?_⟩)|refine zA1 ?_;repeat intro(nb:Nat)|refine zC ?_;refine ac_storeE (f:=pmL) (v:=sl hp) (j:=j) (k:=3) (i:=1) (xs:=ys) rfl rfl inferInstance rfl rfl hx inferInstance rfl (⟨xi,IntKind.u64.wrap (xa+1),xf⟩:Pm) rfl (by(focus ((repeat (first|exact Rep.here|apply Rep.there));done))) ?_|refine zB ?_ ?_<;>intro hc<;>try exact no hc|refine zH ?_ ?_<;>(intro hg;rw[hg];try exact no hg)));all_goals try refine zO fun a w F M=>?_
    exact sv_again F M (j+1,ys.set j ⟨xi,IntKind.u64.wrap (xa+1),xf⟩) kpA permsA ⟨by simp only;omega,by simp only[List.length_set];exact p2⟩ (by simp only;omega)
   obtain rfl:j=y9.length:=by omega
   (try refine zI zk6 F M ?_;clear F M a;try clear w);(repeat'(first|refine zA ?_;repeat intro nb|refine zB ?_ ?_<;>intro hc<;>try exact no hc|refine zH ?_ ?_<;>(intro hg;rw[hg];try exact no hg)));all_goals try refine zO fun a w F M=>?_
   refine svLoop F M ((0,y8):Nat × List Asg) (fun z=>[(73,.int .i64 z.1)]) (fun z=>[ownT 75 asgL 3 (sl ha) z.2]) (fun z=>z.1≤y8.length∧z.2.length=y8.length) (fun z=>y8.length - z.1) [14] ⟨Nat.zero_le _,rfl⟩ ?_
   (rintro⟨j,ys⟩ ⟨p1,p2⟩ a w F M;(try simp only[zc,zn] at F M p1 p2 ⊢))
   by_cases hj:j<y8.length
   ·obtain ⟨x,hx⟩:∃ x,ys[j]? = some x:=⟨ys[j]'(by omega),by rw[List.getElem?_eq_getElem]⟩
    obtain ⟨xi,xc,xe⟩:=x
    (try refine zI zk6 F M ?_;clear F M a;try clear w);(repeat'(first|refine zV (h:=⟨_,by((apply rt_addWk (k:=.i64) (m:=xe);(exact rfl);(exact rfl);(exact rfl))),?_⟩)|refine zA1 ?_;repeat intro(nb:Nat)|refine zC ?_;refine ac_storeE (f:=asgL) (v:=sl ha) (j:=j) (k:=3) (i:=2) (xs:=ys) rfl rfl inferInstance rfl rfl hx inferInstance rfl (⟨xi,xc,IntKind.i64.wrap (xe+1)⟩:Asg) rfl (by(focus ((repeat (first|exact Rep.here|apply Rep.there));done))) ?_|refine zB ?_ ?_<;>intro hc<;>try exact no hc|refine zH ?_ ?_<;>(intro hg;rw[hg];try exact no hg)));all_goals try refine zO fun a w F M=>?_
    exact sv_again F M (j+1,ys.set j ⟨xi,xc,IntKind.i64.wrap (xe+1)⟩) kpA permsA ⟨by simp only;omega,by simp only[List.length_set];exact p2⟩ (by simp only;omega)
   obtain rfl:j=y8.length:=by omega
   (try refine zI zk6 F M ?_;clear F M a;try clear w);(repeat'(first|refine zA ?_;repeat intro nb|refine zB ?_ ?_<;>intro hc<;>try exact no hc|refine zH ?_ ?_<;>(intro hg;rw[hg];try exact no hg)));all_goals try refine zO fun a w F M=>?_
   exact sv_again F M (k+1,s2) kpA permsA ⟨by simp only;omega,n1,by simp only;omega⟩ (by simp only;omega)
  obtain rfl:k=l.length:=by omega
  have hl0:s.V.length≤4096:=by have:=q2.cap;have:=hcf.ca;omega
  have hsn:=fun R=>snapO eb c s R hcf q2
  (try refine zI zk6 F M ?_;clear F M a;try clear w);(repeat'(first|refine zA ?_;repeat intro nb|refine zC ?_;refine acK (L1:=engB eb c s::_) (k:=13) (hsn _) ?_;rintro u L' ⟨a1,a2,a3,a4,a5,a6,rfl,rfl⟩|refine zB ?_ ?_<;>intro hc<;>try exact no hc|refine zH ?_ ?_<;>(intro hg;rw[hg];try exact no hg)));all_goals try refine zO fun a w F M=>?_
  obtain ⟨n5,hn5⟩:∃ x,x=nb:=⟨nb,rfl⟩
  subst hn5
  obtain ⟨m2,hm2⟩:∃ m2,s.pe.map Int.ofNat=m2:=⟨_,rfl⟩
  obtain ⟨m3,hm3⟩:∃ m3,s.fo.map Int.ofNat=m3:=⟨_,rfl⟩
  obtain ⟨m4,hm4⟩:∃ m4,s.vo.map Int.ofNat=m4:=⟨_,rfl⟩
  obtain ⟨m5,hm5⟩:∃ m5,(s.me.map fun p=>((p.1:Int),(p.2:Int)))=m5:=⟨_,rfl⟩
  rw[hm2,hm3,hm4,hm5] at M
  have hlp2:=(gs_own (pullA:Pull _ (ownT 3 intL 1 (sl a2) m2) _)).len_le M
  have hlp3:=(gs_own (pullA:Pull _ (ownT 3 intL 1 (sl a3) m3) _)).len_le M
  have hlp4:=(gs_own (pullA:Pull _ (ownT 3 intL 1 (sl a4) m4) _)).len_le M
  have hlp5:=(gs_own (pullA:Pull _ (ownT 77 ipL 2 (sl a5) m5) _)).len_le M
  have hlp6:=(gs_own (pullA:Pull _ (ownT 79 rqL 2 (sl a6) s.pa) _)).len_le M
  refine svLoop F M ((0,s.V):Nat × List Val) (fun z=>[(92,.int .i64 z.1)]) (fun z=>[ownT 62 valL 7 (sl a1) z.2]) (fun z=>z.1≤s.V.length∧z.2.length=s.V.length) (fun z=>s.V.length - z.1) [16] ⟨Nat.zero_le _,rfl⟩ ?_
  (rintro⟨j,ys⟩ ⟨p1,p2⟩ a w F M;(try simp only[zc,zn] at F M p1 p2 ⊢))
  by_cases hj:j<s.V.length
  ·obtain ⟨x,hx⟩:∃ x,ys[j]? = some x:=⟨ys[j]'(by omega),by rw[List.getElem?_eq_getElem]⟩
   obtain ⟨bal,st,slz,rq,ex,wd,dl⟩:=x
   (try refine zI zk6 F M ?_;clear F M a;try clear w);(repeat'(first|refine zV (h:=⟨_,by((apply rt_addWk (k:=.u64) (m:=bal);(exact rfl);(exact rfl);(exact rfl))),?_⟩)|refine zA1 ?_;repeat intro(nb:Nat)|refine zC ?_;refine ac_storeE (f:=valL) (v:=sl a1) (j:=j) (k:=7) (i:=0) (xs:=ys) rfl rfl inferInstance rfl rfl hx inferInstance rfl (⟨IntKind.u64.wrap (bal+1),st,slz,rq,ex,wd,dl⟩:Val) rfl (by(focus ((repeat (first|exact Rep.here|apply Rep.there));done))) ?_|refine zB ?_ ?_<;>intro hc<;>try exact no hc|refine zH ?_ ?_<;>(intro hg;rw[hg];try exact no hg)));all_goals try refine zO fun a w F M=>?_
   exact sv_again F M (j+1,ys.set j ⟨IntKind.u64.wrap (bal+1),st,slz,rq,ex,wd,dl⟩) kpA permsA ⟨by simp only;omega,by simp only[List.length_set];exact p2⟩ (by simp only;omega)
  obtain rfl:j=s.V.length:=by omega
  (try refine zI zk6 F M ?_;clear F M a;try clear w);(repeat'(first|refine zA ?_;repeat intro nb|refine zB ?_ ?_<;>intro hc<;>try exact no hc|refine zH ?_ ?_<;>(intro hg;rw[hg];try exact no hg)));all_goals try refine zO fun a w F M=>?_
  have M2:=M.pull (pullA:Pull _ (ownT 44 slL 1 (sl ⟨some ⟨nb,0,none⟩,3,3⟩) [a2,a3,a4]) _)
  clear M;have M:=M2;clear M2
  obtain ⟨hh,hhe⟩:∃ hh:SlH,(⟨some ⟨nb,0,none⟩,3,3⟩:SlH)=hh:=⟨_,rfl⟩
  rw[hhe] at M
  have hh2:Value.slice (some ⟨nb,0,none⟩) 3 3=sl hh:=congrArg sl hhe
  rw[hh2] at F
  refine svLoop F M ((0,m2,m3,m4):Nat × List Int × List Int × List Int) (fun z=>[(113,.int .i64 z.1)]) (fun z=>[ownT 3 intL 1 (sl a2) z.2.1,ownT 3 intL 1 (sl a3) z.2.2.1,ownT 3 intL 1 (sl a4) z.2.2.2]) (fun z=>z.1≤3∧z.2.1.length=m2.length∧z.2.2.1.length=m3.length∧z.2.2.2.length=m4.length) (fun z=>3 - z.1) [18,19,117,118,119] ⟨Nat.zero_le _,rfl,rfl,rfl⟩ ?_
  (rintro⟨j,z2,z3,z4⟩ ⟨p1,p2,p3,p4⟩ a w F M;(try simp only[zc,zn] at F M p1 p2 p3 p4 ⊢))
  try dsimp only at p1 p2 p3 p4
  rcases (by omega:j=0∨j=1∨j=2∨j=3) with hj0|hj0|hj0|hj0
  ·have hx0:([a2,a3,a4]:List SlH)[j]? = some a2:=by rw[hj0];rfl
   have hlz:=(gs_own (pullA:Pull _ (ownT 3 intL 1 (sl a2) z2) _)).len_le M
   (try refine zI zk6 F M ?_;clear F M a;try clear w);(repeat'(first|refine zA ?_;repeat intro nb|refine zB ?_ ?_<;>intro hc<;>try exact no hc|refine zH ?_ ?_<;>(intro hg;rw[hg];try exact no hg)));all_goals try refine zO fun a w F M=>?_
   ((refine svLoop F M ((0,z2):Nat × List Int) (fun z=>[(119,.int .i64 z.1)]) (fun z=>[ownT 3 intL 1 (sl a2) z.2]) (fun z=>z.1≤(z2).length∧z.2.length=(z2).length) (fun z=>(z2).length - z.1) [19] ⟨Nat.zero_le _,rfl⟩ ?_);(rintro⟨g,ys⟩ ⟨r1,r2⟩ a w F M;(try simp only[zc,zn] at F M r1 r2 ⊢)))
   by_cases hj:g<z2.length
   ·obtain ⟨x,hx⟩:∃ x,ys[g]? = some x:=⟨ys[g]'(by omega),by rw[List.getElem?_eq_getElem]⟩
    (((try refine zI zk6 F M ?_;clear F M a;try clear w);(repeat'(first|refine zV (h:=⟨_,by((apply rt_addWk (k:=.i64) (m:=x);(exact rfl);(exact rfl);(exact rfl))),?_⟩)|refine zA1 ?_;repeat intro(nb:Nat)|refine zC ?_;refine ac_storeE (f:=intL) (v:=sl a2) (j:=g) (k:=1) (i:=0) (xs:=ys) rfl rfl inferInstance rfl rfl hx inferInstance rfl (IntKind.i64.wrap (x+1)) rfl (by(focus ((repeat (first|exact Rep.here|apply Rep.there));done))) ?_|refine zB ?_ ?_<;>intro hc<;>try exact no hc|refine zH ?_ ?_<;>(intro hg;rw[hg];try exact no hg)));all_goals try refine zO fun a w F M=>?_);exact sv_again F M (g+1,ys.set g (IntKind.i64.wrap (x+1))) kpA permsA ⟨by simp only;omega,by simp only[List.length_set];exact r2⟩ (by simp only;omega))
   obtain rfl:g=z2.length:=by omega
   (try refine zI zk6 F M ?_;clear F M a;try clear w);(repeat'(first|refine zA ?_;repeat intro nb|refine zB ?_ ?_<;>intro hc<;>try exact no hc|refine zH ?_ ?_<;>(intro hg;rw[hg];try exact no hg)));all_goals try refine zO fun a w F M=>?_
   exact sv_again F M (j+1,ys,z3,z4) kpA permsA ⟨by simp only;omega,by simp only;omega,by simp only;omega,by simp only;omega⟩ (by simp only;omega)
  ·have hx0:([a2,a3,a4]:List SlH)[j]? = some a3:=by rw[hj0];rfl
   have hlz:=(gs_own (pullA:Pull _ (ownT 3 intL 1 (sl a3) z3) _)).len_le M
   (try refine zI zk6 F M ?_;clear F M a;try clear w);(repeat'(first|refine zA ?_;repeat intro nb|refine zB ?_ ?_<;>intro hc<;>try exact no hc|refine zH ?_ ?_<;>(intro hg;rw[hg];try exact no hg)));all_goals try refine zO fun a w F M=>?_
   ((refine svLoop F M ((0,z3):Nat × List Int) (fun z=>[(119,.int .i64 z.1)]) (fun z=>[ownT 3 intL 1 (sl a3) z.2]) (fun z=>z.1≤(z3).length∧z.2.length=(z3).length) (fun z=>(z3).length - z.1) [19] ⟨Nat.zero_le _,rfl⟩ ?_);(rintro⟨g,ys⟩ ⟨r1,r2⟩ a w F M;(try simp only[zc,zn] at F M r1 r2 ⊢)))
   by_cases hj:g<z3.length
   ·obtain ⟨x,hx⟩:∃ x,ys[g]? = some x:=⟨ys[g]'(by omega),by rw[List.getElem?_eq_getElem]⟩
    (((try refine zI zk6 F M ?_;clear F M a;try clear w);(repeat'(first|refine zV (h:=⟨_,by((apply rt_addWk (k:=.i64) (m:=x);(exact rfl);(exact rfl);(exact rfl))),?_⟩)|refine zA1 ?_;repeat intro(nb:Nat)|refine zC ?_;refine ac_storeE (f:=intL) (v:=sl a3) (j:=g) (k:=1) (i:=0) (xs:=ys) rfl rfl inferInstance rfl rfl hx inferInstance rfl (IntKind.i64.wrap (x+1)) rfl (by(focus ((repeat (first|exact Rep.here|apply Rep.there));done))) ?_|refine zB ?_ ?_<;>intro hc<;>try exact no hc|refine zH ?_ ?_<;>(intro hg;rw[hg];try exact no hg)));all_goals try refine zO fun a w F M=>?_);exact sv_again F M (g+1,ys.set g (IntKind.i64.wrap (x+1))) kpA permsA ⟨by simp only;omega,by simp only[List.length_set];exact r2⟩ (by simp only;omega))
   obtain rfl:g=z3.length:=by omega
   (try refine zI zk6 F M ?_;clear F M a;try clear w);(repeat'(first|refine zA ?_;repeat intro nb|refine zB ?_ ?_<;>intro hc<;>try exact no hc|refine zH ?_ ?_<;>(intro hg;rw[hg];try exact no hg)));all_goals try refine zO fun a w F M=>?_
   exact sv_again F M (j+1,z2,ys,z4) kpA permsA ⟨by simp only;omega,by simp only;omega,by simp only;omega,by simp only;omega⟩ (by simp only;omega)
  ·have hx0:([a2,a3,a4]:List SlH)[j]? = some a4:=by rw[hj0];rfl
   have hlz:=(gs_own (pullA:Pull _ (ownT 3 intL 1 (sl a4) z4) _)).len_le M
   (try refine zI zk6 F M ?_;clear F M a;try clear w);(repeat'(first|refine zA ?_;repeat intro nb|refine zB ?_ ?_<;>intro hc<;>try exact no hc|refine zH ?_ ?_<;>(intro hg;rw[hg];try exact no hg)));all_goals try refine zO fun a w F M=>?_
   ((refine svLoop F M ((0,z4):Nat × List Int) (fun z=>[(119,.int .i64 z.1)]) (fun z=>[ownT 3 intL 1 (sl a4) z.2]) (fun z=>z.1≤(z4).length∧z.2.length=(z4).length) (fun z=>(z4).length - z.1) [19] ⟨Nat.zero_le _,rfl⟩ ?_);(rintro⟨g,ys⟩ ⟨r1,r2⟩ a w F M;(try simp only[zc,zn] at F M r1 r2 ⊢)))
   by_cases hj:g<z4.length
   ·obtain ⟨x,hx⟩:∃ x,ys[g]? = some x:=⟨ys[g]'(by omega),by rw[List.getElem?_eq_getElem]⟩
    (((try refine zI zk6 F M ?_;clear F M a;try clear w);(repeat'(first|refine zV (h:=⟨_,by((apply rt_addWk (k:=.i64) (m:=x);(exact rfl);(exact rfl);(exact rfl))),?_⟩)|refine zA1 ?_;repeat intro(nb:Nat)|refine zC ?_;refine ac_storeE (f:=intL) (v:=sl a4) (j:=g) (k:=1) (i:=0) (xs:=ys) rfl rfl inferInstance rfl rfl hx inferInstance rfl (IntKind.i64.wrap (x+1)) rfl (by(focus ((repeat (first|exact Rep.here|apply Rep.there));done))) ?_|refine zB ?_ ?_<;>intro hc<;>try exact no hc|refine zH ?_ ?_<;>(intro hg;rw[hg];try exact no hg)));all_goals try refine zO fun a w F M=>?_);exact sv_again F M (g+1,ys.set g (IntKind.i64.wrap (x+1))) kpA permsA ⟨by simp only;omega,by simp only[List.length_set];exact r2⟩ (by simp only;omega))
   obtain rfl:g=z4.length:=by omega
   (try refine zI zk6 F M ?_;clear F M a;try clear w);(repeat'(first|refine zA ?_;repeat intro nb|refine zB ?_ ?_<;>intro hc<;>try exact no hc|refine zH ?_ ?_<;>(intro hg;rw[hg];try exact no hg)));all_goals try refine zO fun a w F M=>?_
   exact sv_again F M (j+1,z2,z3,ys) kpA permsA ⟨by simp only;omega,by simp only;omega,by simp only;omega,by simp only;omega⟩ (by simp only;omega)
  subst hj0
  (try refine zI zk6 F M ?_;clear F M a;try clear w);(repeat'(first|refine zA ?_;repeat intro nb|refine zB ?_ ?_<;>intro hc<;>try exact no hc|refine zH ?_ ?_<;>(intro hg;rw[hg];try exact no hg)));all_goals try refine zO fun a w F M=>?_
  refine svLoop F M ((0,m5):Nat × List (Int × Int)) (fun z=>[(133,.int .i64 z.1)]) (fun z=>[ownT 77 ipL 2 (sl a5) z.2]) (fun z=>z.1≤(m5).length∧z.2.length=(m5).length) (fun z=>(m5).length - z.1) [20] ⟨Nat.zero_le _,rfl⟩ ?_
  (rintro⟨g,ys⟩ ⟨r1,r2⟩ a w F M;(try simp only[zc,zn] at F M r1 r2 ⊢))
  by_cases hj:g<(m5).length
  ·obtain ⟨x,hx⟩:∃ x,ys[g]? = some x:=⟨ys[g]'(by omega),by rw[List.getElem?_eq_getElem]⟩
   obtain ⟨xa,xb⟩:=x
   (try refine zI zk6 F M ?_;clear F M a;try clear w);(repeat'(first|refine zV (h:=⟨_,by((apply rt_addWk (k:=.i64) (m:=xa);(exact rfl);(exact rfl);(exact rfl))),?_⟩)|refine zA1 ?_;repeat intro(nb:Nat)|refine zC ?_;refine ac_storeE (f:=ipL) (v:=sl a5) (j:=g) (k:=2) (i:=0) (xs:=ys) rfl rfl inferInstance rfl rfl hx inferInstance rfl ((IntKind.i64.wrap (xa+1),xb):Int × Int) rfl (by(focus ((repeat (first|exact Rep.here|apply Rep.there));done))) ?_|refine zB ?_ ?_<;>intro hc<;>try exact no hc|refine zH ?_ ?_<;>(intro hg;rw[hg];try exact no hg)));all_goals try refine zO fun a w F M=>?_
   exact sv_again F M (g+1,ys.set g ((IntKind.i64.wrap (xa+1),xb):Int × Int)) kpA permsA ⟨by simp only;omega,by simp only[List.length_set];exact r2⟩ (by simp only;omega)
  obtain rfl:g=(m5).length:=by omega
  (try refine zI zk6 F M ?_;clear F M a;try clear w);(repeat'(first|refine zA ?_;repeat intro nb|refine zB ?_ ?_<;>intro hc<;>try exact no hc|refine zH ?_ ?_<;>(intro hg;rw[hg];try exact no hg)));all_goals try refine zO fun a w F M=>?_
  refine svLoop F M ((0,s.pa):Nat × List (Nat × Int)) (fun z=>[(149,.int .i64 z.1)]) (fun z=>[ownT 79 rqL 2 (sl a6) z.2]) (fun z=>z.1≤(s.pa).length∧z.2.length=(s.pa).length) (fun z=>(s.pa).length - z.1) [21] ⟨Nat.zero_le _,rfl⟩ ?_
  (rintro⟨g,ys⟩ ⟨r1,r2⟩ a w F M;(try simp only[zc,zn] at F M r1 r2 ⊢))
  by_cases hj:g<(s.pa).length
  ·obtain ⟨x,hx⟩:∃ x,ys[g]? = some x:=⟨ys[g]'(by omega),by rw[List.getElem?_eq_getElem]⟩
   obtain ⟨xi,xq⟩:=x
   (try refine zI zk6 F M ?_;clear F M a;try clear w);(repeat'(first|refine zV (h:=⟨_,by((apply rt_addWk (k:=.u64) (m:=xq);(exact rfl);(exact rfl);(exact rfl))),?_⟩)|refine zA1 ?_;repeat intro(nb:Nat)|refine zC ?_;refine ac_storeE (f:=rqL) (v:=sl a6) (j:=g) (k:=2) (i:=1) (xs:=ys) rfl rfl inferInstance rfl rfl hx inferInstance rfl ((xi,IntKind.u64.wrap (xq+1)):Nat × Int) rfl (by(focus ((repeat (first|exact Rep.here|apply Rep.there));done))) ?_|refine zB ?_ ?_<;>intro hc<;>try exact no hc|refine zH ?_ ?_<;>(intro hg;rw[hg];try exact no hg)));all_goals try refine zO fun a w F M=>?_
   exact sv_again F M (g+1,ys.set g ((xi,IntKind.u64.wrap (xq+1)):Nat × Int)) kpA permsA ⟨by simp only;omega,by simp only[List.length_set];exact r2⟩ (by simp only;omega)
  obtain rfl:g=(s.pa).length:=by omega
  (try refine zI zk6 F M ?_;clear F M a;try clear w);(repeat'(first|refine zA ?_;repeat intro nb|refine zB ?_ ?_<;>intro hc<;>try exact no hc|refine zH ?_ ?_<;>(intro hg;rw[hg];try exact no hg)));all_goals try refine zO fun a w F M=>?_
  by_cases hi:0≤i∧i<s.V.length
  ·obtain ⟨hi0,hi1⟩:=hi
   obtain ⟨n,rfl⟩:=Int.eq_ofNat_of_zero_le hi0
   have hin:n<s.V.length:=by omega
   obtain ⟨x,hx⟩:∃ x,s.V[n]? = some x:=⟨s.V[n]'(by omega),by rw[List.getElem?_eq_getElem]⟩
   have hge:=fun R=>getB eb c s R hl0 n x hx
   obtain ⟨zr,M2⟩:=Mem.open (f:=fun z:RH=>refL rb z c s []) M (pullA:Pull _ (refB rb c s) _)
   clear M;have M:=M2;clear M2
   have d2:decide ((n:Int)<(s.V.length:Int))=true:=by simpa using hin
   (try refine zI zk6 F M ?_;clear F M a;try clear w);(repeat'(first|refine zA ?_;repeat intro nb|refine zC ?_;refine kp (k:=19) (hge _) ?_|refine zB ?_ ?_<;>intro hc<;>try exact no hc|refine zH ?_ ?_<;>(intro hg;rw[hg];try exact no hg)));all_goals try refine zO fun a w F M=>?_
   rw[d2]
   (try refine zI zk6 F M ?_;clear F M a;try clear w);(repeat'(first|refine zV (h:=⟨_,by((apply(rt_neqT (f:=valL) (p:=x) (q:=x));(exact rfl);(exact rfl);(exact rfl);(exact inferInstance);(exact inferInstance))),?_⟩)|refine zA1 ?_;repeat intro(nb:Nat)|refine zC ?_;refine kp (k:=19) (hge _) ?_|refine zB ?_ ?_<;>intro hc<;>try exact no hc|refine zH ?_ ?_<;>(intro hg;rw[hg];try exact no hg)));all_goals try refine zO fun a w F M=>?_
   try rw[show decide (x≠x)=false by simp]
   (try refine zI zk6 F M ?_;clear F M a;try clear w);(repeat'(first|refine zA ?_;repeat intro nb|refine zC ?_;refine kp (k:=19) (hge _) ?_|refine zB ?_ ?_<;>intro hc<;>try exact no hc|refine zH ?_ ?_<;>(intro hg;rw[hg];try exact no hg)));all_goals try refine zO fun a w F M=>?_
   have M2:Mem _ (refB rb c s::_):=Mem.exc (f:=fun z:RH=>refL rb z c s []) zr (M.perms permsA)
   clear M;have M:=M2;clear M2
   have hal:=fun R=>alive22_spec R
   have hap0:=fun R=>applyN R ⟨7,0,0,0⟩
   have hcn:=fun R=>configN R
   have hsn0:=fun R=>snapN R
   have hrn0:=fun R hg=>runN R v l hg (by omega)
   have hsb:=fun R=>snapB eb c s R hcf q2
   have hsm:=fun (a1 a2 a3 a4 a5 a6:SlH) R=>same22B rb c s hcf q2 a1 a2 a3 a4 a5 a6 R
   (try refine zI zk6 F M ?_;clear F M a;try clear w);(repeat'(first|refine zV (h:=⟨_,by((exact rt_fieldV (ft:=43) (off:=2) rfl rfl (by kernel_rfl) inferInstance rfl)),?_⟩)|refine zA1 ?_;repeat intro(nb:Nat)|refine zC ?_;(first|refine kpW (k:=25) (hal _) ?_|refine kpW (k:=26) (hap0 _) ?_|refine kpW (k:=19) (getN0 _ _) ?_|refine kpW (k:=29) (hcn _) ?_|refine kpW (k:=13) (hsn0 _) ?_|refine acK (L1:=engB eb c s::_) (k:=13) (hsb _) ?_;rintro u L' ⟨b1,b2,b3,b4,b5,b6,rfl,rfl⟩|refine acK (L1:=snA s b1 b2 b3 b4 b5 b6::refB rb c s::_) (k:=23) (hsm b1 b2 b3 b4 b5 b6 _) ?_;rintro u L' ⟨rfl,rfl⟩|refine acCall (k:=20) ?_;refine Spec.of_reads (rsame_self (x:=⟨7,1,-1,0,0,-1,0,[],[]⟩) (sx:=nilH) (px:=nilH) (sy:=nilH) (py:=nilH) ⟨gsA,gsA⟩ ⟨gsA,gsA⟩) rfl ?_|refine acW (k:=28) (hrn0 _ ?_) ?_;exact gsA;rintro u L' ⟨hr,xs,⟨rfl,hxs⟩,rfl⟩)|refine zB ?_ ?_<;>intro hc<;>try exact no hc|refine zH ?_ ?_<;>(intro hg;rw[hg];try exact no hg)));all_goals try refine zO fun a w F M=>?_
   all_goals refine zE F M ?_
   all_goals exact⟨_,_,rfl,⟨by first|rfl|(simp_all [tupOf];done),rfl⟩,M.perms permsA⟩
  have hge:=fun R=>getNB eb c s R hl0 i (by omega)
  obtain ⟨zr,M2⟩:=Mem.open (f:=fun z:RH=>refL rb z c s []) M (pullA:Pull _ (refB rb c s) _)
  clear M;have M:=M2;clear M2
  by_cases h0:i<0
  ·(try refine zI zk6 F M ?_;clear F M a;try clear w);(repeat'(first|refine zA ?_;repeat intro nb|refine zC ?_;refine kp (k:=19) (hge _) ?_|refine zB ?_ ?_<;>intro hc<;>try exact no hc|refine zH ?_ ?_<;>(intro hg;rw[hg];try exact no hg)));all_goals try refine zO fun a w F M=>?_
   have M2:Mem _ (refB rb c s::_):=Mem.exc (f:=fun z:RH=>refL rb z c s []) zr (M.perms permsA)
   clear M;have M:=M2;clear M2
   have hal:=fun R=>alive22_spec R
   have hap0:=fun R=>applyN R ⟨7,0,0,0⟩
   have hcn:=fun R=>configN R
   have hsn0:=fun R=>snapN R
   have hrn0:=fun R hg=>runN R v l hg (by omega)
   have hsb:=fun R=>snapB eb c s R hcf q2
   have hsm:=fun (a1 a2 a3 a4 a5 a6:SlH) R=>same22B rb c s hcf q2 a1 a2 a3 a4 a5 a6 R
   (try refine zI zk6 F M ?_;clear F M a;try clear w);(repeat'(first|refine zV (h:=⟨_,by((exact rt_fieldV (ft:=43) (off:=2) rfl rfl (by kernel_rfl) inferInstance rfl)),?_⟩)|refine zA1 ?_;repeat intro(nb:Nat)|refine zC ?_;(first|refine kpW (k:=25) (hal _) ?_|refine kpW (k:=26) (hap0 _) ?_|refine kpW (k:=19) (getN0 _ _) ?_|refine kpW (k:=29) (hcn _) ?_|refine kpW (k:=13) (hsn0 _) ?_|refine acK (L1:=engB eb c s::_) (k:=13) (hsb _) ?_;rintro u L' ⟨b1,b2,b3,b4,b5,b6,rfl,rfl⟩|refine acK (L1:=snA s b1 b2 b3 b4 b5 b6::refB rb c s::_) (k:=23) (hsm b1 b2 b3 b4 b5 b6 _) ?_;rintro u L' ⟨rfl,rfl⟩|refine acCall (k:=20) ?_;refine Spec.of_reads (rsame_self (x:=⟨7,1,-1,0,0,-1,0,[],[]⟩) (sx:=nilH) (px:=nilH) (sy:=nilH) (py:=nilH) ⟨gsA,gsA⟩ ⟨gsA,gsA⟩) rfl ?_|refine acW (k:=28) (hrn0 _ ?_) ?_;exact gsA;rintro u L' ⟨hr,xs,⟨rfl,hxs⟩,rfl⟩)|refine zB ?_ ?_<;>intro hc<;>try exact no hc|refine zH ?_ ?_<;>(intro hg;rw[hg];try exact no hg)));all_goals try refine zO fun a w F M=>?_
   all_goals refine zE F M ?_
   all_goals exact⟨_,_,rfl,⟨by first|rfl|(simp_all [tupOf];done),rfl⟩,M.perms permsA⟩
  ·have d2:decide (i<(s.V.length:Int))=false:=by simp;omega
   (try refine zI zk6 F M ?_;clear F M a;try clear w);(repeat'(first|refine zA ?_;repeat intro nb|refine zC ?_;refine kp (k:=19) (hge _) ?_|refine zB ?_ ?_<;>intro hc<;>try exact no hc|refine zH ?_ ?_<;>(intro hg;rw[hg];try exact no hg)));all_goals try refine zO fun a w F M=>?_
   try rw[d2]
   (try refine zI zk6 F M ?_;clear F M a;try clear w);(repeat'(first|refine zA ?_;repeat intro nb|refine zC ?_;refine kp (k:=19) (hge _) ?_|refine zB ?_ ?_<;>intro hc<;>try exact no hc|refine zH ?_ ?_<;>(intro hg;rw[hg];try exact no hg)));all_goals try refine zO fun a w F M=>?_
   have M2:Mem _ (refB rb c s::_):=Mem.exc (f:=fun z:RH=>refL rb z c s []) zr (M.perms permsA)
   clear M;have M:=M2;clear M2
   have hal:=fun R=>alive22_spec R
   have hap0:=fun R=>applyN R ⟨7,0,0,0⟩
   have hcn:=fun R=>configN R
   have hsn0:=fun R=>snapN R
   have hrn0:=fun R hg=>runN R v l hg (by omega)
   have hsb:=fun R=>snapB eb c s R hcf q2
   have hsm:=fun (a1 a2 a3 a4 a5 a6:SlH) R=>same22B rb c s hcf q2 a1 a2 a3 a4 a5 a6 R
   (try refine zI zk6 F M ?_;clear F M a;try clear w);(repeat'(first|refine zV (h:=⟨_,by((exact rt_fieldV (ft:=43) (off:=2) rfl rfl (by kernel_rfl) inferInstance rfl)),?_⟩)|refine zA1 ?_;repeat intro(nb:Nat)|refine zC ?_;(first|refine kpW (k:=25) (hal _) ?_|refine kpW (k:=26) (hap0 _) ?_|refine kpW (k:=19) (getN0 _ _) ?_|refine kpW (k:=29) (hcn _) ?_|refine kpW (k:=13) (hsn0 _) ?_|refine acK (L1:=engB eb c s::_) (k:=13) (hsb _) ?_;rintro u L' ⟨b1,b2,b3,b4,b5,b6,rfl,rfl⟩|refine acK (L1:=snA s b1 b2 b3 b4 b5 b6::refB rb c s::_) (k:=23) (hsm b1 b2 b3 b4 b5 b6 _) ?_;rintro u L' ⟨rfl,rfl⟩|refine acCall (k:=20) ?_;refine Spec.of_reads (rsame_self (x:=⟨7,1,-1,0,0,-1,0,[],[]⟩) (sx:=nilH) (px:=nilH) (sy:=nilH) (py:=nilH) ⟨gsA,gsA⟩ ⟨gsA,gsA⟩) rfl ?_|refine acW (k:=28) (hrn0 _ ?_) ?_;exact gsA;rintro u L' ⟨hr,xs,⟨rfl,hxs⟩,rfl⟩)|refine zB ?_ ?_<;>intro hc<;>try exact no hc|refine zH ?_ ?_<;>(intro hg;rw[hg];try exact no hg)));all_goals try refine zO fun a w F M=>?_
   all_goals refine zE F M ?_
   all_goals exact⟨_,_,rfl,⟨by first|rfl|(simp_all [tupOf];done),rfl⟩,M.perms permsA⟩
 ·have hft:=fun (R:List Asn) hg=>fits_no c v l R hg hF
  by_cases hck:checkF c=0
  ·have hcf:CfOk c:=cfOk_of hck h0 h1
   have hnw:=fun R=>newB c R hcf hck
   refine zGo Tryz.func6 ?_;intro G w M a F
   have hG:GS (R++G) 4 v l.length (l.flatMap opL):=Gives.app hg
   (try refine zI zk6 F M ?_;clear F M a;try clear w);(repeat'(first|refine zA ?_;repeat intro nb|refine zC ?_;(first|refine kpW (k:=25) (hal _) ?_|refine acW (k:=24) (hnw _) ?_;rintro u L' ⟨eb,rfl,rfl⟩|refine acW (k:=8) (hft _ ?_) ?_;exact gsA;rintro u L' ⟨rfl,rfl⟩)|refine zB ?_ ?_<;>intro hc<;>try exact no hc|refine zH ?_ ?_<;>(intro hg;rw[hg];try exact no hg)));all_goals try refine zO fun a w F M=>?_
   all_goals refine zE F M ?_
   all_goals exact⟨_,_,rfl,⟨rfl,rfl⟩,M.perms permsA⟩
  ·have hnw:=fun R=>eng_newN c hck R
   refine zGo Tryz.func6 ?_;intro G w M a F
   have hG:GS (R++G) 4 v l.length (l.flatMap opL):=Gives.app hg
   (try refine zI zk6 F M ?_;clear F M a;try clear w);(repeat'(first|refine zA ?_;repeat intro nb|refine zC ?_;(first|refine kpW (k:=25) (hal _) ?_|refine kpW (k:=24) (hnw _) ?_|refine acW (k:=8) (hft _ ?_) ?_;exact gsA;rintro u L' ⟨rfl,rfl⟩)|refine zB ?_ ?_<;>intro hc<;>try exact no hc|refine zH ?_ ?_<;>(intro hg;rw[hg];try exact no hg)));all_goals try refine zO fun a w F M=>?_
   all_goals refine zE F M ?_
   all_goals exact⟨_,_,rfl,⟨rfl,rfl⟩,M.perms permsA⟩
end
end
end Go.Proofs.YtjbfcacmdahnhaaGreat
