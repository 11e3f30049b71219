import Derived.Test.YtopbohbkhljjgaaGreatZqo
set_option linter.unusedVariables false
set_option linter.unusedSimpArgs false
set_option maxRecDepth 100000
set_option maxHeartbeats 8000000
namespace Go.Proofs.YtopbohbkhljjgaaGreat
def zk136:List Nat:=[0,1,2,4,5,7,8,10,11,12,13,14,15,16,25,28,29,30,31,32,45,57,66,106]
def zd137:List ZR:=[⟨20,[2,7,8],[],[(2,[3,4,5,6])],[0,1,3,4,5,6,2,7,8,9,10,11,12,13]⟩,⟨21,[25],[],[(25,[21,22])],[0,1,2,3,4,5,6,7,8,9,10,11,12,13,14,15,16,17,18,19,20,21,22,23,24,25,26,27]⟩]
section
open Go.RowKit
theorem parsV_u64 (c:Cfg) (hcf:CfOk c):∀ (q:List (Nat × Int)) (Z:List Val × List Pm),(∀ v∈Z.1,U64 v.bal)→(∀ p∈Z.2,0≤p.am)→(∀ r∈q,0≤r.2)→(∀ v∈(q.foldl (parV c) Z).1,U64 v.bal)∧∀ p∈(q.foldl (parV c) Z).2,0≤p.am
 | [],Z,h,hp,_=>⟨h,hp⟩
 | r::q,Z,h,hp,hr=>by
  rw[List.foldl_cons]
  refine parsV_u64 c hcf q _ (parV_u64 c hcf Z h r (hr r (by simp))) ?_ fun x hx=>hr x (by simp[hx])
  unfold parV
  cases hv:Z.1[r.1]? with
  | none=>exact hp
  | some v =>
   simp only
   split
   ·intro p hp2
    rcases List.mem_append.1 hp2 with hp2|hp2
    ·exact hp p hp2
    ·simp only[List.mem_cons,List.not_mem_nil,or_false] at hp2
     subst hp2
     simp only;omega
   ·exact hp
theorem opM_pd (c:Cfg) (s:St) (o:Opn):(opM c s o).s.pd=s.pd∧(opM c s o).s.dep=s.dep+(if o.k=1∧(opM c s o).c=0 then o.am else 0):=by
 unfold opM
 by_cases h1:o.k=1
 ·simp only[h1,if_true,true_and]
  unfold opDep no'
  repeat' split
  all_goals first|exact⟨rfl,rfl⟩|(refine⟨rfl,?_⟩;simp;done)|(simp_all;done)|skip
 ·simp only[h1,if_false,false_and,Int.add_zero]
  unfold opLeave opSlash opMerge opPart no'
  repeat'(first|exact⟨rfl,rfl⟩|split|dsimp only)
structure CsOk (s:St) (o:Opn) (s2:St) (r:Rc):Prop where
 pd:s2.pd=s.pd+(r.pms.map (·.am)).sum
 am:∀ p∈r.pms,0≤p.am
 dep:s2.dep=s.dep+(if o.k=1∧r.c=0 then o.am else 0)
 np:r.pms.length≤4096
theorem step_cs {c:Cfg} (hcf:CfOk c) {s:St} (h:Inv c s) (hb:s.bk<1000000000) (o:Opn):CsOk s o (stepM c s o).2 (stepM c s o).1:=by
 have hpy:=hcf.py
 unfold stepM
 by_cases h7:o.k=7
 ·rw[if_pos h7]
  have key:∀ B:Bd,Inv c B.s→B.s.pd=s.pd→B.s.dep=s.dep→CsOk s o (payM c B.s).s ⟨7,0,-1,s.bk+1,epo c {s with bk:=s.bk+1},-1,(payM c B.s).vi,B.ag,(payM c B.s).pm⟩:=fun B hB e1 e2=>by
   obtain ⟨hI,l,hP⟩:=payM_inv hcf hB
   have hnp:=hP.np
   have hU:∀ v∈B.s.V,U64 v.bal:=fun v hv=>by
    have hm:v.bal∈bals B.s.V:=List.mem_map.2 ⟨v,hv,rfl⟩
    have h1:=sum_mem_le _ hB.bal0 _ hm
    have h2:=hB.sup;have h3:=hcf.sc
    exact⟨hB.bal0 _ hm,by omega⟩
   obtain ⟨z1,z2⟩:=parsV_u64 c hcf (B.s.pa.take c.partials.toNat) (B.s.V,[]) hU (by simp) fun r hr=>by have:=hB.pa r (List.mem_of_mem_take hr);omega
   refine⟨?_,?_,?_,by simp only;omega⟩
   ·show(payM c B.s).s.pd=s.pd+((payM c B.s).pm.map (·.am)).sum
    rw[← e1];rfl
   ·simp only
    intro p hp
    rw[hP.pm] at hp
    rcases List.mem_append.1 hp with hp|hp
    ·exact z2 p hp
    ·obtain ⟨i,hi,rfl⟩:=List.mem_map.1 hp
     obtain ⟨v,hv,_⟩:=hP.st i hi
     simp only
     rw[getD_some hv]
     exact(z1 v (List.mem_of_getElem? hv)).1
   ·rw[if_neg (by rintro⟨h1,_⟩;omega),Int.add_zero]
    show(payM c B.s).s.dep=s.dep
    rw[← e2];rfl
  unfold tickM
  by_cases hz:((s.bk+1:Nat):Int) % c.epochLen=0
  ·simp only[if_pos hz]
   exact key _ (boundM_inv hcf h hb hz) rfl rfl
  ·simp only[if_neg hz]
   exact key ⟨[],{s with bk:=s.bk+1}⟩ (Inv.same hcf h hb hz) rfl rfl
 ·rw[if_neg h7]
  obtain ⟨h1,h2⟩:=opM_pd c s o
  exact⟨by simp only[List.map_nil,List.sum_nil,Int.add_zero];exact h1,by simp,h2,by simp⟩
section
variable (c:Cfg) (v:Value) (l:List Opn) (R:List Asn) (hg:GS R 4 v l.length (l.flatMap opL)) (h0:0≤c.forcedCap) (h1:0≤c.penNum) (hwf:∀ o∈l,I64 o.k∧U64 o.am)
include hg h0 h1 hwf
theorem conserves_law:Spec 10 [cfgV c,v] R fun u L'=>u=.bool true∧L'=R:=by
 have hal:=fun R=>alive22_spec R
 by_cases hF:Fit c l.length
 ·have hck:=hF.ck
  have hcf:CfOk c:=cfOk_of hck h0 h1
  have hnl:=hF.n
  have hnw:=fun R=>eng_new c hcf hck R
  have hft:=fun (R:List Asn) hg=>fits_yes c v l R hg hF
  have hca:=hcf.ca;have hsc:=hcf.sc
  (intro G w M;refine sx_enter (vs:=([cfgV c,v]:List Value)) Tryz.func10 (n:=109) rfl rfl rfl rfl ?_;intro a F;(try simp only[zc,zn] at M))
  have hG:GS (R++G) 4 v l.length (l.flatMap opL):=Gives.app hg
  (repeat'(first|(first|refine sx_nil ?_|refine pv_nil ?_;intro a w F M);try replace F:=F.filt zk136 rfl|refine zn1 F M ?_;clear F M a;(try clear w);intro a w F M|refine sv2 F M ?_;clear F M a;intro nb a w F M|refine zp1 ?_|refine zp2 ?_;intro nb|((first|refine svC F M ?_|refine svC0 F M ?_|refine pvC ?_|refine pvC0 ?_);((first|((refine acW (k:=28) (hnw _) ?_);rintro u L' ⟨eb,H,rfl,rfl⟩)|((refine acW (k:=29) (hft _ ?_) ?_);(exact gsA);rintro u L' ⟨rfl,rfl⟩)));(first|refine⟨rvsA,?_⟩|clear F M a;intro a w F M|clear M;intro w M))|refine zh F ?_ ?_<;>(intro hg;rw[hg] at F;try exact no hg)|refine zT F ?_|((with_reducible refine isK ?_);refine svB F ?_ ?_<;>intro hc<;>try exact no hc)|((with_reducible refine isD ?_);(first|(refine zD zd137 F M ?_;clear F M a w)))|refine zY ?_;go_step|fail))
  refine svLoop F M ((0,H,St.ini):Nat × EH × St) (fun z=>[(31,.int .i64 z.1),(7,.int .u64 z.2.2.dep),(8,.int .u64 z.2.2.pd)]) (fun z=>engL eb z.2.1 c z.2.2 []) (fun z=>z.1≤l.length∧Inv c z.2.2∧z.2.2.bk≤z.1) (fun z=>l.length - z.1) [] ⟨Nat.zero_le _,Inv.ini hcf,Nat.le_refl _⟩ ?_ (hR:=by(repeat (first|exact Pulls.nil|(apply Pulls.cons;(focus ((repeat (first|exact Pull.here|apply Pull.there));done))))))
  (rintro⟨k,H3,s⟩ ⟨q1,q2,q3⟩ a w F M;(try simp only[zc,zn] at F M q1 q2 q3 ⊢))
  by_cases hk:k<l.length
  ·obtain ⟨o,ho⟩:∃ o,l[k]? = some o:=⟨l[k],by simp[hk]⟩
   obtain ⟨ho1,ho2⟩:=hwf o (List.mem_of_getElem? ho)
   have hap:=fun R=>apply_spec eb H3 c s R hcf q2 (by omega) o ho1 ho2
   obtain ⟨n1,n2⟩:=stepM_inv hcf q2 (by omega) o ho2
   obtain ⟨c1,c2,c3,c4⟩:=step_cs hcf q2 (by omega) o
   simp only[apQ] at hap
   generalize stepM c s o=Y at *
   obtain ⟨⟨y1,y2,y3,y4,y5,y6,y7,y8,y9⟩,s2⟩:=Y
   simp only at hap n1 n2 c1 c2 c3 c4
   obtain ⟨P,hP⟩:∃ P,(y9.map (·.am)).sum=P:=⟨_,rfl⟩
   rw[hP] at c1
   have t2:=n1.tot
   have tsum:=n1.sum
   have tsup:=n1.sup
   have tcap:=n1.cap
   have tb0:=n1.bal0
   have ts0:=sum_nonneg _ tb0
   have hP0:0≤P:=by rw[← hP];exact sum_nonneg _ fun x hx=>by obtain ⟨p,hp,rfl⟩:=List.mem_map.1 hx;exact c2 p hp
   have t0:=q2.tot
   have hpd:∀ {L:List Asn} {v:Value} {ha hp:SlH},GS L 9 v 1 ([(⟨⟨y1,y2,y3,y4,y5,y6,y7,y8,y9⟩,ha,hp⟩:RcS)].flatMap rsL)→RcG L ⟨y1,y2,y3,y4,y5,y6,y7,y8,y9⟩ ha hp→Reads 37 [v] (.tuple [.int .u64 P,.bool true].toArray) L:=fun {L v ha hp} g1 g2=>by
    have ea:amts [(⟨⟨y1,y2,y3,y4,y5,y6,y7,y8,y9⟩,ha,hp⟩:RcS)]=y9.map (·.am):=by simp[amts]
    have hu:∀ z∈y9.map (·.am),U64 z:=fun z hz=>by
     have h1:0≤z:=by obtain ⟨p,hp,rfl⟩:=List.mem_map.1 hz;exact c2 p hp
     have h2:=sum_mem_le (y9.map (·.am)) (fun x hx=>by obtain ⟨p,hp,rfl⟩:=List.mem_map.1 hx;exact c2 p hp) z hz
     exact⟨h1,by omega⟩
    have:=paid_spec v [(⟨⟨y1,y2,y3,y4,y5,y6,y7,y8,y9⟩,ha,hp⟩:RcS)] g1 (by simp only[List.mem_cons,List.not_mem_nil,or_false];rintro x rfl;exact g2) (by simp) (by simp only[List.mem_cons,List.not_mem_nil,or_false];rintro x rfl;simp only;omega) (by rw[ea];exact hu)
    rw[ea,addR_sum _ (fun z hz=>(hu z hz).1),hP,if_neg (by omega)] at this
    exact this
   have hsn:=fun (H:EH) R=>snap_spec eb H c s2 hcf n1 R
   have hU:∀ z∈bals s2.V,U64 z:=fun z hz=>⟨tb0 z hz,by have:=sum_mem_le _ tb0 z hz;omega⟩
   have had:addR (bals s2.V)=((bals s2.V).sum,true):=by rw[addR_sum _ tb0,if_neg (by omega)]
   have hfi:=fun (a:SlH) (R:List Asn) hg=>rfits7_spec s2.V (sl a) R hg (by omega) hU
   have hto:=fun (a:SlH) (R:List Asn) hg=>rtotal7_spec s2.V (sl a) R hg (by omega) hU
   rw[had] at hfi hto
   have hal0:=actv_le s2.V tb0
   have hav:=fun (a:SlH) (R:List Asn) hg=>ractive_spec s2.V (sl a) R hg (by omega) tb0 (by omega)
   obtain ⟨S,hS⟩:∃ S,(bals s2.V).sum=S:=⟨_,rfl⟩
   rw[hS] at hto tsum tsup ts0
   have hga:∀ {L:List Asn} {v:Value},GS L 1 v 3 ([S,s2.pd,s2.bu].flatMap u64L)→Reads 39 [v] (.tuple [.int .u64 s2.dep,.bool true].toArray) L:=fun {L v} hg=>by
    have:=gadd_reads v [S,s2.pd,s2.bu] (by simp only[List.mem_cons,List.not_mem_nil,or_false];rintro z (rfl|rfl|rfl)<;>exact⟨by omega,by omega⟩) hg
    rw[addR_sum _ (by simp only[List.mem_cons,List.not_mem_nil,or_false];rintro z (rfl|rfl|rfl)<;>omega)] at this
    have e:[S,s2.pd,s2.bu].sum=s2.dep:=by simp;omega
    rw[e,if_neg (by omega)] at this
    exact this
   obtain ⟨ok,oi,ot,oa⟩:=o
   simp only at c3
   have o1:=ho2.1
   simp only at o1
   have d1:∀ a1 a2 a3 a4 a5 a6:SlH,decide (s2.dep≠(snOf c s2 a1 a2 a3 a4 a5 a6).dep)=false:=fun _ _ _ _ _ _=>decide_eq_false fun h=>h rfl
   have d3:∀ a1 a2 a3 a4 a5 a6:SlH,decide ((snOf c s2 a1 a2 a3 a4 a5 a6).pd≠s.pd+P)=false:=fun _ _ _ _ _ _=>decide_eq_false fun h=>h c1
   have d4:decide (actv s2.V≠actv s2.V)=false:=by simp
   by_cases hk1:ok=1∧y2=0
   ·rw[if_pos hk1] at c3
    obtain ⟨rfl,rfl⟩:=hk1
    have d2:∀ a1 a2 a3 a4 a5 a6:SlH,decide ((snOf c s2 a1 a2 a3 a4 a5 a6).dep≠s.dep+(⟨1,oi,ot,oa⟩:Opn).am)=false:=fun _ _ _ _ _ _=>decide_eq_false fun h=>h c3
    (repeat'(first|(first|refine sx_nil ?_|refine pv_nil ?_;intro a w F M);try replace F:=F.filt zk136 rfl|refine zn1 F M ?_;clear F M a;(try clear w);intro a w F M|refine sv2 F M ?_;clear F M a;intro nb a w F M|refine zp1 ?_|refine zp2 ?_;intro nb|((first|refine svC F M ?_|refine svC0 F M ?_|refine pvC ?_|refine pvC0 ?_);((first|(refine acK (L1:=engL eb H3 c s _) (k:=31) (hap _) ?_;rintro u L' ⟨ha,hp,H4,rfl,rfl⟩)|((refine acCall (k:=37) ?_);(refine Spec.of_reads (hpd (ha:=ha) (hp:=hp) (gs_own pullA) ⟨gsA,gsA⟩) rfl ?_))|(refine acK (L1:=engL eb H4 c s2 _) (k:=33) (hsn H4 _) ?_;rintro u L' ⟨b1,b2,b3,b4,b5,b6,rfl,rfl⟩)|((refine acW (k:=38) (hfi b1 _ ?_) ?_);(exact gsA);rintro u L' ⟨rfl,rfl⟩)|((refine acW (k:=40) (hto b1 _ ?_) ?_);(exact gsA);rintro u L' ⟨rfl,rfl⟩)|((refine acCall (k:=39) ?_);(refine Spec.of_reads (hga (gs_own pullA)) rfl ?_))|((refine acW (k:=41) (hav b1 _ ?_) ?_);(exact gsA);rintro u L' ⟨rfl,rfl⟩)));(first|refine⟨rvsA,?_⟩|clear F M a;intro a w F M|clear M;intro w M))|refine zh F ?_ ?_<;>(intro hg;rw[hg] at F;try exact no hg)|refine zT F ?_|((with_reducible refine isK ?_);refine svB F ?_ ?_<;>intro hc<;>try exact no hc)|((with_reducible refine isD ?_);(first|(refine zD zd137 F M ?_;clear F M a w)))|refine zY ?_;go_step|fail))
    rw[d1]
    (repeat'(first|(first|refine sx_nil ?_|refine pv_nil ?_;intro a w F M);try replace F:=F.filt zk136 rfl|refine zn1 F M ?_;clear F M a;(try clear w);intro a w F M|refine sv2 F M ?_;clear F M a;intro nb a w F M|refine zp1 ?_|refine zp2 ?_;intro nb|((first|refine svC F M ?_|refine svC0 F M ?_|refine pvC ?_|refine pvC0 ?_);((first|(refine acK (L1:=engL eb H3 c s _) (k:=31) (hap _) ?_;rintro u L' ⟨ha,hp,H4,rfl,rfl⟩)|((refine acCall (k:=37) ?_);(refine Spec.of_reads (hpd (ha:=ha) (hp:=hp) (gs_own pullA) ⟨gsA,gsA⟩) rfl ?_))|(refine acK (L1:=engL eb H4 c s2 _) (k:=33) (hsn H4 _) ?_;rintro u L' ⟨b1,b2,b3,b4,b5,b6,rfl,rfl⟩)|((refine acW (k:=38) (hfi b1 _ ?_) ?_);(exact gsA);rintro u L' ⟨rfl,rfl⟩)|((refine acW (k:=40) (hto b1 _ ?_) ?_);(exact gsA);rintro u L' ⟨rfl,rfl⟩)|((refine acCall (k:=39) ?_);(refine Spec.of_reads (hga (gs_own pullA)) rfl ?_))|((refine acW (k:=41) (hav b1 _ ?_) ?_);(exact gsA);rintro u L' ⟨rfl,rfl⟩)));(first|refine⟨rvsA,?_⟩|clear F M a;intro a w F M|clear M;intro w M))|refine zh F ?_ ?_<;>(intro hg;rw[hg] at F;try exact no hg)|refine zT F ?_|((with_reducible refine isK ?_);refine svB F ?_ ?_<;>intro hc<;>try exact no hc)|((with_reducible refine isD ?_);(first|(refine zD zd137 F M ?_;clear F M a w)))|refine zY ?_;go_step|fail))
    rw[d2]
    (repeat'(first|(first|refine sx_nil ?_|refine pv_nil ?_;intro a w F M);try replace F:=F.filt zk136 rfl|refine zn1 F M ?_;clear F M a;(try clear w);intro a w F M|refine sv2 F M ?_;clear F M a;intro nb a w F M|refine zp1 ?_|refine zp2 ?_;intro nb|((first|refine svC F M ?_|refine svC0 F M ?_|refine pvC ?_|refine pvC0 ?_);((first|(refine acK (L1:=engL eb H3 c s _) (k:=31) (hap _) ?_;rintro u L' ⟨ha,hp,H4,rfl,rfl⟩)|((refine acCall (k:=37) ?_);(refine Spec.of_reads (hpd (ha:=ha) (hp:=hp) (gs_own pullA) ⟨gsA,gsA⟩) rfl ?_))|(refine acK (L1:=engL eb H4 c s2 _) (k:=33) (hsn H4 _) ?_;rintro u L' ⟨b1,b2,b3,b4,b5,b6,rfl,rfl⟩)|((refine acW (k:=38) (hfi b1 _ ?_) ?_);(exact gsA);rintro u L' ⟨rfl,rfl⟩)|((refine acW (k:=40) (hto b1 _ ?_) ?_);(exact gsA);rintro u L' ⟨rfl,rfl⟩)|((refine acCall (k:=39) ?_);(refine Spec.of_reads (hga (gs_own pullA)) rfl ?_))|((refine acW (k:=41) (hav b1 _ ?_) ?_);(exact gsA);rintro u L' ⟨rfl,rfl⟩)));(first|refine⟨rvsA,?_⟩|clear F M a;intro a w F M|clear M;intro w M))|refine zh F ?_ ?_<;>(intro hg;rw[hg] at F;try exact no hg)|refine zT F ?_|((with_reducible refine isK ?_);refine svB F ?_ ?_<;>intro hc<;>try exact no hc)|((with_reducible refine isD ?_);(first|(refine zD zd137 F M ?_;clear F M a w)))|refine zY ?_;go_step|fail))
    rw[d3]
    (repeat'(first|(first|refine sx_nil ?_|refine pv_nil ?_;intro a w F M);try replace F:=F.filt zk136 rfl|refine zn1 F M ?_;clear F M a;(try clear w);intro a w F M|refine sv2 F M ?_;clear F M a;intro nb a w F M|refine zp1 ?_|refine zp2 ?_;intro nb|((first|refine svC F M ?_|refine svC0 F M ?_|refine pvC ?_|refine pvC0 ?_);((first|(refine acK (L1:=engL eb H3 c s _) (k:=31) (hap _) ?_;rintro u L' ⟨ha,hp,H4,rfl,rfl⟩)|((refine acCall (k:=37) ?_);(refine Spec.of_reads (hpd (ha:=ha) (hp:=hp) (gs_own pullA) ⟨gsA,gsA⟩) rfl ?_))|(refine acK (L1:=engL eb H4 c s2 _) (k:=33) (hsn H4 _) ?_;rintro u L' ⟨b1,b2,b3,b4,b5,b6,rfl,rfl⟩)|((refine acW (k:=38) (hfi b1 _ ?_) ?_);(exact gsA);rintro u L' ⟨rfl,rfl⟩)|((refine acW (k:=40) (hto b1 _ ?_) ?_);(exact gsA);rintro u L' ⟨rfl,rfl⟩)|((refine acCall (k:=39) ?_);(refine Spec.of_reads (hga (gs_own pullA)) rfl ?_))|((refine acW (k:=41) (hav b1 _ ?_) ?_);(exact gsA);rintro u L' ⟨rfl,rfl⟩)));(first|refine⟨rvsA,?_⟩|clear F M a;intro a w F M|clear M;intro w M))|refine zh F ?_ ?_<;>(intro hg;rw[hg] at F;try exact no hg)|refine zT F ?_|((with_reducible refine isK ?_);refine svB F ?_ ?_<;>intro hc<;>try exact no hc)|((with_reducible refine isD ?_);(first|(refine zD zd137 F M ?_;clear F M a w)))|refine zY ?_;go_step|fail))
    try simp only at F
    rw[← c3,← c1] at F
    exact sv_again F M (k+1,H4,s2) kpA permsA ⟨by simp only;omega,n1,by simp only;omega⟩ (by simp only;omega)
   ·rw[if_neg hk1,Int.add_zero] at c3
    have d2:∀ a1 a2 a3 a4 a5 a6:SlH,decide ((snOf c s2 a1 a2 a3 a4 a5 a6).dep≠s.dep)=false:=fun _ _ _ _ _ _=>decide_eq_false fun h=>h c3
    by_cases hk2:ok=1
    ·have hk3:y2≠0:=fun e=>hk1 ⟨hk2,e⟩
     (repeat'(first|(first|refine sx_nil ?_|refine pv_nil ?_;intro a w F M);try replace F:=F.filt zk136 rfl|refine zn1 F M ?_;clear F M a;(try clear w);intro a w F M|refine sv2 F M ?_;clear F M a;intro nb a w F M|refine zp1 ?_|refine zp2 ?_;intro nb|((first|refine svC F M ?_|refine svC0 F M ?_|refine pvC ?_|refine pvC0 ?_);((first|(refine acK (L1:=engL eb H3 c s _) (k:=31) (hap _) ?_;rintro u L' ⟨ha,hp,H4,rfl,rfl⟩)|((refine acCall (k:=37) ?_);(refine Spec.of_reads (hpd (ha:=ha) (hp:=hp) (gs_own pullA) ⟨gsA,gsA⟩) rfl ?_))|(refine acK (L1:=engL eb H4 c s2 _) (k:=33) (hsn H4 _) ?_;rintro u L' ⟨b1,b2,b3,b4,b5,b6,rfl,rfl⟩)|((refine acW (k:=38) (hfi b1 _ ?_) ?_);(exact gsA);rintro u L' ⟨rfl,rfl⟩)|((refine acW (k:=40) (hto b1 _ ?_) ?_);(exact gsA);rintro u L' ⟨rfl,rfl⟩)|((refine acCall (k:=39) ?_);(refine Spec.of_reads (hga (gs_own pullA)) rfl ?_))|((refine acW (k:=41) (hav b1 _ ?_) ?_);(exact gsA);rintro u L' ⟨rfl,rfl⟩)));(first|refine⟨rvsA,?_⟩|clear F M a;intro a w F M|clear M;intro w M))|refine zh F ?_ ?_<;>(intro hg;rw[hg] at F;try exact no hg)|refine zT F ?_|((with_reducible refine isK ?_);refine svB F ?_ ?_<;>intro hc<;>try exact no hc)|((with_reducible refine isD ?_);(first|(refine zD zd137 F M ?_;clear F M a w)))|refine zY ?_;go_step|fail))
     rw[d1]
     (repeat'(first|(first|refine sx_nil ?_|refine pv_nil ?_;intro a w F M);try replace F:=F.filt zk136 rfl|refine zn1 F M ?_;clear F M a;(try clear w);intro a w F M|refine sv2 F M ?_;clear F M a;intro nb a w F M|refine zp1 ?_|refine zp2 ?_;intro nb|((first|refine svC F M ?_|refine svC0 F M ?_|refine pvC ?_|refine pvC0 ?_);((first|(refine acK (L1:=engL eb H3 c s _) (k:=31) (hap _) ?_;rintro u L' ⟨ha,hp,H4,rfl,rfl⟩)|((refine acCall (k:=37) ?_);(refine Spec.of_reads (hpd (ha:=ha) (hp:=hp) (gs_own pullA) ⟨gsA,gsA⟩) rfl ?_))|(refine acK (L1:=engL eb H4 c s2 _) (k:=33) (hsn H4 _) ?_;rintro u L' ⟨b1,b2,b3,b4,b5,b6,rfl,rfl⟩)|((refine acW (k:=38) (hfi b1 _ ?_) ?_);(exact gsA);rintro u L' ⟨rfl,rfl⟩)|((refine acW (k:=40) (hto b1 _ ?_) ?_);(exact gsA);rintro u L' ⟨rfl,rfl⟩)|((refine acCall (k:=39) ?_);(refine Spec.of_reads (hga (gs_own pullA)) rfl ?_))|((refine acW (k:=41) (hav b1 _ ?_) ?_);(exact gsA);rintro u L' ⟨rfl,rfl⟩)));(first|refine⟨rvsA,?_⟩|clear F M a;intro a w F M|clear M;intro w M))|refine zh F ?_ ?_<;>(intro hg;rw[hg] at F;try exact no hg)|refine zT F ?_|((with_reducible refine isK ?_);refine svB F ?_ ?_<;>intro hc<;>try exact no hc)|((with_reducible refine isD ?_);(first|(refine zD zd137 F M ?_;clear F M a w)))|refine zY ?_;go_step|fail))
     rw[d2]
     (repeat'(first|(first|refine sx_nil ?_|refine pv_nil ?_;intro a w F M);try replace F:=F.filt zk136 rfl|refine zn1 F M ?_;clear F M a;(try clear w);intro a w F M|refine sv2 F M ?_;clear F M a;intro nb a w F M|refine zp1 ?_|refine zp2 ?_;intro nb|((first|refine svC F M ?_|refine svC0 F M ?_|refine pvC ?_|refine pvC0 ?_);((first|(refine acK (L1:=engL eb H3 c s _) (k:=31) (hap _) ?_;rintro u L' ⟨ha,hp,H4,rfl,rfl⟩)|((refine acCall (k:=37) ?_);(refine Spec.of_reads (hpd (ha:=ha) (hp:=hp) (gs_own pullA) ⟨gsA,gsA⟩) rfl ?_))|(refine acK (L1:=engL eb H4 c s2 _) (k:=33) (hsn H4 _) ?_;rintro u L' ⟨b1,b2,b3,b4,b5,b6,rfl,rfl⟩)|((refine acW (k:=38) (hfi b1 _ ?_) ?_);(exact gsA);rintro u L' ⟨rfl,rfl⟩)|((refine acW (k:=40) (hto b1 _ ?_) ?_);(exact gsA);rintro u L' ⟨rfl,rfl⟩)|((refine acCall (k:=39) ?_);(refine Spec.of_reads (hga (gs_own pullA)) rfl ?_))|((refine acW (k:=41) (hav b1 _ ?_) ?_);(exact gsA);rintro u L' ⟨rfl,rfl⟩)));(first|refine⟨rvsA,?_⟩|clear F M a;intro a w F M|clear M;intro w M))|refine zh F ?_ ?_<;>(intro hg;rw[hg] at F;try exact no hg)|refine zT F ?_|((with_reducible refine isK ?_);refine svB F ?_ ?_<;>intro hc<;>try exact no hc)|((with_reducible refine isD ?_);(first|(refine zD zd137 F M ?_;clear F M a w)))|refine zY ?_;go_step|fail))
     rw[d3]
     (repeat'(first|(first|refine sx_nil ?_|refine pv_nil ?_;intro a w F M);try replace F:=F.filt zk136 rfl|refine zn1 F M ?_;clear F M a;(try clear w);intro a w F M|refine sv2 F M ?_;clear F M a;intro nb a w F M|refine zp1 ?_|refine zp2 ?_;intro nb|((first|refine svC F M ?_|refine svC0 F M ?_|refine pvC ?_|refine pvC0 ?_);((first|(refine acK (L1:=engL eb H3 c s _) (k:=31) (hap _) ?_;rintro u L' ⟨ha,hp,H4,rfl,rfl⟩)|((refine acCall (k:=37) ?_);(refine Spec.of_reads (hpd (ha:=ha) (hp:=hp) (gs_own pullA) ⟨gsA,gsA⟩) rfl ?_))|(refine acK (L1:=engL eb H4 c s2 _) (k:=33) (hsn H4 _) ?_;rintro u L' ⟨b1,b2,b3,b4,b5,b6,rfl,rfl⟩)|((refine acW (k:=38) (hfi b1 _ ?_) ?_);(exact gsA);rintro u L' ⟨rfl,rfl⟩)|((refine acW (k:=40) (hto b1 _ ?_) ?_);(exact gsA);rintro u L' ⟨rfl,rfl⟩)|((refine acCall (k:=39) ?_);(refine Spec.of_reads (hga (gs_own pullA)) rfl ?_))|((refine acW (k:=41) (hav b1 _ ?_) ?_);(exact gsA);rintro u L' ⟨rfl,rfl⟩)));(first|refine⟨rvsA,?_⟩|clear F M a;intro a w F M|clear M;intro w M))|refine zh F ?_ ?_<;>(intro hg;rw[hg] at F;try exact no hg)|refine zT F ?_|((with_reducible refine isK ?_);refine svB F ?_ ?_<;>intro hc<;>try exact no hc)|((with_reducible refine isD ?_);(first|(refine zD zd137 F M ?_;clear F M a w)))|refine zY ?_;go_step|fail))
     try simp only at F
     rw[← c3,← c1] at F
     exact sv_again F M (k+1,H4,s2) kpA permsA ⟨by simp only;omega,n1,by simp only;omega⟩ (by simp only;omega)
    ·(repeat'(first|(first|refine sx_nil ?_|refine pv_nil ?_;intro a w F M);try replace F:=F.filt zk136 rfl|refine zn1 F M ?_;clear F M a;(try clear w);intro a w F M|refine sv2 F M ?_;clear F M a;intro nb a w F M|refine zp1 ?_|refine zp2 ?_;intro nb|((first|refine svC F M ?_|refine svC0 F M ?_|refine pvC ?_|refine pvC0 ?_);((first|(refine acK (L1:=engL eb H3 c s _) (k:=31) (hap _) ?_;rintro u L' ⟨ha,hp,H4,rfl,rfl⟩)|((refine acCall (k:=37) ?_);(refine Spec.of_reads (hpd (ha:=ha) (hp:=hp) (gs_own pullA) ⟨gsA,gsA⟩) rfl ?_))|(refine acK (L1:=engL eb H4 c s2 _) (k:=33) (hsn H4 _) ?_;rintro u L' ⟨b1,b2,b3,b4,b5,b6,rfl,rfl⟩)|((refine acW (k:=38) (hfi b1 _ ?_) ?_);(exact gsA);rintro u L' ⟨rfl,rfl⟩)|((refine acW (k:=40) (hto b1 _ ?_) ?_);(exact gsA);rintro u L' ⟨rfl,rfl⟩)|((refine acCall (k:=39) ?_);(refine Spec.of_reads (hga (gs_own pullA)) rfl ?_))|((refine acW (k:=41) (hav b1 _ ?_) ?_);(exact gsA);rintro u L' ⟨rfl,rfl⟩)));(first|refine⟨rvsA,?_⟩|clear F M a;intro a w F M|clear M;intro w M))|refine zh F ?_ ?_<;>(intro hg;rw[hg] at F;try exact no hg)|refine zT F ?_|((with_reducible refine isK ?_);refine svB F ?_ ?_<;>intro hc<;>try exact no hc)|((with_reducible refine isD ?_);(first|(refine zD zd137 F M ?_;clear F M a w)))|refine zY ?_;go_step|fail))
     rw[d1]
     (repeat'(first|(first|refine sx_nil ?_|refine pv_nil ?_;intro a w F M);try replace F:=F.filt zk136 rfl|refine zn1 F M ?_;clear F M a;(try clear w);intro a w F M|refine sv2 F M ?_;clear F M a;intro nb a w F M|refine zp1 ?_|refine zp2 ?_;intro nb|((first|refine svC F M ?_|refine svC0 F M ?_|refine pvC ?_|refine pvC0 ?_);((first|(refine acK (L1:=engL eb H3 c s _) (k:=31) (hap _) ?_;rintro u L' ⟨ha,hp,H4,rfl,rfl⟩)|((refine acCall (k:=37) ?_);(refine Spec.of_reads (hpd (ha:=ha) (hp:=hp) (gs_own pullA) ⟨gsA,gsA⟩) rfl ?_))|(refine acK (L1:=engL eb H4 c s2 _) (k:=33) (hsn H4 _) ?_;rintro u L' ⟨b1,b2,b3,b4,b5,b6,rfl,rfl⟩)|((refine acW (k:=38) (hfi b1 _ ?_) ?_);(exact gsA);rintro u L' ⟨rfl,rfl⟩)|((refine acW (k:=40) (hto b1 _ ?_) ?_);(exact gsA);rintro u L' ⟨rfl,rfl⟩)|((refine acCall (k:=39) ?_);(refine Spec.of_reads (hga (gs_own pullA)) rfl ?_))|((refine acW (k:=41) (hav b1 _ ?_) ?_);(exact gsA);rintro u L' ⟨rfl,rfl⟩)));(first|refine⟨rvsA,?_⟩|clear F M a;intro a w F M|clear M;intro w M))|refine zh F ?_ ?_<;>(intro hg;rw[hg] at F;try exact no hg)|refine zT F ?_|((with_reducible refine isK ?_);refine svB F ?_ ?_<;>intro hc<;>try exact no hc)|((with_reducible refine isD ?_);(first|(refine zD zd137 F M ?_;clear F M a w)))|refine zY ?_;go_step|fail))
     rw[d2]
     (repeat'(first|(first|refine sx_nil ?_|refine pv_nil ?_;intro a w F M);try replace F:=F.filt zk136 rfl|refine zn1 F M ?_;clear F M a;(try clear w);intro a w F M|refine sv2 F M ?_;clear F M a;intro nb a w F M|refine zp1 ?_|refine zp2 ?_;intro nb|((first|refine svC F M ?_|refine svC0 F M ?_|refine pvC ?_|refine pvC0 ?_);((first|(refine acK (L1:=engL eb H3 c s _) (k:=31) (hap _) ?_;rintro u L' ⟨ha,hp,H4,rfl,rfl⟩)|((refine acCall (k:=37) ?_);(refine Spec.of_reads (hpd (ha:=ha) (hp:=hp) (gs_own pullA) ⟨gsA,gsA⟩) rfl ?_))|(refine acK (L1:=engL eb H4 c s2 _) (k:=33) (hsn H4 _) ?_;rintro u L' ⟨b1,b2,b3,b4,b5,b6,rfl,rfl⟩)|((refine acW (k:=38) (hfi b1 _ ?_) ?_);(exact gsA);rintro u L' ⟨rfl,rfl⟩)|((refine acW (k:=40) (hto b1 _ ?_) ?_);(exact gsA);rintro u L' ⟨rfl,rfl⟩)|((refine acCall (k:=39) ?_);(refine Spec.of_reads (hga (gs_own pullA)) rfl ?_))|((refine acW (k:=41) (hav b1 _ ?_) ?_);(exact gsA);rintro u L' ⟨rfl,rfl⟩)));(first|refine⟨rvsA,?_⟩|clear F M a;intro a w F M|clear M;intro w M))|refine zh F ?_ ?_<;>(intro hg;rw[hg] at F;try exact no hg)|refine zT F ?_|((with_reducible refine isK ?_);refine svB F ?_ ?_<;>intro hc<;>try exact no hc)|((with_reducible refine isD ?_);(first|(refine zD zd137 F M ?_;clear F M a w)))|refine zY ?_;go_step|fail))
     rw[d3]
     (repeat'(first|(first|refine sx_nil ?_|refine pv_nil ?_;intro a w F M);try replace F:=F.filt zk136 rfl|refine zn1 F M ?_;clear F M a;(try clear w);intro a w F M|refine sv2 F M ?_;clear F M a;intro nb a w F M|refine zp1 ?_|refine zp2 ?_;intro nb|((first|refine svC F M ?_|refine svC0 F M ?_|refine pvC ?_|refine pvC0 ?_);((first|(refine acK (L1:=engL eb H3 c s _) (k:=31) (hap _) ?_;rintro u L' ⟨ha,hp,H4,rfl,rfl⟩)|((refine acCall (k:=37) ?_);(refine Spec.of_reads (hpd (ha:=ha) (hp:=hp) (gs_own pullA) ⟨gsA,gsA⟩) rfl ?_))|(refine acK (L1:=engL eb H4 c s2 _) (k:=33) (hsn H4 _) ?_;rintro u L' ⟨b1,b2,b3,b4,b5,b6,rfl,rfl⟩)|((refine acW (k:=38) (hfi b1 _ ?_) ?_);(exact gsA);rintro u L' ⟨rfl,rfl⟩)|((refine acW (k:=40) (hto b1 _ ?_) ?_);(exact gsA);rintro u L' ⟨rfl,rfl⟩)|((refine acCall (k:=39) ?_);(refine Spec.of_reads (hga (gs_own pullA)) rfl ?_))|((refine acW (k:=41) (hav b1 _ ?_) ?_);(exact gsA);rintro u L' ⟨rfl,rfl⟩)));(first|refine⟨rvsA,?_⟩|clear F M a;intro a w F M|clear M;intro w M))|refine zh F ?_ ?_<;>(intro hg;rw[hg] at F;try exact no hg)|refine zT F ?_|((with_reducible refine isK ?_);refine svB F ?_ ?_<;>intro hc<;>try exact no hc)|((with_reducible refine isD ?_);(first|(refine zD zd137 F M ?_;clear F M a w)))|refine zY ?_;go_step|fail))
     try simp only at F
     rw[← c3,← c1] at F
     exact sv_again F M (k+1,H4,s2) kpA permsA ⟨by simp only;omega,n1,by simp only;omega⟩ (by simp only;omega)
  ·obtain rfl:k=l.length:=by omega
   (repeat'(first|(first|refine sx_nil ?_|refine pv_nil ?_;intro a w F M);try replace F:=F.filt zk136 rfl|refine zn1 F M ?_;clear F M a;(try clear w);intro a w F M|refine sv2 F M ?_;clear F M a;intro nb a w F M|refine zp1 ?_|refine zp2 ?_;intro nb|((first|refine svC F M ?_|refine svC0 F M ?_|refine pvC ?_|refine pvC0 ?_);(((refine acW (k:=30) (hal _) ?_);rintro u L' ⟨rfl,rfl⟩));(first|refine⟨rvsA,?_⟩|clear F M a;intro a w F M|clear M;intro w M))|refine zh F ?_ ?_<;>(intro hg;rw[hg] at F;try exact no hg)|refine zT F ?_|((with_reducible refine isK ?_);refine svB F ?_ ?_<;>intro hc<;>try exact no hc)|refine zY ?_;go_step|fail))
   all_goals refine zE F M ?_
   exact⟨_,_,rfl,⟨rfl,rfl⟩,M.perms permsA⟩
 ·have hft:=fun (R:List Asn) hg=>fits_no c v l R hg hF
  by_cases hck:checkF c=0
  ·have hcf:CfOk c:=cfOk_of hck h0 h1
   have hnw:=fun R=>eng_new c hcf hck R
   (intro G w M;refine sx_enter (vs:=([cfgV c,v]:List Value)) Tryz.func10 (n:=109) rfl rfl rfl rfl ?_;intro a F;(try simp only[zc,zn] at M))
   have hG:GS (R++G) 4 v l.length (l.flatMap opL):=Gives.app hg
   (repeat'(first|(first|refine sx_nil ?_|refine pv_nil ?_;intro a w F M);try replace F:=F.filt zk136 rfl|refine zn1 F M ?_;clear F M a;(try clear w);intro a w F M|refine sv2 F M ?_;clear F M a;intro nb a w F M|refine zp1 ?_|refine zp2 ?_;intro nb|((first|refine svC F M ?_|refine svC0 F M ?_|refine pvC ?_|refine pvC0 ?_);((first|((refine acW (k:=28) (hnw _) ?_);rintro u L' ⟨eb,H,rfl,rfl⟩)|((refine acW (k:=29) (hft _ ?_) ?_);(exact gsA);rintro u L' ⟨rfl,rfl⟩)|((refine acW (k:=30) (hal _) ?_);rintro u L' ⟨rfl,rfl⟩)));(first|refine⟨rvsA,?_⟩|clear F M a;intro a w F M|clear M;intro w M))|refine zh F ?_ ?_<;>(intro hg;rw[hg] at F;try exact no hg)|refine zT F ?_|((with_reducible refine isK ?_);refine svB F ?_ ?_<;>intro hc<;>try exact no hc)|((with_reducible refine isD ?_);(first|(refine zD zd137 F M ?_;clear F M a w)))|refine zY ?_;go_step|fail))
   all_goals refine zE F M ?_
   exact⟨_,_,rfl,⟨rfl,rfl⟩,M.perms permsA⟩
  ·have hnw:=fun R=>eng_newN c hck R
   (intro G w M;refine sx_enter (vs:=([cfgV c,v]:List Value)) Tryz.func10 (n:=109) rfl rfl rfl rfl ?_;intro a F;(try simp only[zc,zn] at M))
   have hG:GS (R++G) 4 v l.length (l.flatMap opL):=Gives.app hg
   (repeat'(first|(first|refine sx_nil ?_|refine pv_nil ?_;intro a w F M);try replace F:=F.filt zk136 rfl|refine zn1 F M ?_;clear F M a;(try clear w);intro a w F M|refine sv2 F M ?_;clear F M a;intro nb a w F M|refine zp1 ?_|refine zp2 ?_;intro nb|((first|refine svC F M ?_|refine svC0 F M ?_|refine pvC ?_|refine pvC0 ?_);((first|((refine acW (k:=28) (hnw _) ?_);rintro u L' ⟨rfl,rfl⟩)|((refine acW (k:=29) (hft _ ?_) ?_);(exact gsA);rintro u L' ⟨rfl,rfl⟩)|((refine acW (k:=30) (hal _) ?_);rintro u L' ⟨rfl,rfl⟩)));(first|refine⟨rvsA,?_⟩|clear F M a;intro a w F M|clear M;intro w M))|refine zh F ?_ ?_<;>(intro hg;rw[hg] at F;try exact no hg)|refine zT F ?_|((with_reducible refine isK ?_);refine svB F ?_ ?_<;>intro hc<;>try exact no hc)|((with_reducible refine isD ?_);(first|(refine zD zd137 F M ?_;clear F M a w)))|refine zY ?_;go_step|fail))
   all_goals refine zE F M ?_
   exact⟨_,_,rfl,⟨rfl,rfl⟩,M.perms permsA⟩
end
end
section
open Go.RowKit
theorem Ix.lt {V:List Val} {p:Val→Prop} {l:List Nat} (h:Ix V p l):∀ i∈l,i<V.length:=fun i hi=>by
 obtain ⟨v,hv,_⟩:=(h.mem i).1 hi
 exact(List.getElem?_eq_some_iff.1 hv).1
end
section
open Go.RowKit
abbrev cfgSh:Sh:=.agg [.int .i64,.int .i64,.int .u64,.int .u64,.int .u64,.int .u64,.int .u64,.int .u64,.int .u64,.int .u64,.int .i64,.int .i64,.int .i64,.int .i64,.int .i64,.int .i64,.int .i64,.int .i64,.int .u64,.int .u64]
theorem cfg_of_sh {w:World} {l:List Value} (h:HasSh w cfgSh l):∃ c:Cfg,l=cfgL c∧c.wf:=by
 obtain ⟨c0,r0,rfl,h0,h⟩:=shb_cons h
 obtain ⟨c1,r1,rfl,h1,h⟩:=shb_cons h
 obtain ⟨c2,r2,rfl,h2,h⟩:=shb_cons h
 obtain ⟨c3,r3,rfl,h3,h⟩:=shb_cons h
 obtain ⟨c4,r4,rfl,h4,h⟩:=shb_cons h
 obtain ⟨c5,r5,rfl,h5,h⟩:=shb_cons h
 obtain ⟨c6,r6,rfl,h6,h⟩:=shb_cons h
 obtain ⟨c7,r7,rfl,h7,h⟩:=shb_cons h
 obtain ⟨c8,r8,rfl,h8,h⟩:=shb_cons h
 obtain ⟨c9,r9,rfl,h9,h⟩:=shb_cons h
 obtain ⟨c10,r10,rfl,h10,h⟩:=shb_cons h
 obtain ⟨c11,r11,rfl,h11,h⟩:=shb_cons h
 obtain ⟨c12,r12,rfl,h12,h⟩:=shb_cons h
 obtain ⟨c13,r13,rfl,h13,h⟩:=shb_cons h
 obtain ⟨c14,r14,rfl,h14,h⟩:=shb_cons h
 obtain ⟨c15,r15,rfl,h15,h⟩:=shb_cons h
 obtain ⟨c16,r16,rfl,h16,h⟩:=shb_cons h
 obtain ⟨c17,r17,rfl,h17,h⟩:=shb_cons h
 obtain ⟨c18,r18,rfl,h18,h⟩:=shb_cons h
 obtain ⟨c19,r19,rfl,h19,h⟩:=shb_cons h
 obtain rfl:=shb_nil h
 obtain ⟨n0,rfl,w0⟩:=shb_int h0
 obtain ⟨n1,rfl,w1⟩:=shb_int h1
 obtain ⟨n2,rfl,w2⟩:=shb_int h2
 obtain ⟨n3,rfl,w3⟩:=shb_int h3
 obtain ⟨n4,rfl,w4⟩:=shb_int h4
 obtain ⟨n5,rfl,w5⟩:=shb_int h5
 obtain ⟨n6,rfl,w6⟩:=shb_int h6
 obtain ⟨n7,rfl,w7⟩:=shb_int h7
 obtain ⟨n8,rfl,w8⟩:=shb_int h8
 obtain ⟨n9,rfl,w9⟩:=shb_int h9
 obtain ⟨n10,rfl,w10⟩:=shb_int h10
 obtain ⟨n11,rfl,w11⟩:=shb_int h11
 obtain ⟨n12,rfl,w12⟩:=shb_int h12
 obtain ⟨n13,rfl,w13⟩:=shb_int h13
 obtain ⟨n14,rfl,w14⟩:=shb_int h14
 obtain ⟨n15,rfl,w15⟩:=shb_int h15
 obtain ⟨n16,rfl,w16⟩:=shb_int h16
 obtain ⟨n17,rfl,w17⟩:=shb_int h17
 obtain ⟨n18,rfl,w18⟩:=shb_int h18
 obtain ⟨n19,rfl,w19⟩:=shb_int h19
 refine⟨⟨n0,n1,n2,n3,n4,n5,n6,n7,n8,n9,n10,n11,n12,n13,n14,n15,n16,n17,n18,n19⟩,rfl,?_,?_⟩
 ·simp only[Cfg.ints,List.mem_cons,List.not_mem_nil,or_false]
  rintro x (rfl|rfl|rfl|rfl|rfl|rfl|rfl|rfl|rfl|rfl)<;>assumption
 ·simp only[Cfg.amounts,List.mem_cons,List.not_mem_nil,or_false]
  rintro x (rfl|rfl|rfl|rfl|rfl|rfl|rfl|rfl|rfl|rfl)<;>exact u64_wf (by assumption)
theorem law_old {k:FuncId} {us:List Value} {w:World} (h:Spec k us [Old w] fun u L'=>u=.bool true∧L'=[Old w]):Calls Tryz.prog k us.toArray w fun e w'=>e=.returned (.bool true)∧Below w.heap.size w w':=by
 refine(h [] w (Mem.old w)).mono ?_
 rintro e w' ⟨u,L',rfl,⟨rfl,rfl⟩,M⟩
 exact⟨rfl,M.below .here⟩
end
section
open Go.RowKit
abbrev oprSh:Sh:=.agg [.int .i64,.int .i64,.int .i64,.int .u64]
theorem cfg_ops {w:World} {ks:Array Value} (hk:HasSh w cfgSh ks.toList):∃ c:Cfg,ks=(cfgL c).toArray∧0≤c.forcedCap∧0≤c.penNum:=by
 obtain ⟨c,e2,hc⟩:=cfg_of_sh hk
 obtain rfl:=arr_eq e2
 exact⟨c,rfl,(hc.2 c.forcedCap (by simp[Cfg.amounts])).1,(hc.2 c.penNum (by simp[Cfg.amounts])).1⟩
theorem ops_sh {w:World} {v:Value} (hv:HasSh w (.slice 4 oprSh) [v]):∃ l:List Opn,GS [Old w] 4 v l.length (l.flatMap opL)∧∀ o∈l,I64 o.k∧U64 o.am:=by
 obtain ⟨l,gl,hl⟩:=slice_of_sh (f:=opL) (fun cs h=>op_of_sh h) hv
 exact⟨l,gs_oldT gl .here,fun o ho=>⟨(hl o ho).1,(hl o ho).2.2.2⟩⟩
theorem start_EngineBudgets (w:World) (ks:Array Value) (hk:HasSh w cfgSh ks.toList) (v:Value) (hv:HasSh w (.slice 4 oprSh) [v]):Calls Tryz.prog 7 #[.agg ks,v] w fun e w'=>e=.returned (.bool true)∧Below w.heap.size w w':=by
 obtain ⟨c,rfl,h0,h1⟩:=cfg_ops hk
 obtain ⟨l,gl,hl⟩:=ops_sh hv
 exact law_old (us:=[cfgV c,v]) (budgets_law c v l [Old w] gl h0 h1 hl)
theorem start_EngineRejects (w:World) (ks:Array Value) (hk:HasSh w cfgSh ks.toList) (v:Value) (hv:HasSh w (.slice 4 oprSh) [v]):Calls Tryz.prog 8 #[.agg ks,v] w fun e w'=>e=.returned (.bool true)∧Below w.heap.size w w':=by
 obtain ⟨c,rfl,h0,h1⟩:=cfg_ops hk
 obtain ⟨l,gl,hl⟩:=ops_sh hv
 exact law_old (us:=[cfgV c,v]) (rejects_law c v l [Old w] gl h0 h1 hl)
theorem start_EngineConserves (w:World) (ks:Array Value) (hk:HasSh w cfgSh ks.toList) (v:Value) (hv:HasSh w (.slice 4 oprSh) [v]):Calls Tryz.prog 10 #[.agg ks,v] w fun e w'=>e=.returned (.bool true)∧Below w.heap.size w w':=by
 obtain ⟨c,rfl,h0,h1⟩:=cfg_ops hk
 obtain ⟨l,gl,hl⟩:=ops_sh hv
 exact law_old (us:=[cfgV c,v]) (conserves_law c v l [Old w] gl h0 h1 hl)
end
end Go.Proofs.YtopbohbkhljjgaaGreat
