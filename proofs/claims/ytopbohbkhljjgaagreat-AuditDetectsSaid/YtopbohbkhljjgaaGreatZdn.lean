import Derived.Test.YtopbohbkhljjgaaGreatZdm
set_option linter.unusedVariables false
set_option linter.unusedSimpArgs false
set_option maxRecDepth 100000
set_option maxHeartbeats 8000000
namespace Go.Proofs.YtopbohbkhljjgaaGreat
def zk117:List Nat:=[0,1,3,4,5,6,7,8,9,22,44,57,60,78,79,88]
def zd118:List ZR:=[⟨1,[7,12],[11],[(12,[10])],[0,1,2,3,4,5,6,7,8,9,10,11,12,13]⟩,⟨4,[5,10,16],[15],[(5,[0,6,7,8,9]),(16,[13,14])],[0,1,2,3,4,6,7,8,9,5,10,11,12,13,14,15,16,17,18]⟩,⟨11,[7],[],[],[0,1,2,3,4,5,6,7]⟩,⟨15,[6],[],[],[0,1,2,3,4,5,6]⟩,⟨17,[8],[],[],[0,1,2,3,4,5,6,7,8]⟩]
section
open Go.RowKit
section
variable (b:Nat) (H:EH) (c:Cfg) (s:St) (hc:CfOk c) (hi:Inv c s) (R:List Asn)
include hc hi
theorem slash_spec (o:Opn):Spec 69 [ptr b,opV o] (engL b H c s R) fun u L'=>u=rsV (opSlash c s o.ix)∧L'=engL b H c (opSlash c s o.ix).s R:=by
 obtain ⟨k1,k2,k3,k4,k5,k6⟩:=inv_sum c s hc hi
 have hl3:s.V.length≤4096:=by omega
 have hsz:qS c≤4096:=k6
 obtain ⟨l1,l2,l3,l4,l5⟩:=hi.ql
 have hbk:=hi.bk
 have hep:=epo_range hc (s:=s) (by omega)
 have hepo:epo c s=(s.bk:Int) / c.epochLen:=rfl
 have hck:=fun R=>clk_epoch H.ck s.bk c.epochLen hc.el (by omega) R
 rw[← hepo] at hck
 obtain ⟨ok,ix,oj,x⟩:=o
 simp only
 by_cases hix:ix<0∨(s.V.length:Int)≤ix
 ·have e:opSlash c s ix=no' s 7:=by
   unfold opSlash
   by_cases h0:ix<0
   ·rw[if_pos h0]
   ·rw[if_neg h0,List.getElem?_eq_none (by omega)]
  rw[e]
  have hg:=fun R=>reg_getN H.rg c.capacity s.V R ix hix
  ((intro G w M;refine sx_enter (vs:=([ptr b,opV ⟨ok,ix,oj,x⟩]:List Value)) Tryz.func69 (n:=102) rfl rfl rfl rfl ?_;intro a F;(try simp only[zc,zn] at M)))
  (repeat'(first|(first|refine sx_nil ?_|refine pv_nil ?_;intro a w F M);try replace F:=F.filt zk117 rfl|refine zn1 F M ?_;clear F M a;(try clear w);intro a w F M|refine sv2 F M ?_;clear F M a;intro nb a w F M|refine zp1 ?_|refine zp2 ?_;intro nb|((first|refine svC F M ?_|refine pvC ?_|fail);((first|((refine acW (k:=72) (efail_spec _ _) ?_);rintro u L' ⟨rfl,rfl⟩)|((refine acK (k:=76) (hg _) ?_);rintro u L' ⟨rfl,rfl⟩)));(first|refine⟨rvsA,?_⟩|clear F M a;intro a w F M|fail))|refine zT F ?_|((with_reducible refine isD ?_);((refine zD zd118 F M ?_;clear F M a w)))|refine zY ?_;go_step|fail))
  all_goals exact zX F M
 obtain ⟨i,rfl⟩:∃ i:Nat,ix=i:=⟨ix.toNat,by omega⟩
 obtain ⟨v,hv⟩:∃ v,s.V[i]? = some v:=⟨s.V[i]'(by omega),by rw[List.getElem?_eq_getElem]⟩
 obtain ⟨hwf,hb0,hble,hvo⟩:=vwf c s hc hi hv
 have hg:=fun R=>reg_get H.rg c.capacity s.V R i v hv hl3
 have hwfe:(Lit.int .i64 (epo c s)).wf=true:=WalkArith.wf_i64 (by omega)
 have hsd:=hc.sd;have hun:=hc.un;have hpn:=hc.pn;have hpd:=hc.pd
 have hsl:=fun R=>pnSla_spec R v hwf (epo c s) hwfe c (WalkArith.wf_i64 (by omega)) hpn.1 (by omega) (by omega) (by omega)
 have hX:opSlash c s i=if (slaR v (epo c s) c.slashDelay c.penNum c.penDen).1≠0 then no' s (slaR v (epo c s) c.slashDelay c.penNum c.penDen).1 else if v.st=2∧c.queueSize≤s.fo.length then no' s 6 else
   ⟨0,i,-1,{s with V:=s.V.set i (slaR v (epo c s) c.slashDelay c.penNum c.penDen).2.1,bu:=s.bu+(slaR v (epo c s) c.slashDelay c.penNum c.penDen).2.2,fo:=if v.st=2 then s.fo++[i] else s.fo,bo:=if v.st=5 then s.bo++[((slaR v (epo c s) c.slashDelay c.penNum c.penDen).2.1.wd,i)] else s.bo}⟩:=by
  unfold opSlash
  rw[if_neg (by omega)]
  simp only[Int.toNat_natCast,hv]
 have hrr:=slaR_eq v (pn:=c.penNum) (pd:=c.penDen) hep.1 (show 0≤c.slashDelay by omega) (by omega)
 have hpen:=penF_range hb0 hpn.1 hpn.2 (by omega)
 rw[hX]
 clear hX
 have hwd:=hvo.wd
 have hst7:=hvo.st
 have hbo:=hi.bo.len
 rw[List.length_map] at hbo
 by_cases h1:v.sl=true
 ·rw[if_pos h1] at hrr
  rw[hrr] at hsl ⊢
  simp only[ne_eq,show ¬((9:Int)=0) by decide,not_false_eq_true,if_true] at hsl ⊢
  ((intro G w M;refine sx_enter (vs:=([ptr b,opV ⟨ok,i,oj,x⟩]:List Value)) Tryz.func69 (n:=102) rfl rfl rfl rfl ?_;intro a F;(try simp only[zc,zn] at M)))
  (repeat'(first|(first|refine sx_nil ?_|refine pv_nil ?_;intro a w F M);try replace F:=F.filt zk117 rfl|refine zn1 F M ?_;clear F M a;(try clear w);intro a w F M|refine sv2 F M ?_;clear F M a;intro nb a w F M|refine zp1 ?_|refine zp2 ?_;intro nb|((first|refine svC F M ?_|refine pvC ?_|fail);((first|((refine acK (k:=74) (hck _) ?_);rintro u L' ⟨rfl,rfl⟩)|((refine acW (k:=72) (efail_spec _ _) ?_);rintro u L' ⟨rfl,rfl⟩)|((refine acK (k:=76) (hg _) ?_);rintro u L' ⟨rfl,rfl⟩)|((refine acW (k:=147) (hsl _) ?_);rintro u L' ⟨rfl,rfl⟩)|fail));(first|refine⟨rvsA,?_⟩|clear F M a;intro a w F M|fail))|refine zT F ?_|((with_reducible refine isD ?_);((refine zD zd118 F M ?_;clear F M a w)))|refine zY ?_;go_step|fail))
  all_goals exact zX F M
 rw[if_neg h1] at hrr
 by_cases h2:v.st=2∨v.st=3∨v.st=4∨v.st=5
 ·rw[if_pos h2] at hrr
  rw[hrr] at hsl ⊢
  simp only[ne_eq,not_true_eq_false,if_false] at hsl ⊢
  obtain ⟨P,hP⟩:∃ P,penF v.bal c.penNum c.penDen=P:=⟨_,rfl⟩
  obtain ⟨D,hD⟩:∃ D,max v.wd (epo c s+c.slashDelay)=D:=⟨_,rfl⟩
  rw[hP] at hpen
  have hD1:0≤D∧D≤1099511627776:=by omega
  have hsum:=hi.sum
  obtain ⟨t1,t2,t3⟩:=hi.tot
  have hbu:=fun R=>led_burn H.ld s.dep s.pd s.bu c.supplyCap ⟨t1,t2,by omega,t3⟩ R P ⟨hpen.1,by omega⟩
  have hsS:I64 (slaS v.st):=by unfold slaS;split<;>exact⟨by decide,by decide⟩
  have hch:=fun R=>tchange_spec H.rg c.capacity s.V R i v ⟨v.bal - P,slaS v.st,true,if v.st=2 then epo c s else v.rq,v.ex,D,-1⟩ hv hl3 ⟨hsS,⟨by omega,by omega⟩⟩ hb0 (by simp only;omega) ⟨hble,by omega,by simp only;omega⟩
  simp only[hP,hD] at hsl ⊢
  have hput:=fun R=>bk_put H.bo c.ringLen.toNat s.bo R (D,i) hD1 (by omega)
  simp only at hput
  obtain ⟨bal,st,slz,rq,ex,wd,dl⟩:=v
  simp only at h1 h2 hsl hch hput hpen hst7 ⊢
  rcases h2 with rfl|rfl|rfl|rfl
  ·simp only[if_true,true_and,show ¬((2:Int)=5) by decide,if_false] at hsl hch ⊢
   by_cases hq:c.queueSize≤s.fo.length
   ·rw[if_pos hq]
    have hq':(qS c:Int) - s.fo.length=0:=by omega
    ((intro G w M;refine sx_enter (vs:=([ptr b,opV ⟨ok,i,oj,x⟩]:List Value)) Tryz.func69 (n:=102) rfl rfl rfl rfl ?_;intro a F;(try simp only[zc,zn] at M)))
    (repeat'(first|(first|refine sx_nil ?_|refine pv_nil ?_;intro a w F M);try replace F:=F.filt zk117 rfl|refine zn1 F M ?_;clear F M a;(try clear w);intro a w F M|refine sv2 F M ?_;clear F M a;intro nb a w F M|refine zp1 ?_|refine zp2 ?_;intro nb|((first|refine svC F M ?_|refine pvC ?_|fail);((first|((refine acK (k:=74) (hck _) ?_);rintro u L' ⟨rfl,rfl⟩)|((refine acW (k:=72) (efail_spec _ _) ?_);rintro u L' ⟨rfl,rfl⟩)|((refine acK (k:=76) (hg _) ?_);rintro u L' ⟨rfl,rfl⟩)|((refine acW (k:=147) (hsl _) ?_);rintro u L' ⟨rfl,rfl⟩)|((refine acK (k:=148) (lfree0 H.ln H.r0 H.r1 (qS c) s.fo s.vo _) ?_);rintro u L' ⟨rfl,rfl⟩)));(first|refine⟨rvsA,?_⟩|clear F M a;intro a w F M|fail))|refine zT F ?_|((with_reducible refine isK ?_);refine svB F ?_ ?_<;>intro hc<;>try exact no hc)|((with_reducible refine isD ?_);((refine zD zd118 F M ?_;clear F M a w)))|refine zY ?_;go_step|fail))
    all_goals exact zX F M
   ·rw[if_neg hq]
    have hq':¬(qS c:Int) - s.fo.length=0:=by omega
    have hqq:s.fo.length<qS c:=by omega
    ((intro G w M;refine sx_enter (vs:=([ptr b,opV ⟨ok,i,oj,x⟩]:List Value)) Tryz.func69 (n:=102) rfl rfl rfl rfl ?_;intro a F;(try simp only[zc,zn] at M)))
    (repeat'(first|(first|refine sx_nil ?_|refine pv_nil ?_;intro a w F M);try replace F:=F.filt zk117 rfl|refine zn1 F M ?_;clear F M a;(try clear w);intro a w F M|refine sv2 F M ?_;clear F M a;intro nb a w F M|refine zp1 ?_|refine zp2 ?_;intro nb|((first|refine svC F M ?_|refine pvC ?_|fail);((first|((refine acK (k:=74) (hck _) ?_);rintro u L' ⟨rfl,rfl⟩)|((refine acW (k:=145) (edone_spec _ _ _) ?_);rintro u L' ⟨rfl,rfl⟩)|((refine acK (k:=76) (hg _) ?_);rintro u L' ⟨rfl,rfl⟩)|((refine acW (k:=147) (hsl _) ?_);rintro u L' ⟨rfl,rfl⟩)|((refine acK (k:=148) (lfree0 H.ln H.r0 H.r1 (qS c) s.fo s.vo _) ?_);rintro u L' ⟨rfl,rfl⟩)|((refine acK (k:=149) (hch _) ?_);rintro u L' ⟨rfl,rfl⟩)|((refine acK (k:=150) (hbu _) ?_);rintro u L' ⟨rfl,rfl⟩)|((refine acK (k:=151) (lpush0 H.ln H.r0 H.r1 (qS c) s.fo s.vo _ i hqq hsz) ?_);rintro u L' ⟨rfl,rfl⟩)));(first|refine⟨rvsA,?_⟩|clear F M a;intro a w F M|fail))|refine zT F ?_|((with_reducible refine isK ?_);refine svB F ?_ ?_<;>intro hc<;>try exact no hc)|((with_reducible refine isD ?_);((refine zD zd118 F M ?_;clear F M a w)))|refine zY ?_;go_step|fail))
    all_goals exact zX F M
  ·simp only[show ¬((3:Int)=2) by decide,show ¬((3:Int)=5) by decide,if_false,false_and] at hsl hch ⊢
   ((intro G w M;refine sx_enter (vs:=([ptr b,opV ⟨ok,i,oj,x⟩]:List Value)) Tryz.func69 (n:=102) rfl rfl rfl rfl ?_;intro a F;(try simp only[zc,zn] at M)))
   (repeat'(first|(first|refine sx_nil ?_|refine pv_nil ?_;intro a w F M);try replace F:=F.filt zk117 rfl|refine zn1 F M ?_;clear F M a;(try clear w);intro a w F M|refine sv2 F M ?_;clear F M a;intro nb a w F M|refine zp1 ?_|refine zp2 ?_;intro nb|((first|refine svC F M ?_|refine pvC ?_|fail);((first|((refine acK (k:=74) (hck _) ?_);rintro u L' ⟨rfl,rfl⟩)|((refine acW (k:=145) (edone_spec _ _ _) ?_);rintro u L' ⟨rfl,rfl⟩)|((refine acK (k:=76) (hg _) ?_);rintro u L' ⟨rfl,rfl⟩)|((refine acW (k:=147) (hsl _) ?_);rintro u L' ⟨rfl,rfl⟩)|((refine acK (k:=149) (hch _) ?_);rintro u L' ⟨rfl,rfl⟩)|((refine acK (k:=150) (hbu _) ?_);rintro u L' ⟨rfl,rfl⟩)|fail));(first|refine⟨rvsA,?_⟩|clear F M a;intro a w F M|fail))|refine zT F ?_|((with_reducible refine isD ?_);((refine zD zd118 F M ?_;clear F M a w)))|refine zY ?_;go_step|fail))
   all_goals exact zX F M
  ·simp only[show ¬((4:Int)=2) by decide,show ¬((4:Int)=5) by decide,if_false,false_and] at hsl hch ⊢
   ((intro G w M;refine sx_enter (vs:=([ptr b,opV ⟨ok,i,oj,x⟩]:List Value)) Tryz.func69 (n:=102) rfl rfl rfl rfl ?_;intro a F;(try simp only[zc,zn] at M)))
   (repeat'(first|(first|refine sx_nil ?_|refine pv_nil ?_;intro a w F M);try replace F:=F.filt zk117 rfl|refine zn1 F M ?_;clear F M a;(try clear w);intro a w F M|refine sv2 F M ?_;clear F M a;intro nb a w F M|refine zp1 ?_|refine zp2 ?_;intro nb|((first|refine svC F M ?_|refine pvC ?_|fail);((first|((refine acK (k:=74) (hck _) ?_);rintro u L' ⟨rfl,rfl⟩)|((refine acW (k:=145) (edone_spec _ _ _) ?_);rintro u L' ⟨rfl,rfl⟩)|((refine acK (k:=76) (hg _) ?_);rintro u L' ⟨rfl,rfl⟩)|((refine acW (k:=147) (hsl _) ?_);rintro u L' ⟨rfl,rfl⟩)|((refine acK (k:=149) (hch _) ?_);rintro u L' ⟨rfl,rfl⟩)|((refine acK (k:=150) (hbu _) ?_);rintro u L' ⟨rfl,rfl⟩)|fail));(first|refine⟨rvsA,?_⟩|clear F M a;intro a w F M|fail))|refine zT F ?_|((with_reducible refine isD ?_);((refine zD zd118 F M ?_;clear F M a w)))|refine zY ?_;go_step|fail))
   all_goals exact zX F M
  ·simp only[show ¬((5:Int)=2) by decide,if_true,if_false,false_and] at hsl hch ⊢
   ((intro G w M;refine sx_enter (vs:=([ptr b,opV ⟨ok,i,oj,x⟩]:List Value)) Tryz.func69 (n:=102) rfl rfl rfl rfl ?_;intro a F;(try simp only[zc,zn] at M)))
   (repeat'(first|(first|refine sx_nil ?_|refine pv_nil ?_;intro a w F M);try replace F:=F.filt zk117 rfl|refine zn1 F M ?_;clear F M a;(try clear w);intro a w F M|refine sv2 F M ?_;clear F M a;intro nb a w F M|refine zp1 ?_|refine zp2 ?_;intro nb|((first|refine svC F M ?_|refine pvC ?_|fail);((first|((refine acK (k:=74) (hck _) ?_);rintro u L' ⟨rfl,rfl⟩)|((refine acW (k:=145) (edone_spec _ _ _) ?_);rintro u L' ⟨rfl,rfl⟩)|((refine acK (k:=76) (hg _) ?_);rintro u L' ⟨rfl,rfl⟩)|((refine acW (k:=147) (hsl _) ?_);rintro u L' ⟨rfl,rfl⟩)|((refine acK (k:=149) (hch _) ?_);rintro u L' ⟨rfl,rfl⟩)|((refine acK (k:=150) (hbu _) ?_);rintro u L' ⟨rfl,rfl⟩)|((refine acK (k:=152) (hput _) ?_);rintro u L' ⟨rfl,rfl⟩)));(first|refine⟨rvsA,?_⟩|clear F M a;intro a w F M|fail))|refine zT F ?_|((with_reducible refine isD ?_);((refine zD zd118 F M ?_;clear F M a w)))|refine zY ?_;go_step|fail))
   all_goals exact zX F M
 ·rw[if_neg h2] at hrr
  rw[hrr] at hsl ⊢
  simp only[ne_eq,show ¬((8:Int)=0) by decide,not_false_eq_true,if_true] at hsl ⊢
  ((intro G w M;refine sx_enter (vs:=([ptr b,opV ⟨ok,i,oj,x⟩]:List Value)) Tryz.func69 (n:=102) rfl rfl rfl rfl ?_;intro a F;(try simp only[zc,zn] at M)))
  (repeat'(first|(first|refine sx_nil ?_|refine pv_nil ?_;intro a w F M);try replace F:=F.filt zk117 rfl|refine zn1 F M ?_;clear F M a;(try clear w);intro a w F M|refine sv2 F M ?_;clear F M a;intro nb a w F M|refine zp1 ?_|refine zp2 ?_;intro nb|((first|refine svC F M ?_|refine pvC ?_|fail);((first|((refine acK (k:=74) (hck _) ?_);rintro u L' ⟨rfl,rfl⟩)|((refine acW (k:=72) (efail_spec _ _) ?_);rintro u L' ⟨rfl,rfl⟩)|((refine acK (k:=76) (hg _) ?_);rintro u L' ⟨rfl,rfl⟩)|((refine acW (k:=147) (hsl _) ?_);rintro u L' ⟨rfl,rfl⟩)|fail));(first|refine⟨rvsA,?_⟩|clear F M a;intro a w F M|fail))|refine zT F ?_|((with_reducible refine isD ?_);((refine zD zd118 F M ?_;clear F M a w)))|refine zY ?_;go_step|fail))
  all_goals exact zX F M
end
end
def zk119:List Nat:=[0,1,3,4,5,6,7,8,13]
def zd120:List ZR:=[⟨5,[5,10,11,13],[12],[(5,[0,6,7,8,9]),(10,[0])],[0,1,2,3,4,6,7,8,9,5,10,11,12,13]⟩]
def zk121:List Nat:=[0,1,3,4]
def zk122:List Nat:=[0,1,3,4,5,6,7,9,14,38,44]
def zd123:List ZR:=[⟨11,[7,12,13,14],[],[(7,[0,1,2,8,9,10,11]),(12,[0,1,2])],[0,1,2,3,4,5,6,8,9,10,11,7,12,13,14]⟩,⟨12,[9,14,15,16],[],[(9,[0,1,2,3,4,10,11,12,13]),(14,[0,1,2,3,4])],[0,1,2,3,4,5,6,7,8,10,11,12,13,9,14,15,16]⟩]
section
open Go.RowKit Go.Maps
instance apMT:MT 136 3 135:=⟨by kernel_rfl,int_keyed (q:=.i64) (by kernel_rfl)⟩
instance apZV:ZV 135 (.nilFunc):=⟨by kernel_rfl⟩
section
variable {o:Oper} {n:Nat} {l:List (Nat × Value)} {L:List Asn} {C:Value→List Asn→Prop}
theorem ac_insNew {t:TypeId} {x y z:Operand} (ho:o.op=.insert t x y z) {b:Nat} (hx:evl l x=some (.map (some b))) {k v:Value} (hy:evl l y=some k) (hz:evl l z=some v) {K E:TypeId} (ht:MT t K E) {q:Lit} (hk:keyOf Tryz.prog K k=some q) {P:List (Value × Value)} {L2:List Asn} (hp:Rep L (mp b K P) (mp b K ((k,v)::P)) L2) (hno:∀ p∈P,p.1≠k) (h:C undef L2):AC o l L n C:=fun G a w F M=>by
 obtain ⟨L',h1,h2⟩:=hp.both
 obtain ⟨w',e,hm,ht'⟩:=run_mapUpdate_new (v:=v) ht.k ht.h hk (gives_mp (h1.app G) w M) hno
 have:(execOp a.eval o).run Tryz.prog w=.ok .skip w':=by
  unfold execOp
  rw[ho]
  simp[F.eval hx,F.eval hy,F.eval hz,e]
 rw[this]
 refine⟨L2,h,M.rep (hp.app G) fun s hs=>?_⟩
 obtain ⟨rfl,_⟩:=hs.now
 exact⟨ht'.chg,[b],ok_mp (hm.perm (List.Perm.refl _)),fun x hx=>.inl hx⟩
class FT (t:TypeId):Prop where
 k:(match Tryz.prog.underlying t with|some (.func _ _ _)=>true|_=>false)=true
theorem FT.ex {t:TypeId} (h:FT t):∃ a b c,Tryz.prog.underlying t=some (.func a b c):=by
 have:=h.k
 split at this
 ·rename_i a b c e;exact⟨a,b,c,e⟩
 ·cases this
theorem equalIn_fn (d:Nat) {t:TypeId} (h:FT t) (g:Fn) (fs cs:Array Value) (w:World):(Op.equalIn (d+1) t (.func g fs cs) .nilFunc).run Tryz.prog w=.ok false w:=by
 obtain ⟨a1,b1,c1,h⟩:=h.ex
 simp[Op.equalIn,run_underlying h]
theorem equalIn_nn (d:Nat) {t:TypeId} (h:FT t) (w:World):(Op.equalIn (d+1) t .nilFunc .nilFunc).run Tryz.prog w=.ok true w:=by
 obtain ⟨a1,b1,c1,h⟩:=h.ex
 simp[Op.equalIn,run_underlying h]
theorem rt_neF {t ty:TypeId} {x y:Operand} (ho:o.op=.binOp .neq t x y ty) {g:Fn} {fs cs:Array Value} (hx:evl l x=some (.func g fs cs)) (hy:evl l y=some .nilFunc) (ht:FT t):RT o l L n (.bool true):=fun a w F M=>by
 have h2:(Op.equal t (.func g fs cs) .nilFunc).run Tryz.prog w=.ok false w:=equalIn_fn 9999 ht g fs cs w
 have hr:(binOp .neq t (.func g fs cs) .nilFunc).run Tryz.prog w=.ok (.bool true) w:=by
  simp only[binOp]
  simp[h2]
 unfold execOp
 rw[ho]
 simp[F.eval hx,F.eval hy,eqGuard,hr]
theorem rt_neN {t ty:TypeId} {x y:Operand} (ho:o.op=.binOp .neq t x y ty) (hx:evl l x=some .nilFunc) (hy:evl l y=some .nilFunc) (ht:FT t):RT o l L n (.bool false):=fun a w F M=>by
 have h2:(Op.equal t .nilFunc .nilFunc).run Tryz.prog w=.ok true w:=equalIn_nn 9999 ht w
 have hr:(binOp .neq t .nilFunc .nilFunc).run Tryz.prog w=.ok (.bool false) w:=by
  simp only[binOp]
  simp[h2]
 unfold execOp
 rw[ho]
 simp[F.eval hx,F.eval hy,eqGuard,hr]
end
instance apFT:FT 135:=⟨by kernel_rfl⟩
theorem rej_spec (o:Opn) (e bk ep:Int) (R:List Asn):Spec 64 [opV o,.int .i64 e,.int .i64 bk,.int .i64 ep] R fun u L'=>u=rcV ⟨o.k,e,-1,bk,ep,-1,0,[],[]⟩ nilH nilH∧L'=R:=by
 obtain ⟨k,ix,tg,am⟩:=o
 (intro G w M;refine sx_enter (vs:=([opV ⟨k,ix,tg,am⟩,.int .i64 e,.int .i64 bk,.int .i64 ep]:List Value)) Tryz.func64 (n:=15) rfl rfl rfl rfl ?_;intro a F;(try simp only[zc,zn] at M))
 (repeat'(first|(first|refine sx_nil ?_|fail);try replace F:=F.filt zk49 rfl|refine zn1 F M ?_;clear F M a;(try clear w);intro a w F M|refine sv2 F M ?_;clear F M a;intro nb a w F M|refine zT F ?_|refine zY ?_;go_step|fail))
 all_goals exact zX F M
theorem acp_spec (o:Opn) (ix dl bk ep:Int) (R:List Asn):Spec 75 [opV o,.int .i64 ix,.int .i64 dl,.int .i64 bk,.int .i64 ep] R fun u L'=>u=rcV ⟨o.k,0,ix,bk,ep,dl,0,[],[]⟩ nilH nilH∧L'=R:=Spec.of_reads (accept_reads o ix dl bk ep) rfl ⟨rfl,rfl⟩
theorem Inv.same {c:Cfg} (hc:CfOk c) {s:St} (h:Inv c s) (hb:s.bk<1000000000) (hz:((s.bk+1:Nat):Int) % c.epochLen≠0):Inv c {s with bk:=s.bk+1}:=by
 have he:=epo_same hc hz
 exact⟨h.cap,fun i v hv=>by rw[he];exact h.val i v hv,h.sum,h.sup,h.tot,h.pe,h.ex,h.lv,h.bo,fun y hy=>by rw[he];exact h.bw y hy,h.ql,h.me,h.pa,h.at',h.ca,by simp only;omega⟩
section
variable (b:Nat) (H:EH) (c:Cfg) (s:St) (R:List Asn)
theorem tick_spec (hc:CfOk c) (h:Inv c s) (hb:s.bk<1000000000) (o:Opn) (ho:o.k=7):Spec 65 [ptr b,opV o] (engL b H c s R) fun u L'=>∃ ha hp H',u=rcV (tickM c s).1 ha hp∧L'=ownT 87 asgL 3 (sl ha) (tickM c s).1.asg::ownT 65 pmL 3 (sl hp) (tickM c s).1.pms::engL b H' c (tickM c s).2 R:=by
 have hel:=hc.el
 obtain ⟨k,ix,tg,am⟩:=o
 simp only at ho
 subst ho
 have htk:=fun R=>clk_tick H.ck s.bk c.epochLen hel (by omega) R
 have hac:=fun ep R=>acp_spec ⟨7,ix,tg,am⟩ (-1) (-1) ((s.bk+1:Nat):Int) ep R
 have hcb:=fun (b:Nat) R=>clk_block b (s.bk+1) c.epochLen R
 have hce:=fun (b:Nat) R=>clk_epoch b (s.bk+1) c.epochLen hel (by omega) R
 have hep:epo c {s with bk:=s.bk+1} = ((s.bk+1:Nat):Int) / c.epochLen:=rfl
 rw[← hep] at hce
 by_cases hz:((s.bk+1:Nat):Int) % c.epochLen=0
 ·have h1:=boundM_inv hc h hb hz
  have hbo:=fun R=>boundary_spec b H c s R hc h hb hz
  have hB:(boundM c {s with bk:=s.bk+1}).s.bk=s.bk+1:=rfl
  have hT:tickM c s=(⟨7,0,-1,((s.bk+1:Nat):Int),epo c {s with bk:=s.bk+1},-1,(payM c (boundM c {s with bk:=s.bk+1}).s).vi,(boundM c {s with bk:=s.bk+1}).ag,(payM c (boundM c {s with bk:=s.bk+1}).s).pm⟩,(payM c (boundM c {s with bk:=s.bk+1}).s).s):=by
   unfold tickM;simp only[if_pos hz];rfl
  rw[hT]
  generalize boundM c {s with bk:=s.bk+1} = B at *
  obtain ⟨ag,B⟩:=B
  simp only at *
  have hpy:=fun (H:EH) R=>pay_spec b H c B R hc h1
  have hP:(payM c B).s.bk=s.bk+1:=hB
  generalize payM c B=P at *
  obtain ⟨pm,pv,⟨pk,V',dep',pd',bu',pe',fo',vo',me',pa',at2,ca',lv',bo'⟩⟩:=P
  simp only at hP
  subst hP
  rw[show decide (((s.bk+1:Nat):Int) % c.epochLen=0)=true by simpa using hz] at htk
  (intro G w M;refine sx_enter (vs:=([ptr b,opV ⟨7,ix,tg,am⟩]:List Value)) Tryz.func65 (n:=40) rfl rfl rfl rfl ?_;intro a F;(try simp only[zc,zn] at M))
  (repeat'(first|(first|refine sx_nil ?_|refine pv_nil ?_;intro a w F M);try replace F:=F.filt zk119 rfl|refine zn1 F M ?_;clear F M a;(try clear w);intro a w F M|refine sv2 F M ?_;clear F M a;intro nb a w F M|refine zp1 ?_|refine zp2 ?_;intro nb|((first|refine svC F M ?_|refine pvC ?_|fail);((first|((refine acK (k:=137) (htk _) ?_);rintro u L' ⟨rfl,rfl⟩)|(refine acK (L1:=engL b H c {s with bk:=s.bk+1} _) (k:=138) (hbo _) ?_;rintro u L' ⟨ha,H1,rfl,rfl⟩)|(refine acK (L1:=engL b H1 c B _) (k:=139) (hpy _ _) ?_;rintro u L' ⟨hp,rfl,rfl⟩)|((refine acK (k:=73) (hcb _ _) ?_);rintro u L' ⟨rfl,rfl⟩)|((refine acK (k:=74) (hce _ _) ?_);rintro u L' ⟨rfl,rfl⟩)|((refine acW (k:=75) (hac _ _) ?_);rintro u L' ⟨rfl,rfl⟩)));(first|refine⟨rvsA,?_⟩|clear F M a;intro a w F M|fail))|refine zT F ?_|((with_reducible refine isD ?_);((refine zD zd120 F M ?_;clear F M a w)))|refine zY ?_;go_step|fail))
  all_goals refine zE F M ?_
  exact⟨_,_,rfl,⟨ha,hp,H1,rfl,rfl⟩,M.perms permsA⟩
 ·have h1:=Inv.same hc h hb hz
  have hT:tickM c s=(⟨7,0,-1,((s.bk+1:Nat):Int),epo c {s with bk:=s.bk+1},-1,(payM c {s with bk:=s.bk+1}).vi,[],(payM c {s with bk:=s.bk+1}).pm⟩,(payM c {s with bk:=s.bk+1}).s):=by
   unfold tickM;simp only[if_neg hz];rfl
  rw[hT]
  have hpy:=fun (H:EH) R=>pay_spec b H c {s with bk:=s.bk+1} R hc h1
  have hP:(payM c {s with bk:=s.bk+1}).s.bk=s.bk+1:=rfl
  generalize payM c {s with bk:=s.bk+1} = P at *
  obtain ⟨pm,pv,⟨pk,V',dep',pd',bu',pe',fo',vo',me',pa',at2,ca',lv',bo'⟩⟩:=P
  simp only at hP
  subst hP
  rw[show decide (((s.bk+1:Nat):Int) % c.epochLen=0)=false by simpa using hz] at htk
  (intro G w M;refine sx_enter (vs:=([ptr b,opV ⟨7,ix,tg,am⟩]:List Value)) Tryz.func65 (n:=40) rfl rfl rfl rfl ?_;intro a F;(try simp only[zc,zn] at M))
  have M:=M.own_nil 87 3
  (repeat'(first|(first|refine sx_nil ?_|refine pv_nil ?_;intro a w F M);try replace F:=F.filt zk119 rfl|refine zn1 F M ?_;clear F M a;(try clear w);intro a w F M|refine sv2 F M ?_;clear F M a;intro nb a w F M|refine zp1 ?_|refine zp2 ?_;intro nb|((first|refine svC F M ?_|refine pvC ?_|fail);((first|((refine acK (k:=137) (htk _) ?_);rintro u L' ⟨rfl,rfl⟩)|(refine acK (L1:=engL b H c {s with bk:=s.bk+1} _) (k:=139) (hpy _ _) ?_;rintro u L' ⟨hp,rfl,rfl⟩)|((refine acK (k:=73) (hcb _ _) ?_);rintro u L' ⟨rfl,rfl⟩)|((refine acK (k:=74) (hce _ _) ?_);rintro u L' ⟨rfl,rfl⟩)|((refine acW (k:=75) (hac _ _) ?_);rintro u L' ⟨rfl,rfl⟩)));(first|refine⟨rvsA,?_⟩|clear F M a;intro a w F M|fail))|refine zT F ?_|((with_reducible refine isD ?_);((refine zD zd120 F M ?_;clear F M a w)))|refine zY ?_;go_step|fail))
  all_goals refine zE F M ?_
  exact⟨_,_,rfl,⟨nilH,hp,H,rfl,rfl⟩,M.perms permsA⟩
variable (hc:CfOk c) (hi:Inv c s)
theorem rs3 (r:Rs):∃ x y z:Int,rsI r=[.int .i64 x,.int .i64 y,.int .i64 z]:=by
 unfold rsI;split
 ·exact⟨_,_,_,rfl⟩
 ·exact⟨_,_,_,rfl⟩
theorem exit_spec (hc:CfOk c) (h:Inv c s) (o:Opn):Spec 67 [ptr b,opV o] (engL b H c s R) fun u L'=>u=rsV (opLeave c s 1 o.ix)∧L'=engL b H c (opLeave c s 1 o.ix).s R:=by
 obtain ⟨k,ix,tg,am⟩:=o
 have hl:∀ R,Spec 146 [ptr b,.int .i64 1,.int .i64 ix] (engL b H c s R) fun u L'=>u=rsV (opLeave c s 1 ix)∧L'=engL b H c (opLeave c s 1 ix).s R:=fun R=>leave_spec b H c s hc h R 1 (by omega) ix
 obtain ⟨x,y,z,hr⟩:=rs3 (opLeave c s 1 ix)
 simp only[rsV,hr] at hl ⊢
 (intro G w M;refine sx_enter (vs:=([ptr b,opV ⟨k,ix,tg,am⟩]:List Value)) Tryz.func67 (n:=9) rfl rfl rfl rfl ?_;intro a F;(try simp only[zc,zn] at M))
 (repeat'(first|(first|refine sx_nil ?_|fail);try replace F:=F.filt zk121 rfl|refine zn1 F M ?_;clear F M a;(try clear w);intro a w F M|refine sv2 F M ?_;clear F M a;intro nb a w F M|((first|refine svC F M ?_|fail);((refine acK (L1:=engL b H c s _) (k:=146) (hl _) ?_;rintro u L' ⟨rfl,rfl⟩));(first|clear F M a;intro a w F M|fail))|refine zT F ?_|refine zY ?_;go_step|fail))
 all_goals exact zX F M
theorem eject_spec (hc:CfOk c) (h:Inv c s) (o:Opn):Spec 68 [ptr b,opV o] (engL b H c s R) fun u L'=>u=rsV (opLeave c s 0 o.ix)∧L'=engL b H c (opLeave c s 0 o.ix).s R:=by
 obtain ⟨k,ix,tg,am⟩:=o
 have hl:∀ R,Spec 146 [ptr b,.int .i64 0,.int .i64 ix] (engL b H c s R) fun u L'=>u=rsV (opLeave c s 0 ix)∧L'=engL b H c (opLeave c s 0 ix).s R:=fun R=>leave_spec b H c s hc h R 0 (by omega) ix
 obtain ⟨x,y,z,hr⟩:=rs3 (opLeave c s 0 ix)
 simp only[rsV,hr] at hl ⊢
 (intro G w M;refine sx_enter (vs:=([ptr b,opV ⟨k,ix,tg,am⟩]:List Value)) Tryz.func68 (n:=9) rfl rfl rfl rfl ?_;intro a F;(try simp only[zc,zn] at M))
 (repeat'(first|(first|refine sx_nil ?_|fail);try replace F:=F.filt zk121 rfl|refine zn1 F M ?_;clear F M a;(try clear w);intro a w F M|refine sv2 F M ?_;clear F M a;intro nb a w F M|((first|refine svC F M ?_|fail);((refine acK (L1:=engL b H c s _) (k:=146) (hl _) ?_;rintro u L' ⟨rfl,rfl⟩));(first|clear F M a;intro a w F M|fail))|refine zT F ?_|refine zY ?_;go_step|fail))
 all_goals exact zX F M
theorem opM_no (o:Opn) (h:(opM c s o).c≠0):(opM c s o).ix = -1∧(opM c s o).dl = -1:=by
 revert h
 unfold opM opDep opLeave opSlash opMerge opPart no'
 repeat'(first|(intro h;exact⟨rfl,rfl⟩)|(intro h;exact absurd rfl h)|split|dsimp only)
def opP (b:Nat):List (Value × Value):=[(.int .i64 6,.func (.func 71) #[ptr b] #[]),(.int .i64 5,.func (.func 70) #[ptr b] #[]),(.int .i64 4,.func (.func 69) #[ptr b] #[]),(.int .i64 3,.func (.func 68) #[ptr b] #[]),(.int .i64 2,.func (.func 67) #[ptr b] #[]),(.int .i64 1,.func (.func 66) #[ptr b] #[])]
theorem ap_miss (hc:CfOk c) (h:Inv c s) (o:Opn) (ho:I64 o.k) (h1:o.k<1∨7<o.k):Spec 31 [ptr b,opV o] (engL b H c s R) fun u L'=>u=rcV ⟨o.k,11,-1,s.bk,epo c s,-1,0,[],[]⟩ nilH nilH∧L'=engL b H c s R:=by
 have hno:∀ p∈opP b,p.1≠.int .i64 o.k:=by
  intro p hp he
  simp only[opP,List.mem_cons,List.not_mem_nil,or_false] at hp
  rcases hp with rfl|rfl|rfl|rfl|rfl|rfl<;>(simp only[Value.int.injEq] at he;omega)
 have hrj:=fun e bk ep R=>rej_spec o e bk ep R
 have hac:=fun ix dl bk ep R=>acp_spec o ix dl bk ep R
 have hbk:=h.bk
 have hcb:=fun R=>clk_block H.ck s.bk c.epochLen R
 have hce:=fun R=>clk_epoch H.ck s.bk c.epochLen hc.el (by omega) R
 rw[show(s.bk:Int) / c.epochLen=epo c s from rfl] at hce
 obtain ⟨k,ix,tg,am⟩:=o
 simp only at ho h1 hno
 have hne:decide (k=7)=false:=by simp;omega
 (intro G w M;refine sx_enter (vs:=([ptr b,opV ⟨k,ix,tg,am⟩]:List Value)) Tryz.func31 (n:=75) rfl rfl rfl rfl ?_;intro a F;(try simp only[zc,zn] at M))
 (repeat'(first|((first|refine sv1 F M (h:=?_) (hr:=by((first|(refine rt_neN rfl rfl rfl inferInstance)|(apply rt_miss1;(exact rfl);(exact rfl);(exact rfl);(exact inferInstance);(exact gives_mp pullA);(exact intKey ho);(exact hno);(exact inferInstance)))))|fail);(try(clear F a;intro a F)))|(first|refine sx_nil ?_|refine pv_nil ?_;intro a w F M);try replace F:=F.filt zk122 rfl|refine zn1 F M ?_;clear F M a;(try clear w);intro a w F M|refine sv2 F M ?_;clear F M a;intro nb a w F M|refine zp1 ?_|((first|refine svC F M ?_|refine svC0 F M ?_|refine pvC ?_|fail);((first|(apply ac_makeMap;(exact rfl);(exact inferInstance);intro nm)|(refine ac_insNew rfl rfl rfl rfl inferInstance (intKey (by constructor<;>decide)) (by(focus ((repeat (first|exact Rep.here|apply Rep.there));done))) (by simp) ?_)|((refine acW (k:=72) (efail_spec _ _) ?_);rintro u L' ⟨rfl,rfl⟩)|((refine acK (k:=73) (hcb _) ?_);rintro u L' ⟨rfl,rfl⟩)|((refine acK (k:=74) (hce _) ?_);rintro u L' ⟨rfl,rfl⟩)|((refine acW (k:=64) (hrj _ _ _ _) ?_);rintro u L' ⟨rfl,rfl⟩)|fail));(first|refine⟨rvsA,?_⟩|clear F M a;intro a w F M|clear M;intro w M))|refine zT F ?_|((with_reducible refine isK ?_);refine svB F ?_ ?_<;>intro hc<;>try exact no hc)|((with_reducible refine isD ?_);((refine zD zd123 F M ?_;clear F M a w)))|refine zY ?_;go_step|fail))
 all_goals refine zE F M ?_
 all_goals exact⟨_,_,rfl,⟨rfl,rfl⟩,M.perms permsA⟩
theorem ap_hit (hc:CfOk c) (h:Inv c s) (o:Opn) (ho:I64 o.k) (h1:o.k≠7) (g:FuncId) [hg:FK g] (r:Rs) (hin:(Value.int .i64 o.k,Value.func (.func g) #[ptr b] #[])∈opP b) (hop:∀ R,Spec g [ptr b,opV o] (engL b H c s R) fun u L'=>u=rsV r∧L'=engL b H c r.s R) (hrb:r.s.bk=s.bk) (hr0:r.c≠0→r.ix = -1∧r.dl = -1) :
  Spec 31 [ptr b,opV o] (engL b H c s R) fun u L'=>u=rcV ⟨o.k,r.c,r.ix,s.bk,epo c s,r.dl,0,[],[]⟩ nilH nilH∧L'=engL b H c r.s R:=by
 have hrj:=fun e bk ep R=>rej_spec o e bk ep R
 have hac:=fun ix dl bk ep R=>acp_spec o ix dl bk ep R
 have hbk:=h.bk
 have hcb:=fun R=>clk_block H.ck s.bk c.epochLen R
 have hce:=fun R=>clk_epoch H.ck s.bk c.epochLen hc.el (by omega) R
 rw[show(s.bk:Int) / c.epochLen=epo c s from rfl] at hce
 obtain ⟨k,ix,tg,am⟩:=o
 obtain ⟨rc,rix,rdl,⟨rk,V',dep',pd',bu',pe',fo',vo',me',pa',at2,ca',lv',bo'⟩⟩:=r
 simp only at ho h1 hin hrb hr0
 subst hrb
 have hne:decide (k=7)=false:=by simp;omega
 by_cases hz:rc=0
 ·subst hz
  have e3:rsI ⟨0,rix,rdl,⟨s.bk,V',dep',pd',bu',pe',fo',vo',me',pa',at2,ca',lv',bo'⟩⟩=[.int .i64 0,.int .i64 rix,.int .i64 rdl]:=rfl
  simp only[rsV,e3] at hop
  (intro G w M;refine sx_enter (vs:=([ptr b,opV ⟨k,ix,tg,am⟩]:List Value)) Tryz.func31 (n:=75) rfl rfl rfl rfl ?_;intro a F;(try simp only[zc,zn] at M))
  (repeat'(first|((first|refine sv1 F M (h:=?_) (hr:=by((first|(refine rt_neF rfl rfl rfl inferInstance)|(apply rt_hit1;(exact rfl);(exact rfl);(exact rfl);(exact inferInstance);(exact gives_mp pullA);(exact intKey ho);(exact hin)))))|fail);(try(clear F a;intro a F)))|(first|refine sx_nil ?_|refine pv_nil ?_;intro a w F M);try replace F:=F.filt zk122 rfl|refine zn1 F M ?_;clear F M a;(try clear w);intro a w F M|refine sv2 F M ?_;clear F M a;intro nb a w F M|refine zp1 ?_|((first|refine svC F M ?_|refine svC0 F M ?_|refine pvC ?_|fail);((first|(first|(apply ac_makeMap;(exact rfl);(exact inferInstance);intro nm)|(refine ac_insNew rfl rfl rfl rfl inferInstance (intKey (by constructor<;>decide)) (by(focus ((repeat (first|exact Rep.here|apply Rep.there));done))) (by simp) ?_)|((refine acW (k:=72) (efail_spec _ _) ?_);rintro u L' ⟨rfl,rfl⟩)|((refine acK (k:=73) (hcb _) ?_);rintro u L' ⟨rfl,rfl⟩)|((refine acK (k:=74) (hce _) ?_);rintro u L' ⟨rfl,rfl⟩)|((refine acW (k:=75) (hac _ _ _ _ _) ?_);rintro u L' ⟨rfl,rfl⟩))|(refine acF (k:=g) (L1:=engL b H c s _) (hop _) ?_;rintro u L' ⟨rfl,rfl⟩)));(first|refine⟨rvsA,?_⟩|clear F M a;intro a w F M|clear M;intro w M))|refine zT F ?_|((with_reducible refine isK ?_);refine svB F ?_ ?_<;>intro hc<;>try exact no hc)|((with_reducible refine isD ?_);((refine zD zd123 F M ?_;clear F M a w)))|refine zY ?_;go_step|fail))
  all_goals refine zE F M ?_
  all_goals exact⟨_,_,rfl,⟨rfl,rfl⟩,M.perms permsA⟩
 ·have e3:rsI ⟨rc,rix,rdl,⟨s.bk,V',dep',pd',bu',pe',fo',vo',me',pa',at2,ca',lv',bo'⟩⟩=[.int .i64 rc,.int .i64 0,.int .i64 0]:=by unfold rsI;rw[if_neg hz]
  simp only[rsV,e3] at hop
  obtain ⟨rfl,rfl⟩:=hr0 hz
  (intro G w M;refine sx_enter (vs:=([ptr b,opV ⟨k,ix,tg,am⟩]:List Value)) Tryz.func31 (n:=75) rfl rfl rfl rfl ?_;intro a F;(try simp only[zc,zn] at M))
  (repeat'(first|((first|refine sv1 F M (h:=?_) (hr:=by((first|(refine rt_neF rfl rfl rfl inferInstance)|(apply rt_hit1;(exact rfl);(exact rfl);(exact rfl);(exact inferInstance);(exact gives_mp pullA);(exact intKey ho);(exact hin)))))|fail);(try(clear F a;intro a F)))|(first|refine sx_nil ?_|refine pv_nil ?_;intro a w F M);try replace F:=F.filt zk122 rfl|refine zn1 F M ?_;clear F M a;(try clear w);intro a w F M|refine sv2 F M ?_;clear F M a;intro nb a w F M|refine zp1 ?_|((first|refine svC F M ?_|refine svC0 F M ?_|refine pvC ?_|fail);((first|(first|(apply ac_makeMap;(exact rfl);(exact inferInstance);intro nm)|(refine ac_insNew rfl rfl rfl rfl inferInstance (intKey (by constructor<;>decide)) (by(focus ((repeat (first|exact Rep.here|apply Rep.there));done))) (by simp) ?_)|((refine acW (k:=72) (efail_spec _ _) ?_);rintro u L' ⟨rfl,rfl⟩)|((refine acK (k:=73) (hcb _) ?_);rintro u L' ⟨rfl,rfl⟩)|((refine acK (k:=74) (hce _) ?_);rintro u L' ⟨rfl,rfl⟩)|((refine acW (k:=64) (hrj _ _ _ _) ?_);rintro u L' ⟨rfl,rfl⟩)|fail)|(refine acF (k:=g) (L1:=engL b H c s _) (hop _) ?_;rintro u L' ⟨rfl,rfl⟩)));(first|refine⟨rvsA,?_⟩|clear F M a;intro a w F M|clear M;intro w M))|refine zT F ?_|((with_reducible refine isK ?_);refine svB F ?_ ?_<;>intro hc<;>try exact no hc)|((with_reducible refine isD ?_);((refine zD zd123 F M ?_;clear F M a w)))|refine zY ?_;go_step|fail))
  all_goals first|(exfalso;rename_i hc;exact hc hz)|(refine zE F M ?_;exact⟨_,_,rfl,⟨rfl,rfl⟩,M.perms permsA⟩)
end
end
section
open Go.RowKit
theorem Spec.nils {k:FuncId} {us:List Value} {L:List Asn} {D:Value→List Asn→Prop} (h:Spec k us L D):Spec k us L fun u L'=>∃ L1,D u L1∧L'=ownT 87 asgL 3 (sl nilH) []::ownT 65 pmL 3 (sl nilH) []::L1:=fun G w M=>by
 refine(h G w M).mono ?_
 rintro e w' ⟨v,L',h1,h2,M'⟩
 have M2:=(M'.own_nil 65 3).own_nil 87 3
 exact⟨v,_,h1,⟨_,h2,rfl⟩,M2⟩
section
variable (b:Nat) (H:EH) (c:Cfg) (s:St) (R:List Asn)
def apQ (b:Nat) (c:Cfg) (R:List Asn) (x:Rc × St) (u:Value) (L':List Asn):Prop:=∃ ha hp H',u=rcV x.1 ha hp∧L'=ownT 87 asgL 3 (sl ha) x.1.asg::ownT 65 pmL 3 (sl hp) x.1.pms::engL b H' c x.2 R
theorem ap_tick (hc:CfOk c) (h:Inv c s) (hb:s.bk<1000000000) (o:Opn) (ho:o.k=7):Spec 31 [ptr b,opV o] (engL b H c s R) fun u L'=>apQ b c R (tickM c s) u L':=by
 obtain ⟨k,ix,tg,am⟩:=o
 simp only at ho
 subst ho
 have ht:=fun R=>tick_spec b H c s R hc h hb ⟨7,ix,tg,am⟩ rfl
 unfold apQ
 generalize tickM c s=X at *
 obtain ⟨⟨x1,x2,x3,x4,x5,x6,x7,x8,x9⟩,s2⟩:=X
 simp only at ht ⊢
 (intro G w M;refine sx_enter (vs:=([ptr b,opV ⟨7,ix,tg,am⟩]:List Value)) Tryz.func31 (n:=75) rfl rfl rfl rfl ?_;intro a F;(try simp only[zc,zn] at M))
 (repeat'(first|(first|refine sx_nil ?_|fail);try replace F:=F.filt zk122 rfl|refine zn1 F M ?_;clear F M a;(try clear w);intro a w F M|refine sv2 F M ?_;clear F M a;intro nb a w F M|((first|refine svC F M ?_|fail);((refine acK (L1:=engL b H c s _) (k:=65) (ht _) ?_;rintro u L' ⟨ha,hp,H1,rfl,rfl⟩));(first|clear F M a;intro a w F M|fail))|refine zT F ?_|refine zY ?_;go_step|fail))
 all_goals refine zE F M ?_
 all_goals exact⟨_,_,rfl,⟨ha,hp,H1,rfl,rfl⟩,M.perms permsA⟩
theorem apply_spec (hc:CfOk c) (h:Inv c s) (hb:s.bk<1000000000) (o:Opn) (hk:I64 o.k) (ho:U64 o.am):Spec 31 [ptr b,opV o] (engL b H c s R) fun u L'=>apQ b c R (stepM c s o) u L':=by
 by_cases h7:o.k=7
 ·have e:stepM c s o=tickM c s:=by unfold stepM;rw[if_pos h7]
  rw[e]
  exact ap_tick b H c s R hc h hb o h7
 ·have e:stepM c s o=(⟨o.k,(opM c s o).c,(opM c s o).ix,s.bk,epo c s,(opM c s o).dl,0,[],[]⟩,(opM c s o).s):=by unfold stepM;rw[if_neg h7]
  rw[e]
  have fin:Spec 31 [ptr b,opV o] (engL b H c s R) fun u L'=>u=rcV ⟨o.k,(opM c s o).c,(opM c s o).ix,s.bk,epo c s,(opM c s o).dl,0,[],[]⟩ nilH nilH∧L'=engL b H c (opM c s o).s R:=by
   have hit:=fun (g:FuncId) (hg:FK g) hin hop=>ap_hit b H c s R hc h o hk h7 g (opM c s o) hin hop (opM_bk c s o) (opM_no c s o)
   by_cases h1:o.k=1
   ·exact hit 66 inferInstance (by rw[h1];simp[opP]) fun R=>by
     have:opM c s o=opDep c s o.am:=by unfold opM;rw[if_pos h1]
     rw[this];exact dep_spec b H c s hc h R o ho
   by_cases h2:o.k=2
   ·exact hit 67 inferInstance (by rw[h2];simp[opP]) fun R=>by
     have:opM c s o=opLeave c s 1 o.ix:=by unfold opM;rw[if_neg h1,if_pos h2]
     rw[this];exact exit_spec b H c s R hc h o
   by_cases h3:o.k=3
   ·exact hit 68 inferInstance (by rw[h3];simp[opP]) fun R=>by
     have:opM c s o=opLeave c s 0 o.ix:=by unfold opM;rw[if_neg h1,if_neg h2,if_pos h3]
     rw[this];exact eject_spec b H c s R hc h o
   by_cases h4:o.k=4
   ·exact hit 69 inferInstance (by rw[h4];simp[opP]) fun R=>by
     have:opM c s o=opSlash c s o.ix:=by unfold opM;rw[if_neg h1,if_neg h2,if_neg h3,if_pos h4]
     rw[this];exact slash_spec b H c s hc h R o
   by_cases h5:o.k=5
   ·exact hit 70 inferInstance (by rw[h5];simp[opP]) fun R=>by
     have:opM c s o=opMerge c s o.ix o.tg:=by unfold opM;rw[if_neg h1,if_neg h2,if_neg h3,if_neg h4,if_pos h5]
     rw[this];exact cons_spec b H c s hc h R o
   by_cases h6:o.k=6
   ·exact hit 71 inferInstance (by rw[h6];simp[opP]) fun R=>by
     have:opM c s o=opPart c s o.ix o.am:=by unfold opM;rw[if_neg h1,if_neg h2,if_neg h3,if_neg h4,if_neg h5,if_pos h6]
     rw[this];exact part_spec b H c s hc h R o ho
   have:opM c s o=no' s 11:=by unfold opM;rw[if_neg h1,if_neg h2,if_neg h3,if_neg h4,if_neg h5,if_neg h6]
   rw[this]
   exact ap_miss b H c s R hc h o hk (by omega)
  refine fin.nils.mono ?_
  rintro u L' ⟨L1,⟨rfl,rfl⟩,rfl⟩
  exact⟨nilH,nilH,H,rfl,rfl⟩
end
end
def zk124:List Nat:=[0,1,4,5,7,8,9,10,11]
section
open Go.RowKit
def rcP (x:RcS):List Asn:=[ownT 87 asgL 3 (sl x.s) x.r.asg,ownT 65 pmL 3 (sl x.p) x.r.pms]
def rsA (xs:List RcS):Asn:=exA fun _:Unit=>xs.flatMap rcP
theorem rs_nil {w:World} {L:List Asn} (M:Mem w L):Mem w (rsA []::L):=Mem.exc (f:=fun _:Unit=>([]:List RcS).flatMap rcP) () (by simpa using M)
theorem rs_add {w:World} {L:List Asn} {xs:List RcS} {x:RcS} (M:Mem w (ownT 87 asgL 3 (sl x.s) x.r.asg::ownT 65 pmL 3 (sl x.p) x.r.pms::rsA xs::L)):Mem w (rsA (xs++[x])::L):=by
 obtain ⟨_,M2⟩:=(M.perms (permsA:Perms _ (rsA xs::ownT 87 asgL 3 (sl x.s) x.r.asg::ownT 65 pmL 3 (sl x.p) x.r.pms::L))).exo
 refine Mem.exc (f:=fun _:Unit=>(xs++[x]).flatMap rcP) () ?_
 simpa[List.flatMap_append,rcP] using M2
theorem runM_cons (c:Cfg) (s:St) (o:Opn) (r:List Opn):runM c s (o::r)=((stepM c s o).1::(runM c (stepM c s o).2 r).1,(runM c (stepM c s o).2 r).2):=rfl
structure RnZ where
 k:Nat
 H:EH
 h:SlH
 xs:List RcS
 s:St
section
variable (b:Nat) (H:EH) (c:Cfg) (s:St) (R:List Asn)
theorem run_spec (hc:CfOk c) (h:Inv c s) (v:Value) (l:List Opn) (hg:GS R 4 v l.length (l.flatMap opL)) (hl:l.length≤100000) (hb:s.bk+l.length<1000000000) (hwf:∀ o∈l,I64 o.k∧U64 o.am) :
  Spec 35 [ptr b,v] (engL b H c s R) fun u L'=>∃ hr H' xs,(u=sl hr∧xs.map (·.r)=(runM c s l).1)∧L'=ownT 62 rsL 9 (sl hr) xs::rsA xs::engL b H' c (runM c s l).2 R:=by
 obtain ⟨X,hX⟩:∃ X,runM c s l=X:=⟨_,rfl⟩
 rw[hX]
 (intro G w M;refine sx_enter (vs:=([ptr b,v]:List Value)) Tryz.func35 (n:=22) rfl rfl rfl rfl ?_;intro a F;(try simp only[zc,zn] at M))
 have hG:GS (R++G) 4 v l.length (l.flatMap opL):=Gives.app hg
 have M:=rs_nil (M.own_nil 62 9)
 (repeat'(first|(first|refine sx_nil ?_|fail);try replace F:=F.filt zk124 rfl|refine zn1 F M ?_;clear F M a;(try clear w);intro a w F M|refine zT F ?_|refine zY ?_;go_step|fail))
 refine svLoop F M (⟨0,H,nilH,[],s⟩:RnZ) (fun z=>[(10,.int .i64 z.k),(5,sl z.h)]) (fun z=>ownT 62 rsL 9 (sl z.h) z.xs::rsA z.xs::engL b z.H c z.s []) (fun z=>z.k≤l.length∧Inv c z.s∧z.s.bk≤s.bk+z.k∧z.xs.length=z.k∧z.xs.map (·.r)++(runM c z.s (l.drop z.k)).1=X.1∧(runM c z.s (l.drop z.k)).2=X.2) (fun z=>l.length - z.k) [7] ⟨Nat.zero_le _,h,Nat.le_refl _,rfl,by simp[hX],by simp[hX]⟩ ?_ (hR:=by(repeat (first|exact Pulls.nil|(apply Pulls.cons;(focus ((repeat (first|exact Pull.here|apply Pull.there));done))))))
 (rintro⟨k,H',hh,xs,s'⟩ ⟨q1,q2,q3,q4,q5,q6⟩ a w F M;(try simp only[zc,zn] at F M q1 q2 q3 q4 q5 q6 ⊢))
 by_cases hk:k<l.length
 ·obtain ⟨o,ho⟩:∃ o,l[k]? = some o:=⟨l[k],by simp[hk]⟩
  obtain ⟨ho1,ho2⟩:=hwf o (List.mem_of_getElem? ho)
  rw[drop_cons ho,runM_cons] at q5 q6
  have hap:=fun R=>apply_spec b H' c s' R hc q2 (by omega) o ho1 ho2
  obtain ⟨n1,n2⟩:=stepM_inv hc q2 (by omega) o ho2
  simp only[apQ] at hap
  obtain ⟨Y,hY⟩:∃ Y,stepM c s' o=Y:=⟨_,rfl⟩
  simp only[hY] at hap q5 q6 n1 n2
  obtain ⟨⟨x1,x2,x3,x4,x5,x6,x7,x8,x9⟩,s2⟩:=Y
  obtain ⟨ok,oi,ot,oa⟩:=o
  simp only at hap q5 q6 n1 n2
  (repeat'(first|(first|refine sx_nil ?_|fail);try replace F:=F.filt zk124 rfl|refine zn1 F M ?_;clear F M a;(try clear w);intro a w F M|refine sv2 F M ?_;clear F M a;intro nb a w F M|((first|refine svC F M ?_|fail);((first|(refine acK (L1:=engL b H' c s' _) (k:=31) (hap _) ?_;rintro u L' ⟨ha,hp,H2,rfl,rfl⟩)|(refine ac_appendH (f:=rsL) (xs:=xs) (ys:=[⟨⟨x1,x2,x3,x4,x5,x6,x7,x8,x9⟩,ha,hp⟩]) rfl rfl inferInstance rfl rfl pullA inferInstance gsA rfl rfl (by simp;omega) ?_;intro nv)));(first|clear F M a;intro a w F M|fail))|refine zT F ?_|((with_reducible refine isK ?_);refine svB F ?_ ?_<;>intro hc<;>try exact no hc)|refine zY ?_;go_step|fail))
  have M1:=rs_add (x:=⟨⟨x1,x2,x3,x4,x5,x6,x7,x8,x9⟩,ha,hp⟩) (xs:=xs) (L:=ownT 62 rsL 9 (sl nv) (xs++[⟨⟨x1,x2,x3,x4,x5,x6,x7,x8,x9⟩,ha,hp⟩])::engL b H2 c s2 (R++G)) (M.perms permsA)
  clear M;have M:=M1;clear M1
  refine sv_again F M (⟨k+1,H2,nv,xs++[⟨⟨x1,x2,x3,x4,x5,x6,x7,x8,x9⟩,ha,hp⟩],s2⟩:RnZ) kpA permsA ⟨by simp only;omega,n1,by simp only;omega,by simp[q4],?_,q6⟩ (by simp only;omega)
  rw[← q5];simp
 obtain rfl:k=l.length:=by omega
 rw[List.drop_length] at q5 q6
 simp only[runM,List.append_nil] at q5 q6
 subst q6
 (repeat'(first|(first|refine sx_nil ?_|fail);try replace F:=F.filt zk124 rfl|refine zn1 F M ?_;clear F M a;(try clear w);intro a w F M|refine zT F ?_|((with_reducible refine isK ?_);refine svB F ?_ ?_<;>intro hc<;>try exact no hc)|refine zY ?_;go_step|fail))
 all_goals refine zE F M ?_
 exact⟨_,_,rfl,⟨hh,H',xs,⟨rfl,q5⟩,rfl⟩,M.perms permsA⟩
end
end
def zk125:List Nat:=[0,1,4,6,16]
def zk126:List Nat:=[0,2,3,5,6,8,9,10,11,12,20,25,26,27,28]
section
open Go.RowKit
section
variable {o:Oper} {n:Nat} {l:List (Nat × Value)} {L:List Asn} {C:Value→List Asn→Prop}
theorem ac_appendZ {x y:Operand} {t tn:TypeId} {ats:Array TypeId} (ho:o.op=.call {callee:=.builtin .append,args:=#[x,y],argTypes:=ats}) (hat:ats = #[t,tn]) {e:TypeId} {z:Value} {size bytes:Nat} (ht:ST t e z size bytes) {kn:IntKind} (htn:Tryz.prog.underlying tn=some (.int kn)) (hx:evl l x=some (.slice none 0 0)) {kd:IntKind} {k:Nat} (hy:evl l y=some (.int kd (k:Int)))
  (h0:0<k) (hm:k≤maxLen) (hb:k*bytes≤281474976710656) (h:∀ b c xs,C (sl ⟨some ⟨b,0,none⟩,k,c⟩) (own e size (sl ⟨some ⟨b,0,none⟩,k,c⟩) k xs::L)):AC o l L n C:=fun G a w F M=>by
 obtain ⟨i,hu,hi,hz,hsize,hby,hzs,hsz⟩:=st_info ht
 subst hat;subst hsize;subst hby
 have hr:=Lib.run_append_nil_zeros (P:=Tryz.prog) w t tn o.type e i z kd kn hu htn hi hz k h0 hsz (by simp only[maxLen] at hm;omega) hb
 have:(execOp a.eval o).run Tryz.prog w=.ok (.value (sl ⟨some ⟨w.heap.size,0,none⟩,k,grownCap w k 0 e⟩)) (w.drew.alloc (.cells (Builtin.zeroCells z.cells k++Builtin.zeroCells z.cells (grownCap w k 0 e - k)) e)):=by
  unfold execOp
  rw[ho]
  simp[resolve,invoke,builtin,F.eval hx,F.eval hy,hr,sl]
 rw[this]
 have hge:=grownCap_ge w k 0 e
 have hcm:grownCap w k 0 e≤maxLen:=grownCap_le_maxLen w k 0 e hm
 refine⟨_,h _ _ (Builtin.zeroCells z.cells k).toList,M.new ⟨rfl,rfl,rfl,by simp,fun k hk _=>((Below.refl w.drew.heap.size w.drew).alloc (Nat.le_refl _) _).block k hk⟩ ⟨[w.heap.size],ok_own (by rw[Array.length_toList,size_zeroCells,hzs]) (heap_alloc_new w.drew _) hge hcm ?_ ?_,by simp⟩⟩
 ·simp only[Array.size_append,size_zeroCells,hzs,← Nat.add_mul]
  congr 1
  omega
 ·rw[Array.toList_append]
  have:k*i.size=(Builtin.zeroCells z.cells k).toList.length:=by rw[Array.length_toList,size_zeroCells,hzs]
  rw[this]
  exact List.take_left
theorem rt_capS {x:Operand} {ats:Array TypeId} {t:TypeId} (ho:o.op=.call {callee:=.builtin .cap,args:=#[x],argTypes:=ats}) (hat:ats = #[t]) {p:Option Addr} {m c:Nat} (hx:evl l x=some (.slice p m c)) {e:TypeId} {z:Value} {size bytes:Nat} (ht:ST t e z size bytes):RT o l L n (.int .i64 c):=fun a w F M=>by
 unfold execOp
 rw[ho]
 subst hat
 simp[resolve,invoke,builtin,Builtin.cap_,F.eval hx,run_underlying ht.k.1 w,goInt]
end
theorem growI_spec (k:Nat) (hk:k≤1000000) (R:List Asn):Spec 246 [.slice none 0 0,.int .i64 k] R fun u L'=>∃ h,u=sl h∧L'=ownT 3 intL 1 (sl h) []::R:=by
 (intro G w M;refine sx_enter (vs:=([.slice none 0 0,.int .i64 k]:List Value)) Tryz.func246 (n:=27) rfl rfl rfl rfl ?_;intro a F;(try simp only[zc,zn] at M))
 by_cases h0:k=0
 ·subst h0
  (repeat'(first|((first|refine sv1 F M (h:=?_) (hr:=by((apply rt_capS;(exact rfl);(exact rfl);(exact rfl);(exact inferInstance))))|fail);(try(clear F a;intro a F)))|(first|refine sx_nil ?_|fail);try replace F:=F.filt zk125 rfl|refine zn1 F M ?_;clear F M a;(try clear w);intro a w F M|refine zT F ?_|refine zY ?_;go_step|fail))
  refine zE F M ?_
  exact⟨_,_,rfl,⟨⟨none,0,0⟩,rfl,rfl⟩,(M.own_nil 3 1).perms permsA⟩
 ·have h1:0<k:=by omega
  (repeat'(first|((first|refine sv1 F M (h:=?_) (hr:=by((first|(apply rt_capS;(exact rfl);(exact rfl);(exact rfl);(exact inferInstance))|(apply rt_to (h:=⟨none,0,0⟩) (k:=.i64) (j:=0);(exact rfl);(exact rfl);(exact rfl);(exact inferInstance);(exact Nat.le_refl _))|(apply rt_to (h:=⟨some ⟨nb,0,none⟩,k,nc⟩) (k:=.i64) (j:=0);(exact rfl);(exact rfl);(exact rfl);(exact inferInstance);(exact Nat.zero_le _)))))|fail);(try(clear F a;intro a F)))|(first|refine sx_nil ?_|fail);try replace F:=F.filt zk125 rfl|refine zn1 F M ?_;clear F M a;(try clear w);intro a w F M|((first|refine svC F M ?_|fail);((refine ac_appendZ rfl rfl inferInstance (k:=k) (kn:=.i64) (by kernel_rfl) rfl rfl h1 (by simp only[maxLen];omega) (by omega) ?_;intro nb nc nx));(first|clear F M a;intro a w F M|fail))|refine zT F ?_|((with_reducible refine isK ?_);refine svB F ?_ ?_<;>intro hc<;>try exact no hc)|refine zY ?_;go_step|fail))
  all_goals refine zE F M ?_
  have M2:=own_cut (j:=0) M (Nat.zero_le _)
  rw[Nat.zero_mul,List.take_zero] at M2
  exact⟨_,_,rfl,⟨⟨some ⟨nb,0,none⟩,0,nc⟩,rfl,rfl⟩,M2.perms permsA⟩
abbrev qsL (Q:List (SlH × List Int)):List SlH:=Q.map (·.1)
def catQ (Q:List (SlH × List Int)):List Int:=Q.flatMap (·.2)
theorem catQ_take {Q:List (SlH × List Int)} {k:Nat} {p:SlH × List Int} (h:Q[k]? = some p):catQ (Q.take (k+1))=catQ (Q.take k)++p.2:=by
 unfold catQ
 rw[List.take_add_one,h,List.flatMap_append]
 simp
theorem catQ_le (Q:List (SlH × List Int)) (k:Nat):(catQ (Q.take k)).length≤(catQ Q).length:=by
 have:catQ Q=catQ (Q.take k)++catQ (Q.drop k):=by unfold catQ;rw[← List.flatMap_append,List.take_append_drop]
 rw[this,List.length_append];omega
theorem concatI_spec (hq:SlH) (Q:List (SlH × List Int)) (hl:(catQ Q).length≤1000000) (hn:Q.length≤1000) (R:List Asn) (hG:∀ p∈Q,GS R 1 (sl p.1) p.2.length (p.2.flatMap intL)) :
  Spec 185 [sl hq] (ownT 24 shL 1 (sl hq) (qsL Q)::R) fun u L'=>∃ h,u=sl h∧L'=ownT 3 intL 1 (sl h) (catQ Q)::ownT 24 shL 1 (sl hq) (qsL Q)::R:=by
 (intro G w M;refine sx_enter (vs:=([sl hq]:List Value)) Tryz.func185 (n:=36) rfl rfl rfl rfl ?_;intro a F;(try simp only[zc,zn] at M))
 have hG':∀ p∈Q,GS (R++G) 1 (sl p.1) p.2.length (p.2.flatMap intL):=fun p hp=>Gives.app (hG p hp)
 have hql:(qsL Q).length=Q.length:=by simp
 (repeat'(first|(first|refine sx_nil ?_|fail);try replace F:=F.filt zk126 rfl|refine zn1 F M ?_;clear F M a;(try clear w);intro a w F M|refine zT F ?_|refine zY ?_;go_step|fail))
 refine svLoop F M (0:Nat) (fun k=>[(11,.int .i64 k),(3,.int .i64 (catQ (Q.take k)).length)]) (fun _=>[]) (fun k=>k≤Q.length) (fun k=>Q.length - k) [5] (Nat.zero_le _) ?_
 (rintro k q1 a w F M;(try simp only[zc,zn] at F M q1 ⊢))
 have hle:=catQ_le Q k
 by_cases hlt:k<Q.length
 ·obtain ⟨p,hp⟩:∃ p,Q[k]? = some p:=⟨Q[k],by simp[hlt]⟩
  have hpm:=List.mem_of_getElem? hp
  have hpg:=hG' p hpm
  have hle2:=catQ_le Q (k+1)
  have hcat:=catQ_take hp
  have hcl:=congrArg List.length hcat
  rw[List.length_append] at hcl
  have hq1:(qsL Q)[k]? = some p.1:=by simp[hp]
  (repeat'(first|(first|refine sx_nil ?_|fail);try replace F:=F.filt zk126 rfl|refine zn1 F M ?_;clear F M a;(try clear w);intro a w F M|refine zT F ?_|((with_reducible refine isK ?_);refine svB F ?_ ?_<;>intro hc<;>try exact no hc)|refine zY ?_;go_step|fail))
  have e3:((catQ (Q.take (k+1))).length:Int)=(catQ (Q.take k)).length+p.2.length:=by omega
  rw[← e3] at F
  refine sv_again F M (k+1) kpA permsA (by omega) (by omega)
 ·obtain rfl:k=Q.length:=by omega
  have hcat:catQ (Q.take Q.length)=catQ Q:=by rw[List.take_length]
  rw[hcat] at F
  (repeat'(first|(first|refine sx_nil ?_|fail);try replace F:=F.filt zk126 rfl|refine zn1 F M ?_;clear F M a;(try clear w);intro a w F M|((first|refine svC F M ?_|fail);(((refine acW (k:=246) (growI_spec (catQ Q).length hl _) ?_);rintro u L' ⟨h,rfl,rfl⟩));(first|clear F M a;intro a w F M|fail))|refine zT F ?_|((with_reducible refine isK ?_);refine svB F ?_ ?_<;>intro hc<;>try exact no hc)|refine zY ?_;go_step|fail))
  refine svLoop F M ((0,h):Nat × SlH) (fun s=>[(27,.int .i64 s.1),(6,sl s.2)]) (fun s=>[ownT 3 intL 1 (sl s.2) (catQ (Q.take s.1))]) (fun s=>s.1≤Q.length) (fun s=>Q.length - s.1) [8] (Nat.zero_le _) ?_ (hR:=by rw[List.take_zero];exact .cons .here .nil)
  (rintro⟨k,h⟩ q1 a w F M;(try simp only[zc,zn] at F M q1 ⊢))
  have hle:=catQ_le Q k
  by_cases hlt:k<Q.length
  ·obtain ⟨p,hp⟩:∃ p,Q[k]? = some p:=⟨Q[k],by simp[hlt]⟩
   have hpm:=List.mem_of_getElem? hp
   have hpg:=hG' p hpm
   have hle2:=catQ_le Q (k+1)
   have hcat:=catQ_take hp
   have hcl:=congrArg List.length hcat
   rw[List.length_append] at hcl
   have hq1:(qsL Q)[k]? = some p.1:=by simp[hp]
   (repeat'(first|(first|refine sx_nil ?_|fail);try replace F:=F.filt zk126 rfl|refine zn1 F M ?_;clear F M a;(try clear w);intro a w F M|((first|refine svC F M ?_|fail);((refine ac_appendH rfl rfl inferInstance rfl rfl pullA inferInstance (ys:=p.2) gsA rfl rfl (by omega) ?_;intro nv));(first|clear F M a;intro a w F M|fail))|refine zT F ?_|((with_reducible refine isK ?_);refine svB F ?_ ?_<;>intro hc<;>try exact no hc)|refine zY ?_;go_step|fail))
   rw[← hcat] at M
   refine sv_again F M (k+1,nv) kpA permsA (by simp only;omega) (by simp only;omega)
  ·obtain rfl:k=Q.length:=by omega
   have hcat:catQ (Q.take Q.length)=catQ Q:=by rw[List.take_length]
   rw[hcat] at M
   (repeat'(first|(first|refine sx_nil ?_|fail);try replace F:=F.filt zk126 rfl|refine zn1 F M ?_;clear F M a;(try clear w);intro a w F M|refine zT F ?_|((with_reducible refine isK ?_);refine svB F ?_ ?_<;>intro hc<;>try exact no hc)|refine zY ?_;go_step|fail))
   all_goals refine zE F M ?_
   exact⟨_,_,rfl,⟨h,rfl,rfl⟩,M.perms permsA⟩
end
section
open Go.RowKit Go.Maps
open Go.ChangeMaps (setBlock)
def isInt (k:Int):Value→Bool
 | .int .i64 x=>decide (x=k)
 | _=>false
theorem isInt_iff {k:Int} {v:Value}:isInt k v=true↔v=.int .i64 k:=by
 unfold isInt
 split
 ·simp
 ·rename_i h
  constructor
  ·intro h;cases h
  ·intro e;exact absurd e (h k)
def delP (k:Int) (L:List (Value × Value)):List (Value × Value):=L.filter fun p=>!isInt k p.1
theorem delP_miss {k:Int} {L:List (Value × Value)} (h:∀ p∈L,p.1≠.int .i64 k):delP k L=L:=by
 unfold delP
 rw[List.filter_eq_self]
 intro p hp
 cases hb:isInt k p.1 with
 | false=>rfl
 | true=>exact absurd (isInt_iff.1 hb) (h p hp)
theorem delP_at {k:Int}:∀ {L:List (Value × Value)} {j:Nat} {p:Value × Value},(L.map (·.1)).Nodup→L[j]? = some p→p.1=.int .i64 k→L.eraseIdx j=delP k L
 | [],j,p,_,h,_=>by simp at h
 | q::L,0,p,hn,h,hk=>by
  simp at h;subst h
  rw[List.map_cons,List.nodup_cons] at hn
  rw[List.eraseIdx_cons_zero]
  have:delP k (q::L)=delP k L:=by
   unfold delP
   rw[List.filter_cons,if_neg]
   simp[isInt_iff.2 hk]
  rw[this,delP_miss]
  intro p hp e
  exact hn.1 (by rw[hk,← e];exact List.mem_map.2 ⟨p,hp,rfl⟩)
 | q::L,j+1,p,hn,h,hk=>by
  rw[List.map_cons,List.nodup_cons] at hn
  have h':L[j]? = some p:=by simpa using h
  have hq:isInt k q.1=false:=by
   cases hb:isInt k q.1 with
   | false=>rfl
   | true=>exact absurd (List.mem_map.2 ⟨p,List.mem_of_getElem? h',by rw[hk,← isInt_iff.1 hb]⟩) hn.1
  rw[List.eraseIdx_cons_succ,delP_at hn.2 h' hk]
  unfold delP
  rw[List.filter_cons,if_pos (by simp[hq])]
theorem eraseIdx_mapF {α β:Type} (f:α→β):∀ (l:List α) (j:Nat),(l.map f).eraseIdx j=(l.eraseIdx j).map f
 | [],j=>by simp
 | x::l,0=>by simp
 | x::l,j+1=>by simp[eraseIdx_mapF f l j]
section
variable {P:Program} {w:World} {b:Nat} {L:List (Value × Value)} {T K E:TypeId}
theorem run_mapDelete (hT:P.underlying T=some (.map K E)) (hK:Keyed P K) {k:Int} {l:Lit} (hk:keyOf P K (.int .i64 k)=some l) (hm:MapIs P K w b L) (X ty:TypeId) (hX:X=K) :
  ∃ w',(Builtin.delete_ #[T,X] ty #[.map (some b),.int .i64 k]).run P w=.ok (.tuple #[]) w'∧MapIs P K w' b (delP k L)∧Touch b w w':=by
 subst hX
 obtain ⟨es,clk,hb,hp,hl,hn⟩:=hm
 have hkeys:∀ e∈es.toList,∃ l,keyOf P X e.key=some l:=fun e he=>hl (e.key,e.val) (hp.mem_iff.1 (List.mem_map.2 ⟨e,he,rfl⟩))
 have hbs:=(Array.getElem?_eq_some_iff.1 hb).1
 rcases hK.find w hk es.toList hkeys with⟨h1,h2⟩|⟨j,e,h1,h2,h3⟩
 ·refine⟨setBlock w b (.map es clk),?_,⟨es,clk,by simp[setBlock,hbs],?_,?_,?_,hn.2⟩,touch_setBlock w b _⟩
  ·simp[Builtin.delete_,run_underlying hT,MapKept.run_getObj_map hb,hK.check w _ hk,h1,MapKept.run_setObj_map _ hb,Result.andThen,setBlock]
  ·rw[delP_miss]
   ·exact hp
   ·intro p hp' e
    obtain ⟨x,hx,hxp⟩:=List.mem_map.1 (hp.mem_iff.2 hp')
    exact h2 x hx (by rw[← e,← hxp])
  ·exact fun p hp'=>hl p (List.mem_filter.1 hp').1
  ·exact hn.1.sublist ((List.filter_sublist).map _)
 ·have hjl:j<es.toList.length:=(List.getElem?_eq_some_iff.1 h2).1
  have hjs:j<es.size:=by simpa using hjl
  have hsub:(es.eraseIdxIfInBounds j).toList=es.toList.eraseIdx j:=by
   unfold Array.eraseIdxIfInBounds
   rw[dif_pos hjs]
   simp
  have hnd:((pairs es).map (·.1)).Nodup:=(hp.map (·.1)).nodup_iff.2 hn.1
  have he:pairs (es.eraseIdxIfInBounds j)=delP k (pairs es):=by
   rw[← delP_at (j:=j) (p:=(e.key,e.val)) hnd (by simp[pairs,h2]) h3]
   unfold pairs
   rw[hsub]
   exact(eraseIdx_mapF _ _ _).symm
  refine⟨setBlock w b (.map (es.eraseIdxIfInBounds j) clk),?_,⟨es.eraseIdxIfInBounds j,clk,by simp[setBlock,hbs],?_,?_,?_,?_,?_⟩,touch_setBlock w b _⟩
  ·simp[Builtin.delete_,run_underlying hT,MapKept.run_getObj_map hb,hK.check w _ hk,h1,MapKept.run_setObj_map _ hb,Result.andThen,setBlock]
  ·rw[he];exact hp.filter _
  ·exact fun p hp'=>hl p (List.mem_filter.1 hp').1
  ·exact hn.1.sublist ((List.filter_sublist).map _)
  ·rw[hsub];exact hn.2.1.sublist ((List.eraseIdx_sublist _ _).map _)
  ·intro x hx
   rw[hsub] at hx
   exact hn.2.2 x ((List.eraseIdx_sublist _ _).subset hx)
end
section
variable {o:Oper} {n:Nat} {l:List (Nat × Value)} {L:List Asn} {C:Value→List Asn→Prop}
theorem ac_mapDel {x y:Operand} {ats:Array TypeId} {t X:TypeId} (ho:o.op=.call {callee:=.builtin .delete,args:=#[x,y],argTypes:=ats}) (hat:ats = #[t,X]) {b:Nat} (hx:evl l x=some (.map (some b))) {k:Int} (hy:evl l y=some (.int .i64 k)) {K E:TypeId} (ht:MT t K E) (hXK:X=K) {q:Lit} (hk:keyOf Tryz.prog K (.int .i64 k)=some q) {P:List (Value × Value)} {L2:List Asn} (hp:Rep L (mp b K P) (mp b K (delP k P)) L2) (h:C (.tuple #[]) L2):AC o l L n C:=fun G a w F M=>by
 subst hat
 obtain ⟨L',h1,h2⟩:=hp.both
 obtain ⟨w',e,hm,ht'⟩:=run_mapDelete ht.k ht.h hk (gives_mp (h1.app G) w M) X o.type hXK
 have:(execOp a.eval o).run Tryz.prog w=.ok (.value (.tuple #[])) w':=by
  unfold execOp
  rw[ho]
  simp[resolve,invoke,builtin,F.eval hx,F.eval hy,e]
 rw[this]
 refine⟨L2,h,M.rep (hp.app G) fun s hs=>?_⟩
 obtain ⟨rfl,_⟩:=hs.now
 exact⟨ht'.chg,[b],ok_mp hm,fun x hx=>.inl hx⟩
theorem rt_lenM {x:Operand} {ats:Array TypeId} {t:TypeId} (ho:o.op=.call {callee:=.builtin .len,args:=#[x],argTypes:=ats}) (hat:ats = #[t]) {b:Nat} (hx:evl l x=some (.map (some b))) {K E:TypeId} (ht:MT t K E) {P:List (Value × Value)} (hg:Gives L fun w=>MapIs Tryz.prog K w b P):RT o l L n (.int .i64 P.length):=fun a w F M=>by
 obtain ⟨es,clk,hb,hp,_⟩:=hg w M
 have hlen:P.length=es.size:=by rw[← hp.length_eq];simp[pairs]
 subst hat
 unfold execOp
 rw[ho]
 simp[resolve,invoke,builtin,Builtin.len_,F.eval hx,run_underlying ht.k w,goInt,MapKept.run_getObj_map hb,hlen]
end
end
section
open Go.RowKit Go.Maps
open Go.ChangeMaps (setBlock)
def pairL (l:List MapEntry):List (Value × Value):=l.map fun e=>(e.key,e.val)
def MapR (w:World) (b r:Nat) (K:TypeId) (P todo:List (Value × Value)) (cur:Option (Value × Value)):Prop :=
 ∃ es clk since seen c0,w.heap[b]? = some (.map es clk)∧w.heap[r]? = some (.mapIter (some b) since seen c0)∧(pairs es).Perm P∧(∀ p∈P,∃ l,keyOf Tryz.prog K p.1=some l)∧(P.map (·.1)).Nodup∧BornOK es clk∧(since≤c0∧since≤clk)∧(∀ e∈es.toList,e.born<since)∧(pairL (leftOf es seen).toList).Perm todo ∧
  ∀ p,cur=some p→∃ (e:MapEntry) (seen':Array Nat),e∈es.toList∧seen=seen'.push e.born∧c0=clk∧p=(e.key,e.val)
def mpR (b r:Nat) (K:TypeId) (P todo:List (Value × Value)) (cur:Option (Value × Value)):Asn:=fun s w=>s=[b,r]∧b≠r∧MapR w b r K P todo cur
theorem MapR.of_block {w w':World} {b r:Nat} {K:TypeId} {P todo:List (Value × Value)} {cur:Option (Value × Value)} (h:MapR w b r K P todo cur) (e1:w'.heap[b]? = w.heap[b]?) (e2:w'.heap[r]? = w.heap[r]?):MapR w' b r K P todo cur:=by
 obtain ⟨es,clk,since,seen,c0,h1,h2,h3⟩:=h
 exact⟨es,clk,since,seen,c0,e1.trans h1,e2.trans h2,h3⟩
theorem ok_mpR {w:World} {b r:Nat} {K:TypeId} {P todo:List (Value × Value)} {cur:Option (Value × Value)} (hne:b≠r) (h:MapR w b r K P todo cur):Ok (mpR b r K P todo cur) [b,r] w :=
 ⟨fun x hx=>by
  obtain ⟨es,clk,since,seen,c0,h1,h2,_⟩:=h
  simp only[List.mem_cons,List.not_mem_nil,or_false] at hx
  rcases hx with rfl|rfl
  ·exact(Array.getElem?_eq_some_iff.1 h1).1
  ·exact(Array.getElem?_eq_some_iff.1 h2).1,fun w' hw=>⟨rfl,hne,h.of_block (hw.2.2.2 b (by simp)) (hw.2.2.2 r (by simp))⟩⟩
theorem gives_mpR {L L':List Asn} {b r:Nat} {K:TypeId} {P todo:List (Value × Value)} {cur:Option (Value × Value)} (h:Pull L (mpR b r K P todo cur) L'):Gives L fun w=>b≠r∧MapR w b r K P todo cur:=fun w M=>by
 obtain ⟨s,hs,_⟩:=(M.pull h).head
 exact hs.2
theorem left_none (es:Array MapEntry):leftOf es #[]=es:=by
 unfold leftOf
 exact Array.filter_eq_self.2 fun x hx=>by simp
theorem left_perm {es:Array MapEntry} {seen:Array Nat} {e:MapEntry} (hn:(es.toList.map (·.born)).Nodup) (he:e∈(leftOf es seen).toList):(leftOf es seen).toList.Perm (e::(leftOf es (seen.push e.born)).toList):=by
 obtain ⟨he1,he2⟩:=mem_left he
 have key:∀ (l:List MapEntry),(l.map (·.born)).Nodup→e∈l→(l.filter fun x=>!seen.contains x.born).Perm (e::l.filter fun x=>!(seen.push e.born).contains x.born):=by
  intro l
  induction l with
  | nil=>intro _ h;cases h
  | cons x l ih =>
   intro hnd hm
   rw[List.map_cons,List.nodup_cons] at hnd
   by_cases hx:x=e
   ·subst hx
    have h1:l.filter (fun y=>!(seen.push x.born).contains y.born)=l.filter fun y=>!seen.contains y.born:=by
     apply List.filter_congr
     intro y hy
     rw[contains_push]
     have:(y.born == x.born)=false:=by
      cases hb:y.born == x.born with
      | false=>rfl
      | true=>exact absurd (List.mem_map.2 ⟨y,hy,beq_iff_eq.1 hb⟩) hnd.1
     rw[this,Bool.or_false]
    rw[List.filter_cons,if_pos (by rw[he2];rfl),List.filter_cons,if_neg (by rw[contains_push];simp),h1]
   ·have hm':e∈l:=by
     rcases List.mem_cons.1 hm with h|h
     ·exact absurd h.symm hx
     ·exact h
    have hb:(x.born == e.born)=false:=by
     cases hb:x.born == e.born with
     | false=>rfl
     | true=>exact absurd (List.mem_map.2 ⟨e,hm',(beq_iff_eq.1 hb).symm⟩) hnd.1
    rw[List.filter_cons,List.filter_cons,contains_push,hb,Bool.or_false]
    split
    ·exact(List.Perm.cons x (ih hnd.2 hm')).trans (List.Perm.swap e x _)
    ·exact ih hnd.2 hm'
 unfold leftOf
 rw[Array.toList_filter,Array.toList_filter]
 exact key es.toList hn he1
section
variable {o:Oper} {n:Nat} {l:List (Nat × Value)} {L:List Asn} {C:Value→List Asn→Prop}
theorem ac_range {t:TypeId} {x:Operand} (ho:o.op=.range t x) {b:Nat} (hx:evl l x=some (.map (some b))) {K E:TypeId} (ht:MT t K E) {P:List (Value × Value)} {L1:List Asn} (hp:Pull L (mp b K P) L1) (h:∀ r,C (.pointer (some ⟨r,0,none⟩)) (mpR b r K P P none::L1)):AC o l L n C:=fun G a w F M=>by
 have M:=M.pull (hp.app G)
 obtain ⟨s,hs,_⟩:=M.head
 obtain ⟨es,clk,hb,h1,h2,h3,h4⟩:=hs.2
 have hlt:=(Array.getElem?_eq_some_iff.1 hb).1
 have:(execOp a.eval o).run Tryz.prog w=.ok (.value (.pointer (some ⟨w.heap.size,0,none⟩))) (w.alloc (.mapIter (some b) clk #[] clk)):=by
  unfold execOp
  rw[ho]
  have:=run_range_map w t K E b es clk ht.k hb
  simp[F.eval hx,this]
 rw[this]
 refine⟨_,h _,?_⟩
 refine M.change fun s hs=>?_
 obtain ⟨rfl,_⟩:=hs.now
 refine⟨⟨rfl,rfl,rfl,by simp,fun k hk _=>heap_alloc_old w _ hk⟩,[b,w.heap.size],ok_mpR (by omega) ⟨es,clk,clk,#[],clk,by rw[heap_alloc_old w _ hlt,hb],heap_alloc_new w _,h1,h2,h3,h4,⟨Nat.le_refl _,Nat.le_refl _⟩,h4.2,by rw[left_none];exact h1,fun p h=>by cases h⟩,fun x hx=>?_⟩
 simp only[List.mem_cons,List.not_mem_nil,or_false] at hx ⊢
 omega
theorem ac_nextE {x:Operand} (ho:o.op=.next x false) {r:Nat} (hx:evl l x=some (.pointer (some ⟨r,0,none⟩))) {b:Nat} {K:TypeId} {P:List (Value × Value)} {cur:Option (Value × Value)} {L1:List Asn} (hp:Pull L (mpR b r K P [] cur) L1) (h:C (.tuple #[.bool false]) L):AC o l L n C:=fun G a w F M=>by
 obtain ⟨hne,es,clk,since,seen,c0,h1,h2,h3,h4,h5,h6,h7,h8,h9,h10⟩:=gives_mpR (hp.app G) w M
 rcases run_next_at (P:=Tryz.prog) w o.type r b since c0 seen es clk h2 h1 h8 h7.1 with⟨_,hr⟩|⟨e,he,_⟩
 ·have:(execOp a.eval o).run Tryz.prog w=.ok (.value (.tuple #[.bool false])) w:=by
   unfold execOp
   rw[ho]
   simp[F.eval hx,hr]
  rw[this]
  exact⟨L,h,M⟩
 ·exfalso
  have:(e.key,e.val)∈pairL (leftOf es seen).toList:=List.mem_map.2 ⟨e,he,rfl⟩
  rw[h9.mem_iff] at this
  cases this
theorem ac_nextC {x:Operand} (ho:o.op=.next x false) {r:Nat} (hx:evl l x=some (.pointer (some ⟨r,0,none⟩))) {b:Nat} {K:TypeId} {P:List (Value × Value)} {p0:Value × Value} {todo:List (Value × Value)} {cur:Option (Value × Value)} {L1:List Asn} (hp:Pull L (mpR b r K P (p0::todo) cur) L1) (h:∀ p todo',(p0::todo).Perm (p::todo')→C (.tuple #[.bool true,p.1,p.2]) (mpR b r K P todo' (some p)::L1)):AC o l L n C:=fun G a w F M=>by
 have M:=M.pull (hp.app G)
 obtain ⟨s,hs,_⟩:=M.head
 obtain ⟨_,hne,es,clk,since,seen,c0,h1,h2,h3,h4,h5,h6,h7,h8,h9,h10⟩:=hs
 rcases run_next_at (P:=Tryz.prog) w o.type r b since c0 seen es clk h2 h1 h8 h7.1 with⟨hz,_⟩|⟨e,he,w1,hw1,hr⟩
 ·exfalso
  have h11:=h9.length_eq
  simp[pairL,hz] at h11
 ·have:(execOp a.eval o).run Tryz.prog w=.ok (.value (.tuple #[.bool true,e.key,e.val])) (setBlock w1 r (.mapIter (some b) since (seen.push e.born) clk)):=by
   unfold execOp
   rw[ho]
   simp[F.eval hx,hr]
  rw[this]
  have hlp:=left_perm h6.1 he
  have hpm:(p0::todo).Perm ((e.key,e.val)::pairL (leftOf es (seen.push e.born)).toList):=h9.symm.trans (hlp.map _)
  refine⟨_,h (e.key,e.val) _ hpm,M.change fun s hs=>?_⟩
  obtain ⟨rfl,_⟩:=hs.now
  have hrs:=(Array.getElem?_eq_some_iff.1 h2).1
  have hbs:=(Array.getElem?_eq_some_iff.1 h1).1
  have hee:=(mem_left he).1
  obtain ⟨g1,g2,g3,g4⟩:w1.heap=w.heap∧w1.os=w.os∧w1.tape=w.tape∧w1.output=w.output:=by rcases hw1 with rfl|rfl<;>exact⟨rfl,rfl,rfl,rfl⟩
  refine⟨?_,[b,r],ok_mpR hne ⟨es,clk,since,seen.push e.born,clk,?_,?_,h3,h4,h5,h6,⟨h7.2,h7.2⟩,h8,List.Perm.refl _,fun p hpe=>?_⟩,fun x hx=>.inl hx⟩
  ·exact⟨g2,g3,g4,by simp[setBlock,g1],fun k hk hb=>by simp only[List.mem_cons,List.not_mem_nil,or_false,not_or] at hb;simp[setBlock,g1,Array.getElem?_setIfInBounds,Ne.symm hb.2]⟩
  ·simp[setBlock,g1,Array.getElem?_setIfInBounds,Ne.symm hne,h1]
  ·simp[setBlock,g1,hrs]
  ·cases hpe
   exact⟨e,seen,hee,rfl,rfl,rfl⟩
theorem rt_entry {x:Operand} (ho:o.op=.entry x) {r:Nat} (hx:evl l x=some (.pointer (some ⟨r,0,none⟩))) {b:Nat} {K:TypeId} {P todo:List (Value × Value)} {p:Value × Value} {L1:List Asn} (hp:Pull L (mpR b r K P todo (some p)) L1):RT o l L n (.tuple #[p.1,p.2]):=fun a w F M=>by
 obtain ⟨hne,es,clk,since,seen,c0,h1,h2,h3,h4,h5,h6,h7,h8,h9,h10⟩:=gives_mpR hp w M
 obtain ⟨e,seen',he,rfl,rfl,rfl⟩:=h10 p rfl
 have:=run_entry_at (P:=Tryz.prog) w r b since seen' es c0 e h2 h1 he h6.1
 unfold execOp
 rw[ho]
 simp[F.eval hx,this]
end
end
def zk127:List Nat:=[0,2,3,12]
def zk128:List Nat:=[0,2,3,6,8,10,18]
section
open Go.RowKit Go.Maps
def stL (s:List UInt8):List Value:=[str s]
instance:EL stL 1:=⟨fun _=>rfl,fun x u h=>by simp[stL] at h;subst h;rfl⟩
def stNs:List (List UInt8):=[[112,101,110,100,105,110,103],[97,99,116,105,118,101],[101,120,105,116,105,110,103],[117,110,98,111,110,100,105,110,103],[119,105,116,104,100,114,97,119,97,98,108,101],[112,97,105,100],[109,101,114,103,101,100]]
def stNm (k:Int):List UInt8:=if k<1∨7<k then [] else (stNs[(k - 1).toNat]?).getD []
theorem stNs_at {k:Int} (h1:1≤k) (h2:k≤7):stNs[(k - 1).toNat]? = some (stNm k)∧stNm k≠[]:=by
 obtain ⟨m,rfl⟩:∃ m:Nat,k=m+1:=⟨(k - 1).toNat,by omega⟩
 rcases m with _|_|_|_|_|_|_|m
 all_goals first|(refine⟨by decide,by decide⟩)|omega
theorem snames_spec (R:List Asn):Spec 248 [] R fun u L'=>∃ h,u=sl h∧L'=ownT 9 stL 1 (sl h) stNs::R:=by
 (intro G w M;refine sx_enter (vs:=([]:List Value)) Tryz.func248 (n:=2) rfl rfl rfl rfl ?_;intro a F;(try simp only[zc,zn] at M))
 (repeat'(first|(first|refine sx_nil ?_|fail);try replace F:=F.filt [0] rfl|refine zn1 F M ?_;clear F M a;(try clear w);intro a w F M|refine sv2 F M ?_;clear F M a;intro nb a w F M|refine zT F ?_|refine zY ?_;go_step|fail))
 all_goals refine zE F M ?_
 exact⟨_,_,rfl,⟨⟨_,_,_⟩,rfl,rfl⟩,M⟩
theorem sname_spec (k:Int) (R:List Asn):Spec 188 [.int .i64 k] R fun u L'=>u=str (stNm k)∧L'=R:=by
 have e7:stNs.length=7:=rfl
 (intro G w M;refine sx_enter (vs:=([.int .i64 k]:List Value)) Tryz.func188 (n:=18) rfl rfl rfl rfl ?_;intro a F;(try simp only[zc,zn] at M))
 by_cases hk:1≤k∧k≤7
 ·obtain ⟨hk1,hk2⟩:=hk
  have hnm:=(stNs_at hk1 hk2).1
  (repeat'(first|(first|refine sx_nil ?_|fail);try replace F:=F.filt zk127 rfl|refine zn1 F M ?_;clear F M a;(try clear w);intro a w F M|((first|refine svC F M ?_|fail);(((refine acW (k:=248) (snames_spec _) ?_);rintro u L' ⟨hs,rfl,rfl⟩));(first|clear F M a;intro a w F M|fail))|refine zh F ?_ ?_<;>(intro hg;rw[hg] at F;try exact no hg)|refine zT F ?_|((with_reducible refine isK ?_);refine svB F ?_ ?_<;>intro hc<;>try exact no hc)|refine zY ?_;go_step|fail))
  all_goals exact zX F M
 ·have hn:stNm k=[]:=by rw[stNm,if_pos (by omega)]
  by_cases h3:k<1
  ·(repeat'(first|(first|refine sx_nil ?_|fail);try replace F:=F.filt zk127 rfl|refine zn1 F M ?_;clear F M a;(try clear w);intro a w F M|((first|refine svC F M ?_|fail);(((refine acW (k:=248) (snames_spec _) ?_);rintro u L' ⟨hs,rfl,rfl⟩));(first|clear F M a;intro a w F M|fail))|refine zh F ?_ ?_<;>(intro hg;rw[hg] at F;try exact no hg)|refine zT F ?_|refine zY ?_;go_step|fail))
   (all_goals(refine zE F M ?_;exact⟨_,_,rfl,⟨by rw[hn];rfl,rfl⟩,M.perms permsA⟩))
  ·have h4:¬(k≤7):=by omega
   (repeat'(first|(first|refine sx_nil ?_|fail);try replace F:=F.filt zk127 rfl|refine zn1 F M ?_;clear F M a;(try clear w);intro a w F M|((first|refine svC F M ?_|fail);(((refine acW (k:=248) (snames_spec _) ?_);rintro u L' ⟨hs,rfl,rfl⟩));(first|clear F M a;intro a w F M|fail))|refine zh F ?_ ?_<;>(intro hg;rw[hg] at F;try exact no hg)|refine zT F ?_|((with_reducible refine isK ?_);refine svB F ?_ ?_<;>intro hc<;>try exact no hc)|refine zY ?_;go_step|fail))
   (all_goals(refine zE F M ?_;exact⟨_,_,rfl,⟨by rw[hn];rfl,rfl⟩,M.perms permsA⟩))
theorem Below.chg0 {w w':World} (h:Below w.heap.size w w'):Chg [] w w':=⟨h.os,h.tape,h.output,h.size,fun k hk _=>h.block k hk⟩
theorem stable_spec (R:List Asn):Spec 189 [] R fun u L'=>∃ b,u=.map (some b)∧L'=mp b 259 stepMap::R:=fun G w M=>by
 refine(table_any w).mono ?_
 rintro e w' ⟨rfl,hb,hM⟩
 exact⟨_,_,rfl,⟨_,rfl,rfl⟩,M.new (Below.chg0 hb) ⟨[w.heap.size],ok_mp hM,by simp⟩⟩
instance:MT 256 259 3:=⟨by kernel_rfl,stepKeyed⟩
def stepKs':List (Int × Int):=[(1,1),(2,2),(3,3),(4,4),(5,5),(2,6),(2,7),(3,7),(4,7),(5,7)]
theorem stepKey_of {p:Value × Value} (h:p∈stepMap):∃ a b,p.1=.agg #[.int .i64 a,.int .i64 b]∧(a,b)∈stepKs':=by
 simp only[stepMap,List.mem_cons,List.not_mem_nil,or_false] at h
 rcases h with rfl|rfl|rfl|rfl|rfl|rfl|rfl|rfl|rfl|rfl<;>exact⟨_,_,rfl,by simp[stepKs']⟩
theorem stepKey_all {s:Int} (h:∀ p∈stepMap,∀ a b,p.1=.agg #[.int .i64 a,.int .i64 b]→a≠s):s≠1∧s≠2∧s≠3∧s≠4∧s≠5 :=
 ⟨fun e=>h (stepV 1 1,.int .i64 2) (by simp[stepMap]) 1 1 rfl e.symm,fun e=>h (stepV 2 2,.int .i64 3) (by simp[stepMap]) 2 2 rfl e.symm,fun e=>h (stepV 3 3,.int .i64 4) (by simp[stepMap]) 3 3 rfl e.symm,fun e=>h (stepV 4 4,.int .i64 5) (by simp[stepMap]) 4 4 rfl e.symm,fun e=>h (stepV 5 5,.int .i64 6) (by simp[stepMap]) 5 5 rfl e.symm⟩
theorem final_spec (s:Int) (R:List Asn):Spec 123 [.int .i64 s] R fun u L'=>u=.bool (decide (s=6) || decide (s=7))∧L'=R:=by
 by_cases hk:1≤s∧s≤7
 ·obtain ⟨hk1,hk2⟩:=hk
  have hnm:=(stNs_at hk1 hk2).2
  have hnm2:¬stNm s=[]:=hnm
  (intro G w M;refine sx_enter (vs:=([.int .i64 s]:List Value)) Tryz.func123 (n:=19) rfl rfl rfl rfl ?_;intro a F;(try simp only[zc,zn] at M))
  (repeat'(first|(first|refine sx_nil ?_|fail);try replace F:=F.filt zk128 rfl|refine zn1 F M ?_;clear F M a;(try clear w);intro a w F M|((first|refine svC F M ?_|fail);((first|((refine acW (k:=188) (sname_spec s _) ?_);rintro u L' ⟨rfl,rfl⟩)|((refine acW (k:=189) (stable_spec _) ?_);rintro u L' ⟨nm,rfl,rfl⟩)|(refine ac_range rfl rfl inferInstance pullA ?_;intro nr)));(first|clear F M a;intro a w F M|fail))|refine zT F ?_|((with_reducible refine isK ?_);refine svB F ?_ ?_<;>intro hc<;>try exact no hc)|refine zY ?_;go_step|fail))
  refine svLoop F M ((stepMap,none):List (Value × Value) × Option (Value × Value)) (fun _=>[]) (fun x=>[mpR nm nr 259 stepMap x.1 x.2]) (fun x=>(∀ p∈x.1,p∈stepMap)∧∀ p∈stepMap,p∉x.1→∀ a b,p.1=.agg #[.int .i64 a,.int .i64 b]→a≠s) (fun x=>x.1.length) [] ⟨fun p hp=>hp,fun p h1 h2=>absurd h1 h2⟩ ?_
  (rintro⟨todo,cur⟩ ⟨q1,q2⟩ a w F M;(try simp only[zc,zn] at F M q1 q2 ⊢))
  cases todo with
  | nil =>
   (repeat'(first|(first|refine sx_nil ?_|fail);try replace F:=F.filt zk128 rfl|refine zn1 F M ?_;clear F M a;(try clear w);intro a w F M|((first|refine svC F M ?_|fail);((refine ac_nextE rfl rfl pullA ?_));(first|clear F M a;intro a w F M|fail))|refine zT F ?_|refine zY ?_;go_step|fail))
   refine zE F M ?_
   obtain ⟨n1,n2,n3,n4,n5⟩:=stepKey_all fun p hp=>q2 p hp (by simp)
   exact⟨_,_,rfl,⟨by simp[tupOf];omega,rfl⟩,M.perms permsA⟩
  | cons p0 todo =>
   (repeat'(first|((first|refine sv1 F M (h:=?_) (hr:=by((apply rt_entry;(exact rfl);(exact rfl);(exact pullA))))|fail);(try(clear F a;intro a F)))|(first|refine sx_nil ?_|fail);try replace F:=F.filt zk128 rfl|refine zn1 F M ?_;clear F M a;(try clear w);intro a w F M|refine sv2 F M ?_;clear F M a;intro nb a w F M|((first|refine svC F M ?_|fail);((refine ac_nextC rfl rfl pullA ?_;intro p todo' hpm;obtain ⟨ka,kb,hk,hm⟩:=stepKey_of (q1 _ (hpm.mem_iff.2 (List.mem_cons_self ..)));obtain ⟨pk,pv⟩:=p;simp only at hk;subst hk));(first|clear F M a;intro a w F M|fail))|refine zT F ?_|((with_reducible refine isK ?_);refine svB F ?_ ?_<;>intro hc<;>try exact no hc)|refine zY ?_;go_step|fail))
   ·obtain ⟨rfl,_⟩:=hc
    refine zE F M ?_
    refine⟨_,_,rfl,⟨?_,rfl⟩,M.perms permsA⟩
    have h5:s≠6∧s≠7:=by
     simp only[stepKs',List.mem_cons,Prod.mk.injEq,List.not_mem_nil,or_false] at hm
     omega
    simp[tupOf,h5.1,h5.2]
   ·have hne:ka≠s:=by rcases hc with h|h|h<;>simp_all<;>omega
    have hlen:=hpm.length_eq
    simp only[List.length_cons] at hlen
    refine sv_again F M (todo',_) kpA permsA ⟨fun p hp=>q1 p (hpm.mem_iff.2 (List.mem_cons_of_mem _ hp)),fun p hp hno x y hxy=>?_⟩ (by simp only[List.length_cons];omega)
    by_cases hpe:p∈p0::todo
    ·rcases List.mem_cons.1 (hpm.mem_iff.1 hpe) with rfl|h
     ·simp at hxy
      rw[← hxy.1];exact hne
     ·exact absurd h hno
    ·exact q2 p hp hpe x y hxy
 ·have hn:stNm s=[]:=by rw[stNm,if_pos (by omega)]
  (intro G w M;refine sx_enter (vs:=([.int .i64 s]:List Value)) Tryz.func123 (n:=19) rfl rfl rfl rfl ?_;intro a F;(try simp only[zc,zn] at M))
  (repeat'(first|(first|refine sx_nil ?_|fail);try replace F:=F.filt zk128 rfl|refine zn1 F M ?_;clear F M a;(try clear w);intro a w F M|((first|refine svC F M ?_|fail);((((refine acW (k:=188) (sname_spec s _) ?_);rintro u L' ⟨rfl,rfl⟩)));(first|clear F M a;intro a w F M|fail))|refine zT F ?_|((with_reducible refine isK ?_);refine svB F ?_ ?_<;>intro hc<;>try exact no hc)|refine zY ?_;go_step|fail))
  (all_goals(refine zE F M ?_;exact⟨_,_,rfl,⟨by simp[tupOf];omega,rfl⟩,M.perms permsA⟩))
end
section
open Go.RowKit
def pLeav (s:Int):Bool:=decide (3≤s) && decide (s≤6)
def pBond (v:Val):Bool:=decide (v.st=4) || decide (v.st=3) && decide (v.ex≠-1)
def pPend (v:Val):Bool:=decide (v.st=1)
def pExit (v:Val):Bool:=decide (v.st=3) && decide (v.ex = -1)
def pEpo (un:Int) (v:Val):Bool:=decide (v.ex = -1) || pLeav v.st && decide (v.rq<v.ex) && decide (un≤v.wd - v.ex)
def pEmp (v:Val):Bool:=decide (v.bal=0) || !(decide (v.st=6) || decide (v.st=7))
def pSla (v:Val):Bool:=!v.sl || pLeav v.st && decide (v.dl = -1)
theorem leaving_spec (s:Int) (R:List Asn):Spec 120 [.int .i64 s] R fun u L'=>u=.bool (pLeav s)∧L'=R:=by
 (intro G w M;refine sx_enter (vs:=([.int .i64 s]:List Value)) Tryz.func120 (n:=9) rfl rfl rfl rfl ?_;intro a F;(try simp only[zc,zn] at M))
 (repeat'(first|(first|refine sx_nil ?_|fail);try replace F:=F.filt [0,2] rfl|refine zn1 F M ?_;clear F M a;(try clear w);intro a w F M|refine zh F ?_ ?_<;>(intro hg;rw[hg] at F;try exact no hg)|refine zT F ?_|refine zY ?_;go_step|fail))
 all_goals refine zE F M ?_
 all_goals exact⟨_,_,rfl,⟨by simp_all [tupOf,pLeav]<;>intros<;>omega,rfl⟩,M.perms permsA⟩
theorem bonded_spec (x:Val) (R:List Asn):Spec 125 [valV x] R fun u L'=>u=.bool (pBond x)∧L'=R:=by
 (intro G w M;refine sx_enter (vs:=([valV x]:List Value)) Tryz.func125 (n:=16) rfl rfl rfl rfl ?_;intro a F;(try simp only[zc,zn] at M))
 (repeat'(first|(first|refine sx_nil ?_|fail);try replace F:=F.filt zk34 rfl|refine zn1 F M ?_;clear F M a;(try clear w);intro a w F M|refine sv2 F M ?_;clear F M a;intro nb a w F M|refine zh F ?_ ?_<;>(intro hg;rw[hg] at F;try exact no hg)|refine zT F ?_|refine zY ?_;go_step|fail))
 all_goals refine zE F M ?_
 all_goals exact⟨_,_,rfl,⟨by simp_all [tupOf,pBond],rfl⟩,M.perms permsA⟩
theorem each_spec (x:Val) (R:List Asn):Spec 107 [valV x] R fun u L'=>u=.bool true∧L'=R:=by
 (intro G w M;refine sx_enter (vs:=([valV x]:List Value)) Tryz.func107 (n:=3) rfl rfl rfl rfl ?_;intro a F;(try simp only[zc,zn] at M))
 (repeat'(first|(first|refine sx_nil ?_|fail);try replace F:=F.filt [0,2] rfl|refine zn1 F M ?_;clear F M a;(try clear w);intro a w F M|refine sv2 F M ?_;clear F M a;intro nb a w F M|refine zT F ?_|refine zY ?_;go_step|fail))
 all_goals exact zX F M
theorem cLive_spec (x:Val) (R:List Asn):Spec 110 [valV x] R fun u L'=>u=.bool x.live∧L'=R:=by
 (intro G w M;refine sx_enter (vs:=([valV x]:List Value)) Tryz.func110 (n:=6) rfl rfl rfl rfl ?_;intro a F;(try simp only[zc,zn] at M))
 (repeat'(first|(first|refine sx_nil ?_|fail);try replace F:=F.filt zk34 rfl|refine zn1 F M ?_;clear F M a;(try clear w);intro a w F M|refine sv2 F M ?_;clear F M a;intro nb a w F M|((first|refine svC F M ?_|fail);(((refine acW (k:=111) (live_spec _ _) ?_);rintro u L' ⟨rfl,rfl⟩));(first|clear F M a;intro a w F M|fail))|refine zT F ?_|refine zY ?_;go_step|fail))
 all_goals exact zX F M
theorem cPend_spec (x:Val) (R:List Asn):Spec 114 [valV x] R fun u L'=>u=.bool (pPend x)∧L'=R:=by
 (intro G w M;refine sx_enter (vs:=([valV x]:List Value)) Tryz.func114 (n:=6) rfl rfl rfl rfl ?_;intro a F;(try simp only[zc,zn] at M))
 (repeat'(first|(first|refine sx_nil ?_|fail);try replace F:=F.filt zk34 rfl|refine zn1 F M ?_;clear F M a;(try clear w);intro a w F M|refine sv2 F M ?_;clear F M a;intro nb a w F M|refine zT F ?_|refine zY ?_;go_step|fail))
 all_goals exact zX F M
theorem cExit_spec (x:Val) (R:List Asn):Spec 116 [valV x] R fun u L'=>u=.bool (pExit x)∧L'=R:=by
 (intro G w M;refine sx_enter (vs:=([valV x]:List Value)) Tryz.func116 (n:=11) rfl rfl rfl rfl ?_;intro a F;(try simp only[zc,zn] at M))
 (repeat'(first|(first|refine sx_nil ?_|fail);try replace F:=F.filt zk34 rfl|refine zn1 F M ?_;clear F M a;(try clear w);intro a w F M|refine sv2 F M ?_;clear F M a;intro nb a w F M|refine zh F ?_ ?_<;>(intro hg;rw[hg] at F;try exact no hg)|refine zT F ?_|refine zY ?_;go_step|fail))
 all_goals refine zE F M ?_
 all_goals exact⟨_,_,rfl,⟨by simp_all [tupOf,pExit],rfl⟩,M.perms permsA⟩
theorem cEmp_spec (x:Val) (R:List Asn):Spec 122 [valV x] R fun u L'=>u=.bool (pEmp x)∧L'=R:=by
 (intro G w M;refine sx_enter (vs:=([valV x]:List Value)) Tryz.func122 (n:=12) rfl rfl rfl rfl ?_;intro a F;(try simp only[zc,zn] at M))
 (repeat'(first|(first|refine sx_nil ?_|fail);try replace F:=F.filt zk34 rfl|refine zn1 F M ?_;clear F M a;(try clear w);intro a w F M|refine sv2 F M ?_;clear F M a;intro nb a w F M|((first|refine svC F M ?_|fail);(((refine acW (k:=123) (final_spec _ _) ?_);rintro u L' ⟨rfl,rfl⟩));(first|clear F M a;intro a w F M|fail))|refine zh F ?_ ?_<;>(intro hg;rw[hg] at F;try exact no hg)|refine zT F ?_|refine zY ?_;go_step|fail))
 all_goals refine zE F M ?_
 all_goals exact⟨_,_,rfl,⟨by simp_all [tupOf,pEmp],rfl⟩,M.perms permsA⟩
theorem cSla_spec (x:Val) (R:List Asn):Spec 129 [valV x] R fun u L'=>u=.bool (pSla x)∧L'=R:=by
 (intro G w M;refine sx_enter (vs:=([valV x]:List Value)) Tryz.func129 (n:=16) rfl rfl rfl rfl ?_;intro a F;(try simp only[zc,zn] at M))
 (repeat'(first|(first|refine sx_nil ?_|fail);try replace F:=F.filt zk34 rfl|refine zn1 F M ?_;clear F M a;(try clear w);intro a w F M|refine sv2 F M ?_;clear F M a;intro nb a w F M|((first|refine svC F M ?_|fail);(((refine acW (k:=120) (leaving_spec _ _) ?_);rintro u L' ⟨rfl,rfl⟩));(first|clear F M a;intro a w F M|fail))|refine zh F ?_ ?_<;>(intro hg;rw[hg] at F;try exact no hg)|refine zT F ?_|refine zY ?_;go_step|fail))
 all_goals refine zE F M ?_
 all_goals exact⟨_,_,rfl,⟨by simp_all [tupOf,pSla],rfl⟩,M.perms permsA⟩
def epR (x:Val):Prop:=(-1152921504606846976≤x.ex∧x.ex≤1152921504606846976)∧(-1152921504606846976≤x.wd∧x.wd≤1152921504606846976)
theorem cEpo_spec (x:Val) (c:Cfg) (b:Nat) (hx:epR x) (R:List Asn):Spec 119 [valV x,ptr b] (pt b (cfgL c) 30::R) fun u L'=>u=.bool (pEpo c.unbonding x)∧L'=pt b (cfgL c) 30::R:=by
 obtain ⟨⟨h1,h2⟩,h3,h4⟩:=hx
 (intro G w M;refine sx_enter (vs:=([valV x,ptr b]:List Value)) Tryz.func119 (n:=29) rfl rfl rfl rfl ?_;intro a F;(try simp only[zc,zn] at M))
 (repeat'(first|(first|refine sx_nil ?_|fail);try replace F:=F.filt zk66 rfl|refine zn1 F M ?_;clear F M a;(try clear w);intro a w F M|refine sv2 F M ?_;clear F M a;intro nb a w F M|((first|refine svC F M ?_|fail);(((refine acW (k:=120) (leaving_spec _ _) ?_);rintro u L' ⟨rfl,rfl⟩));(first|clear F M a;intro a w F M|fail))|refine zh F ?_ ?_<;>(intro hg;rw[hg] at F;try exact no hg)|refine zT F ?_|refine zY ?_;go_step|fail))
 all_goals refine zE F M ?_
 all_goals exact⟨_,_,rfl,⟨by simp_all [tupOf,pEpo]<;>intros<;>omega,rfl⟩,M.perms permsA⟩
end
end Go.Proofs.YtopbohbkhljjgaaGreat
