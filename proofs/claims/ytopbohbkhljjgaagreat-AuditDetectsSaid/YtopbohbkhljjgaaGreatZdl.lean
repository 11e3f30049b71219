import Derived.Test.YtopbohbkhljjgaaGreatZdk
set_option linter.unusedVariables false
set_option linter.unusedSimpArgs false
set_option maxRecDepth 100000
set_option maxHeartbeats 8000000
namespace Go.Proofs.YtopbohbkhljjgaaGreat
def zk90:List Nat:=[0,1,3,4,5,6,8,28,42,58]
def zd91:List ZR:=[⟨1,[],[],[],[0,1,2,3,4,5,6,7,8,9,10,11,12,13,14,15,16,17,18]⟩,⟨3,[5],[],[(5,[6,7,8,9,10])],[0,1,2,3,4,6,7,8,9,10,5,11,12]⟩,⟨7,[6],[],[],[0,1,2,3,4,5,6,7]⟩,⟨10,[8],[],[],[0,1,2,3,4,5,6,7,8,9,10,11,12,13]⟩]
section
open Go.RowKit
abbrev opV (o:Opn):Value:=.agg (opL o).toArray
def rsI (r:Rs):List Value:=if r.c=0 then [.int .i64 0,.int .i64 r.ix,.int .i64 r.dl] else [.int .i64 r.c,.int .i64 0,.int .i64 0]
abbrev rsV (r:Rs):Value:=.agg (rsI r).toArray
theorem efail_spec (e:Int) (R:List Asn):Spec 72 [.int .i64 e] R fun u L'=>u=.agg [.int .i64 e,.int .i64 0,.int .i64 0].toArray∧L'=R:=by
 (intro G w M;refine sx_enter (vs:=([.int .i64 e]:List Value)) Tryz.func72 (n:=5) rfl rfl rfl rfl ?_;intro a F;(try simp only[zc,zn] at M))
 (repeat'(first|(first|refine sx_nil ?_|fail);try replace F:=F.filt [0,2] rfl|refine zn1 F M ?_;clear F M a;(try clear w);intro a w F M|refine sv2 F M ?_;clear F M a;intro nb a w F M|refine zT F ?_|refine zY ?_;go_step|fail))
 all_goals exact zX F M
theorem edone_spec (i d:Int) (R:List Asn):Spec 145 [.int .i64 i,.int .i64 d] R fun u L'=>u=.agg [.int .i64 0,.int .i64 i,.int .i64 d].toArray∧L'=R:=by
 (intro G w M;refine sx_enter (vs:=([.int .i64 i,.int .i64 d]:List Value)) Tryz.func145 (n:=8) rfl rfl rfl rfl ?_;intro a F;(try simp only[zc,zn] at M))
 (repeat'(first|(first|refine sx_nil ?_|fail);try replace F:=F.filt zk43 rfl|refine zn1 F M ?_;clear F M a;(try clear w);intro a w F M|refine sv2 F M ?_;clear F M a;intro nb a w F M|refine zT F ?_|refine zY ?_;go_step|fail))
 all_goals exact zX F M
section
variable (b:Nat) (H:EH) (c:Cfg) (s:St) (hc:CfOk c) (hi:Inv c s) (R:List Asn)
include hc hi
theorem inv_sum:0≤(bals s.V).sum∧(bals s.V).sum≤1152921504606846976∧(s.V.length:Int)≤4096∧(qS c:Int)=c.queueSize∧1≤qS c∧qS c≤4096:=by
 have h1:=hi.sup;have h2:=hc.sc;have h3:=hi.cap;have h4:=hc.ca;have h5:=hc.qs
 exact⟨sum_nonneg _ hi.bal0,by omega,by omega,by unfold qS;omega,by unfold qS;omega,by unfold qS;omega⟩
theorem dep_spec (o:Opn) (ho:U64 o.am):Spec 66 [ptr b,opV o] (engL b H c s R) fun u L'=>u=rsV (opDep c s o.am)∧L'=engL b H c (opDep c s o.am).s R:=by
 obtain ⟨k1,k2,k3,k4,k5,k6⟩:=inv_sum c s hc hi
 have hl3:s.V.length≤4096:=by omega
 obtain ⟨t1,t2,t3⟩:=hi.tot
 have hsum:=hi.sum
 have o1:=ho.1;have o2:=ho.2
 have q1:=hi.ql.1
 have hcap:=hi.cap
 have hmd:=hc.md;have hsc:=hc.sc;have hca:=hc.ca
 have hsz:qS c≤4096:=k6
 have hld:=fun R=>led_dep H.ld s.dep s.pd s.bu c.supplyCap ⟨t1,t2,by omega,t3⟩ R o.am ho ⟨by have:=hi.sup;omega,by omega⟩
 obtain ⟨ok,oi,ot,x⟩:=o
 simp only at o1 o2 hld ⊢
 unfold opDep
 by_cases h1:x<c.minDeposit
 ·rw[if_pos (.inl h1)]
  have d1:decide (x<c.minDeposit)=true:=by simpa using h1
  ((intro G w M;refine sx_enter (vs:=([ptr b,opV ⟨ok,oi,ot,x⟩]:List Value)) Tryz.func66 (n:=82) rfl rfl rfl rfl ?_;intro a F;(try simp only[zc,zn] at M)))
  (repeat'(first|(first|refine sx_nil ?_|fail);try replace F:=F.filt zk90 rfl|refine sv2 F M ?_;clear F M a;intro nb a w F M|refine zp1 ?_|refine zT F ?_|((with_reducible refine isD ?_);((refine zD zd91 F M ?_;clear F M a w)))|refine zY ?_;go_step|fail))
  rw[d1]
  (repeat'(first|(first|refine sx_nil ?_|refine pv_nil ?_;intro a w F M);try replace F:=F.filt zk90 rfl|refine zn1 F M ?_;clear F M a;(try clear w);intro a w F M|refine zp1 ?_|((first|refine svC F M ?_|fail);((first|((refine acW (k:=72) (efail_spec _ _) ?_);rintro u L' ⟨rfl,rfl⟩)|fail));(first|clear F M a;intro a w F M|fail))|refine zT F ?_|refine zY ?_;go_step|fail))
  all_goals exact zX F M
 have d1:decide (x<c.minDeposit)=false:=by simpa using h1
 by_cases h2:c.maxDeposit<x
 ·rw[if_pos (.inr h2)]
  ((intro G w M;refine sx_enter (vs:=([ptr b,opV ⟨ok,oi,ot,x⟩]:List Value)) Tryz.func66 (n:=82) rfl rfl rfl rfl ?_;intro a F;(try simp only[zc,zn] at M)))
  (repeat'(first|(first|refine sx_nil ?_|fail);try replace F:=F.filt zk90 rfl|refine sv2 F M ?_;clear F M a;intro nb a w F M|refine zp1 ?_|refine zT F ?_|((with_reducible refine isD ?_);((refine zD zd91 F M ?_;clear F M a w)))|refine zY ?_;go_step|fail))
  rw[d1]
  (repeat'(first|(first|refine sx_nil ?_|refine pv_nil ?_;intro a w F M);try replace F:=F.filt zk90 rfl|refine zn1 F M ?_;clear F M a;(try clear w);intro a w F M|refine zp1 ?_|((first|refine svC F M ?_|fail);((first|((refine acW (k:=72) (efail_spec _ _) ?_);rintro u L' ⟨rfl,rfl⟩)|fail));(first|clear F M a;intro a w F M|fail))|refine zT F ?_|((with_reducible refine isK ?_);refine svB F ?_ ?_<;>intro hc<;>try exact no hc)|refine zY ?_;go_step|fail))
  all_goals exact zX F M
 rw[if_neg (by omega)]
 by_cases h3:c.capacity≤s.V.length
 ·rw[if_pos h3]
  ((intro G w M;refine sx_enter (vs:=([ptr b,opV ⟨ok,oi,ot,x⟩]:List Value)) Tryz.func66 (n:=82) rfl rfl rfl rfl ?_;intro a F;(try simp only[zc,zn] at M)))
  (repeat'(first|(first|refine sx_nil ?_|fail);try replace F:=F.filt zk90 rfl|refine sv2 F M ?_;clear F M a;intro nb a w F M|refine zp1 ?_|refine zT F ?_|((with_reducible refine isD ?_);((refine zD zd91 F M ?_;clear F M a w)))|refine zY ?_;go_step|fail))
  rw[d1]
  (repeat'(first|(first|refine sx_nil ?_|refine pv_nil ?_;intro a w F M);try replace F:=F.filt zk90 rfl|refine zn1 F M ?_;clear F M a;(try clear w);intro a w F M|refine zp1 ?_|((first|refine svC F M ?_|refine pvC ?_|fail);((first|((refine acK (k:=140) (reg_len H.rg c.capacity s.V _) ?_);rintro u L' ⟨rfl,rfl⟩)|((refine acW (k:=72) (efail_spec _ _) ?_);rintro u L' ⟨rfl,rfl⟩)|fail));(first|refine⟨rvsA,?_⟩|clear F M a;intro a w F M|fail))|refine zT F ?_|((with_reducible refine isK ?_);refine svB F ?_ ?_<;>intro hc<;>try exact no hc)|((with_reducible refine isD ?_);((refine zD zd91 F M ?_;clear F M a w)))|refine zY ?_;go_step|fail))
  all_goals exact zX F M
 rw[if_neg h3]
 by_cases h4:c.queueSize≤s.pe.length
 ·rw[if_pos h4]
  have h4':(qS c:Int) - s.pe.length=0:=by omega
  ((intro G w M;refine sx_enter (vs:=([ptr b,opV ⟨ok,oi,ot,x⟩]:List Value)) Tryz.func66 (n:=82) rfl rfl rfl rfl ?_;intro a F;(try simp only[zc,zn] at M)))
  (repeat'(first|(first|refine sx_nil ?_|fail);try replace F:=F.filt zk90 rfl|refine sv2 F M ?_;clear F M a;intro nb a w F M|refine zp1 ?_|refine zT F ?_|((with_reducible refine isD ?_);((refine zD zd91 F M ?_;clear F M a w)))|refine zY ?_;go_step|fail))
  rw[d1]
  (repeat'(first|(first|refine sx_nil ?_|refine pv_nil ?_;intro a w F M);try replace F:=F.filt zk90 rfl|refine zn1 F M ?_;clear F M a;(try clear w);intro a w F M|refine zp1 ?_|((first|refine svC F M ?_|refine pvC ?_|fail);((first|((refine acK (k:=140) (reg_len H.rg c.capacity s.V _) ?_);rintro u L' ⟨rfl,rfl⟩)|((refine acK (k:=141) (rgn_free H.pe (qS c) s.pe _) ?_);rintro u L' ⟨rfl,rfl⟩)|((refine acW (k:=72) (efail_spec _ _) ?_);rintro u L' ⟨rfl,rfl⟩)|fail));(first|refine⟨rvsA,?_⟩|clear F M a;intro a w F M|fail))|refine zT F ?_|((with_reducible refine isK ?_);refine svB F ?_ ?_<;>intro hc<;>try exact no hc)|((with_reducible refine isD ?_);((refine zD zd91 F M ?_;clear F M a w)))|refine zY ?_;go_step|fail))
  all_goals exact zX F M
 rw[if_neg h4]
 have h4':¬(qS c:Int) - s.pe.length=0:=by omega
 by_cases h5:c.supplyCap<x+(s.dep - s.pd - s.bu)
 ·rw[if_pos h5]
  simp only[h5,if_true] at hld
  ((intro G w M;refine sx_enter (vs:=([ptr b,opV ⟨ok,oi,ot,x⟩]:List Value)) Tryz.func66 (n:=82) rfl rfl rfl rfl ?_;intro a F;(try simp only[zc,zn] at M)))
  (repeat'(first|(first|refine sx_nil ?_|fail);try replace F:=F.filt zk90 rfl|refine sv2 F M ?_;clear F M a;intro nb a w F M|refine zp1 ?_|refine zT F ?_|((with_reducible refine isD ?_);((refine zD zd91 F M ?_;clear F M a w)))|refine zY ?_;go_step|fail))
  rw[d1]
  (repeat'(first|(first|refine sx_nil ?_|refine pv_nil ?_;intro a w F M);try replace F:=F.filt zk90 rfl|refine zn1 F M ?_;clear F M a;(try clear w);intro a w F M|refine zp1 ?_|((first|refine svC F M ?_|refine pvC ?_|fail);((first|((refine acK (k:=140) (reg_len H.rg c.capacity s.V _) ?_);rintro u L' ⟨rfl,rfl⟩)|((refine acK (k:=141) (rgn_free H.pe (qS c) s.pe _) ?_);rintro u L' ⟨rfl,rfl⟩)|((refine acW (k:=72) (efail_spec _ _) ?_);rintro u L' ⟨rfl,rfl⟩)|((refine acK (k:=142) (hld _) ?_);rintro u L' ⟨rfl,rfl⟩)));(first|refine⟨rvsA,?_⟩|clear F M a;intro a w F M|fail))|refine zT F ?_|((with_reducible refine isK ?_);refine svB F ?_ ?_<;>intro hc<;>try exact no hc)|((with_reducible refine isD ?_);((refine zD zd91 F M ?_;clear F M a w)))|refine zY ?_;go_step|fail))
  all_goals exact zX F M
 rw[if_neg h5]
 simp only[h5,if_false] at hld
 by_cases h6:18446744073709551615<s.dep+x
 ·rw[if_pos h6]
  simp only[h6,if_true] at hld
  ((intro G w M;refine sx_enter (vs:=([ptr b,opV ⟨ok,oi,ot,x⟩]:List Value)) Tryz.func66 (n:=82) rfl rfl rfl rfl ?_;intro a F;(try simp only[zc,zn] at M)))
  (repeat'(first|(first|refine sx_nil ?_|fail);try replace F:=F.filt zk90 rfl|refine sv2 F M ?_;clear F M a;intro nb a w F M|refine zp1 ?_|refine zT F ?_|((with_reducible refine isD ?_);((refine zD zd91 F M ?_;clear F M a w)))|refine zY ?_;go_step|fail))
  rw[d1]
  (repeat'(first|(first|refine sx_nil ?_|refine pv_nil ?_;intro a w F M);try replace F:=F.filt zk90 rfl|refine zn1 F M ?_;clear F M a;(try clear w);intro a w F M|refine zp1 ?_|((first|refine svC F M ?_|refine pvC ?_|fail);((first|((refine acK (k:=140) (reg_len H.rg c.capacity s.V _) ?_);rintro u L' ⟨rfl,rfl⟩)|((refine acK (k:=141) (rgn_free H.pe (qS c) s.pe _) ?_);rintro u L' ⟨rfl,rfl⟩)|((refine acW (k:=72) (efail_spec _ _) ?_);rintro u L' ⟨rfl,rfl⟩)|((refine acK (k:=142) (hld _) ?_);rintro u L' ⟨rfl,rfl⟩)));(first|refine⟨rvsA,?_⟩|clear F M a;intro a w F M|fail))|refine zT F ?_|((with_reducible refine isK ?_);refine svB F ?_ ?_<;>intro hc<;>try exact no hc)|((with_reducible refine isD ?_);((refine zD zd91 F M ?_;clear F M a w)))|refine zY ?_;go_step|fail))
  all_goals exact zX F M
 rw[if_neg h6]
 simp only[h6,if_false] at hld
 have hqq:s.pe.length<qS c:=by omega
 have had:=fun R=>reg_add H.rg c.capacity s.V R (newV x) (by omega) (by omega) ⟨by simp[newV],by simp[newV]⟩ (by simp only[newV];omega) ⟨k1,by simp only[newV];omega⟩
 ((intro G w M;refine sx_enter (vs:=([ptr b,opV ⟨ok,oi,ot,x⟩]:List Value)) Tryz.func66 (n:=82) rfl rfl rfl rfl ?_;intro a F;(try simp only[zc,zn] at M)))
 (repeat'(first|(first|refine sx_nil ?_|fail);try replace F:=F.filt zk90 rfl|refine sv2 F M ?_;clear F M a;intro nb a w F M|refine zp1 ?_|refine zT F ?_|((with_reducible refine isD ?_);((refine zD zd91 F M ?_;clear F M a w)))|refine zY ?_;go_step|fail))
 rw[d1]
 (repeat'(first|(first|refine sx_nil ?_|refine pv_nil ?_;intro a w F M);try replace F:=F.filt zk90 rfl|refine zn1 F M ?_;clear F M a;(try clear w);intro a w F M|refine sv2 F M ?_;clear F M a;intro nb a w F M|refine zp1 ?_|((first|refine svC F M ?_|refine pvC ?_|fail);((first|((refine acK (k:=140) (reg_len H.rg c.capacity s.V _) ?_);rintro u L' ⟨rfl,rfl⟩)|((refine acK (k:=141) (rgn_free H.pe (qS c) s.pe _) ?_);rintro u L' ⟨rfl,rfl⟩)|((refine acW (k:=145) (edone_spec _ _ _) ?_);rintro u L' ⟨rfl,rfl⟩)|((refine acK (k:=142) (hld _) ?_);rintro u L' ⟨rfl,rfl⟩)|((refine acK (k:=143) (had _) ?_);rintro u L' ⟨rfl,rfl⟩)|(refine acCall (k:=144) ?_;refine Spec.pre (L':=rgnA H.pe (qS c) s.pe::_) ?_ permsA;refine Spec.mono (rgn_push H.pe (qS c) s.pe s.V.length ⟨some ⟨nb,0,none⟩,1,1⟩ _ (by(apply gs_own;(focus ((repeat (first|exact Pull.here|fail));done)))) ⟨rfl,Nat.le_refl 1⟩ hqq hsz) ?_;rintro u L' ⟨rfl,rfl⟩)));(first|refine⟨rvsA,?_⟩|clear F M a;intro a w F M|fail))|refine zT F ?_|((with_reducible refine isK ?_);refine svB F ?_ ?_<;>intro hc<;>try exact no hc)|((with_reducible refine isD ?_);((refine zD zd91 F M ?_;clear F M a w)))|refine zY ?_;go_step|fail))
 all_goals exact zX F M
end
end
def zk92:List Nat:=[0,1,2,6,7,8,9,10,11,12,13,14,26,39,48,86]
def zd93:List ZR:=[⟨4,[5,6,11],[10],[(5,[0]),(11,[9])],[0,1,2,3,4,5,6,7,8,9,10,11,12]⟩,⟨9,[4,10,11],[],[(4,[5,6,7,8,9])],[0,1,2,3,5,6,7,8,9,4,10,11,12,13,14,15,16]⟩,⟨10,[4,12],[],[(4,[5,6,7,8,9,10,11])],[0,1,2,3,5,6,7,8,9,10,11,4,12,13,14,15,16,17]⟩,⟨14,[6],[],[],[0,1,2,3,4,5,6]⟩]
section
open Go.RowKit
section
variable (b:Nat) (H:EH) (c:Cfg) (s:St) (hc:CfOk c) (hi:Inv c s) (R:List Asn)
include hc hi
theorem wt_spec (W:List Int) (hW:∀ x∈W,U64 x) (l:List Nat) (hn:(l.map (wAt W)).sum≤18446744073709551615):addR (l.map (wAt W))=((l.map (wAt W)).sum,true):=by
 have _u1:=hc
 have _u2:=hi
 rw[addR_sum _ fun z hz=>?_,if_neg (by omega)]
 obtain ⟨i,_,rfl⟩:=List.mem_map.1 hz
 unfold wAt
 rw[List.getD_eq_getElem?_getD]
 cases hx:W[i]? with
 | none=>exact Int.le_refl _
 | some x=>exact(hW x (List.mem_of_getElem? hx)).1
theorem vwf {i:Nat} {v:Val} (hv:s.V[i]? = some v):v.wf∧0≤v.bal∧v.bal≤(bals s.V).sum∧VOk c (epo c s) v:=by
 have h:=hi.val i v hv
 obtain ⟨k1,k2,_⟩:=inv_sum c s hc hi
 have h2:=sum_mem_le _ hi.bal0 _ (List.mem_of_getElem? (bals_get hv))
 have h3:=h.b
 have he:=epo_range hc (s:=s) (by have:=hi.bk;omega)
 have hst:=h.st;have hrq:=h.rq;have hwd:=h.wd;have hdl:=h.dl
 refine⟨⟨⟨h3,by omega⟩,WalkArith.wf_i64 (by omega),WalkArith.wf_i64 (by omega),WalkArith.wf_i64 ?_,WalkArith.wf_i64 (by omega),WalkArith.wf_i64 (by omega)⟩,h3,h2,h⟩
 rcases h.ex with h|h<;>omega
theorem leave_spec (cl:Nat) (hcl:cl≤1) (ix:Int):Spec 146 [ptr b,.int .i64 cl,.int .i64 ix] (engL b H c s R) fun u L'=>u=rsV (opLeave c s cl ix)∧L'=engL b H c (opLeave c s cl ix).s R:=by
 obtain ⟨k1,k2,k3,k4,k5,k6⟩:=inv_sum c s hc hi
 have hl3:s.V.length≤4096:=by omega
 have hsz:qS c≤4096:=k6
 obtain ⟨l1,l2,l3,l4,l5⟩:=hi.ql
 have hbk:=hi.bk
 have hep:=epo_range hc (s:=s) (by omega)
 have hepo:epo c s=(s.bk:Int) / c.epochLen:=rfl
 have hck:=fun R=>clk_epoch H.ck s.bk c.epochLen hc.el (by omega) R
 rw[← hepo] at hck
 by_cases hix:ix<0∨(s.V.length:Int)≤ix
 ·have e:opLeave c s cl ix=no' s 7:=by
   unfold opLeave
   by_cases h0:ix<0
   ·rw[if_pos h0]
   ·rw[if_neg h0,List.getElem?_eq_none (by omega)]
  rw[e]
  have hg:=fun R=>reg_getN H.rg c.capacity s.V R ix hix
  ((intro G w M;refine sx_enter (vs:=([ptr b,.int .i64 cl,.int .i64 ix]:List Value)) Tryz.func146 (n:=107) rfl rfl rfl rfl ?_;intro a F;(try simp only[zc,zn] at M)))
  (repeat'(first|(first|refine sx_nil ?_|fail);try replace F:=F.filt zk92 rfl|refine zn1 F M ?_;clear F M a;(try clear w);intro a w F M|refine sv2 F M ?_;clear F M a;intro nb a w F M|((first|refine svC F M ?_|fail);((first|((refine acW (k:=72) (efail_spec _ _) ?_);rintro u L' ⟨rfl,rfl⟩)|((refine acK (k:=76) (hg _) ?_);rintro u L' ⟨rfl,rfl⟩)));(first|clear F M a;intro a w F M|fail))|refine zT F ?_|refine zY ?_;go_step|fail))
  all_goals exact zX F M
 obtain ⟨i,rfl⟩:∃ i:Nat,ix=i:=⟨ix.toNat,by omega⟩
 obtain ⟨v,hv⟩:∃ v,s.V[i]? = some v:=⟨s.V[i]'(by omega),by rw[List.getElem?_eq_getElem]⟩
 obtain ⟨hwf,hb0,hble,hvo⟩:=vwf c s hc hi hv
 have hg:=fun R=>reg_get H.rg c.capacity s.V R i v hv hl3
 have hwfe:(Lit.int .i64 (epo c s)).wf=true:=WalkArith.wf_i64 (by omega)
 have hac:=fun R=>pnAcc_spec R v hwf (epo c s) hwfe
 have hX:opLeave c s cl i=if (accR v (epo c s)).1≠0 then no' s (accR v (epo c s)).1 else if c.queueSize≤(if cl=0 then s.fo else s.vo).length then no' s 6 else match payD c (epo c s) (aheadW s cl) v.bal with
   | none=>no' s 10
   | some t=>⟨0,i,t,if cl=0 then {s with V:=s.V.set i {(accR v (epo c s)).2.1 with dl:=t},fo:=s.fo++[i]} else {s with V:=s.V.set i {(accR v (epo c s)).2.1 with dl:=t},vo:=s.vo++[i]}⟩:=by
  unfold opLeave
  rw[if_neg (by omega)]
  rcases (by omega:cl=0∨cl=1) with rfl|rfl
  ·simp only[Int.toNat_natCast,hv];rfl
  ·simp only[Int.toNat_natCast,hv];rfl
 have hacc:=accR_eq v hep.1 (by omega)
 rw[hX]
 clear hX
 by_cases hs:v.st=2
 ·rw[if_pos hs] at hacc
  rw[hacc] at hac ⊢
  simp only[ne_eq,not_true_eq_false,if_false] at hac ⊢
  have hfr:∀ R,Spec 148 [ptr H.ln,.int .i64 cl] (lnP H.ln H.r0 H.r1 (qS c) s.fo s.vo R) fun u L'=>u=.int .i64 ((qS c:Int) - (if cl=0 then s.fo else s.vo).length)∧L'=lnP H.ln H.r0 H.r1 (qS c) s.fo s.vo R:=fun R=>by
   rcases (by omega:cl=0∨cl=1) with rfl|rfl
   ·exact lfree0 H.ln H.r0 H.r1 (qS c) s.fo s.vo R
   ·exact lfree1 H.ln H.r0 H.r1 (qS c) s.fo s.vo R
  have hQl:((if cl=0 then s.fo else s.vo).length:Int)≤c.queueSize:=by split<;>omega
  by_cases hq:c.queueSize≤(if cl=0 then s.fo else s.vo).length
  ·rw[if_pos hq]
   generalize (if cl=0 then s.fo else s.vo).length=Q at *
   have hq':(qS c:Int) - (Q:Int)=0:=by omega
   ((intro G w M;refine sx_enter (vs:=([ptr b,.int .i64 cl,.int .i64 i]:List Value)) Tryz.func146 (n:=107) rfl rfl rfl rfl ?_;intro a F;(try simp only[zc,zn] at M)))
   (repeat'(first|(first|refine sx_nil ?_|refine pv_nil ?_;intro a w F M);try replace F:=F.filt zk92 rfl|refine zn1 F M ?_;clear F M a;(try clear w);intro a w F M|refine sv2 F M ?_;clear F M a;intro nb a w F M|refine zp1 ?_|refine zp2 ?_;intro nb|((first|refine svC F M ?_|refine pvC ?_|fail);((first|((refine acK (k:=74) (hck _) ?_);rintro u L' ⟨rfl,rfl⟩)|((refine acW (k:=72) (efail_spec _ _) ?_);rintro u L' ⟨rfl,rfl⟩)|((refine acK (k:=76) (hg _) ?_);rintro u L' ⟨rfl,rfl⟩)|((refine acW (k:=210) (hac _) ?_);rintro u L' ⟨rfl,rfl⟩)|((refine acK (k:=148) (hfr _) ?_);rintro u L' ⟨rfl,rfl⟩)));(first|refine⟨rvsA,?_⟩|clear F M a;intro a w F M|fail))|refine zT F ?_|((with_reducible refine isK ?_);refine svB F ?_ ?_<;>intro hc<;>try exact no hc)|((with_reducible refine isD ?_);((refine zD zd93 F M ?_;clear F M a w)))|refine zY ?_;go_step|fail))
   all_goals exact zX F M
  ·rw[if_neg hq]
   have hahead:aheadW s cl=((if cl=0 then s.fo else s.fo++s.vo).map (wAt (bals s.V))).sum:=by
    unfold aheadW
    simp only[Int.natCast_eq_zero]
   have hnd:(if cl=0 then s.fo else s.fo++s.vo).Nodup:=by
    split
    ·exact(List.nodup_append.1 hi.ex.nd).1
    ·exact hi.ex.nd
   have hah:=sum_sub _ (bals s.V) hnd hi.bal0
   rw[← hahead] at hah
   have hW:∀ x∈bals s.V,U64 x:=fun x hx=>⟨hi.bal0 x hx,by have:=sum_mem_le _ hi.bal0 x hx;omega⟩
   have hah0:0≤aheadW s cl:=by
    rw[hahead]
    refine sum_nonneg _ fun z hz=>?_
    obtain ⟨j,_,rfl⟩:=List.mem_map.1 hz
    unfold wAt
    rw[List.getD_eq_getElem?_getD]
    cases hx:(bals s.V)[j]? with
    | none=>exact Int.le_refl _
    | some x=>exact hi.bal0 x (List.mem_of_getElem? hx)
   have hll:(if cl=0 then s.fo else s.fo++s.vo).length≤100000:=by
    split
    ·omega
    ·rw[List.length_append];omega
   have haR:=wt_spec c s hc hi (bals s.V) hW (if cl=0 then s.fo else s.fo++s.vo) (by rw[← hahead];omega)
   have hws:=fun (R:List Asn) (v vi:Value) hg hgi=>weights_spec (bals s.V) v R hg hW (if cl=0 then s.fo else s.fo++s.vo) vi hgi hll
   rw[haR,← hahead] at hws
   have hla:=fun R=>lahead H.ln H.r0 H.r1 (qS c) s.fo s.vo R cl hcl (by omega) (by omega)
   have hdp:=fun R=>dpay_spec R c hc (epo c s) (aheadW s cl) v.bal ⟨hep.1,by omega⟩ ⟨hah0,by omega⟩ ⟨hb0,by omega⟩
   have hprg:∀ t,payD c (epo c s) (aheadW s cl) v.bal=some t→0≤t∧t≤1099511627776:=fun t ht=>payD_range hc ht hep.1 hah0 hb0
   have htb:=fun R=>tbals_spec H.rg c.capacity s.V R hl3
   generalize aheadW s cl=A at *
   generalize hPD:payD c (epo c s) A v.bal=PD at *
   have hq':¬(qS c:Int) - ((if cl=0 then s.fo else s.vo).length:Int)=0:=by omega
   have hqq:(if cl=0 then s.fo else s.vo).length<qS c:=by omega
   generalize (if cl=0 then s.fo else s.fo++s.vo)=AH at *
   cases PD with
   | none =>
    simp only at hdp ⊢
    obtain ⟨bal,st,slz,rq,ex,wd,dl⟩:=v
    simp only at hdp hac hb0 hble
    ((intro G w M;refine sx_enter (vs:=([ptr b,.int .i64 cl,.int .i64 i]:List Value)) Tryz.func146 (n:=107) rfl rfl rfl rfl ?_;intro a F;(try simp only[zc,zn] at M)))
    (repeat'(first|(first|refine sx_nil ?_|refine pv_nil ?_;intro a w F M);try replace F:=F.filt zk92 rfl|refine zn1 F M ?_;clear F M a;(try clear w);intro a w F M|refine sv2 F M ?_;clear F M a;intro nb a w F M|refine zp1 ?_|refine zp2 ?_;intro nb|((first|refine svC F M ?_|refine pvC ?_|fail);((first|((refine acK (k:=74) (hck _) ?_);rintro u L' ⟨rfl,rfl⟩)|((refine acW (k:=72) (efail_spec _ _) ?_);rintro u L' ⟨rfl,rfl⟩)|((refine acK (k:=76) (hg _) ?_);rintro u L' ⟨rfl,rfl⟩)|((refine acW (k:=210) (hac _) ?_);rintro u L' ⟨rfl,rfl⟩)|((refine acK (k:=148) (hfr _) ?_);rintro u L' ⟨rfl,rfl⟩)|((refine acK (k:=198) (htb _) ?_);rintro u L' ⟨hw,rfl,rfl⟩)|((refine acK (k:=212) (hla _) ?_);rintro u L' ⟨hd,rfl,rfl⟩)|(refine acW (k:=211) (hws _ _ _ ?_ ?_) ?_;(exact gs_own pullA);(exact gs_own pullA);rintro u L' ⟨rfl,rfl⟩)|((refine acW (k:=213) (hdp _) ?_);rintro u L' ⟨rfl,rfl⟩)));(first|refine⟨rvsA,?_⟩|clear F M a;intro a w F M|fail))|refine zT F ?_|((with_reducible refine isK ?_);refine svB F ?_ ?_<;>intro hc<;>try exact no hc)|((with_reducible refine isD ?_);((refine zD zd93 F M ?_;clear F M a w)))|refine zY ?_;go_step|fail))
    all_goals exact zX F M
   | some t =>
    have ht:=hprg t rfl
    simp only at hdp ⊢
    have hch:=fun R=>tchange_spec H.rg c.capacity s.V R i v {v with rq:=epo c s,st:=3,dl:=t} hv hl3 ⟨⟨by simp,by simp⟩,⟨by omega,by omega⟩⟩ hb0 hb0 ⟨hble,by omega,by simp only;omega⟩
    have hpu:∀ R,Spec 151 [ptr H.ln,.int .i64 cl,.int .i64 i] (lnP H.ln H.r0 H.r1 (qS c) s.fo s.vo R) fun u L'=>u=.int .i64 0∧L'=lnP H.ln H.r0 H.r1 (qS c) (if cl=0 then s.fo++[i] else s.fo) (if cl=0 then s.vo else s.vo++[i]) R:=fun R=>by
     rcases (by omega:cl=0∨cl=1) with rfl|rfl
     ·exact lpush0 H.ln H.r0 H.r1 (qS c) s.fo s.vo R i hqq hsz
     ·exact lpush1 H.ln H.r0 H.r1 (qS c) s.fo s.vo R i hqq hsz
    obtain ⟨bal,st,slz,rq,ex,wd,dl⟩:=v
    simp only at hdp hac hb0 hble hch
    ((intro G w M;refine sx_enter (vs:=([ptr b,.int .i64 cl,.int .i64 i]:List Value)) Tryz.func146 (n:=107) rfl rfl rfl rfl ?_;intro a F;(try simp only[zc,zn] at M)))
    (repeat'(first|(first|refine sx_nil ?_|refine pv_nil ?_;intro a w F M);try replace F:=F.filt zk92 rfl|refine zn1 F M ?_;clear F M a;(try clear w);intro a w F M|refine sv2 F M ?_;clear F M a;intro nb a w F M|refine zp1 ?_|refine zp2 ?_;intro nb|((first|refine svC F M ?_|refine pvC ?_|fail);((first|((refine acK (k:=74) (hck _) ?_);rintro u L' ⟨rfl,rfl⟩)|((refine acW (k:=145) (edone_spec _ _ _) ?_);rintro u L' ⟨rfl,rfl⟩)|((refine acK (k:=76) (hg _) ?_);rintro u L' ⟨rfl,rfl⟩)|((refine acW (k:=210) (hac _) ?_);rintro u L' ⟨rfl,rfl⟩)|((refine acK (k:=148) (hfr _) ?_);rintro u L' ⟨rfl,rfl⟩)|((refine acK (k:=198) (htb _) ?_);rintro u L' ⟨hw,rfl,rfl⟩)|((refine acK (k:=212) (hla _) ?_);rintro u L' ⟨hd,rfl,rfl⟩)|(refine acW (k:=211) (hws _ _ _ ?_ ?_) ?_;(exact gs_own pullA);(exact gs_own pullA);rintro u L' ⟨rfl,rfl⟩)|((refine acW (k:=213) (hdp _) ?_);rintro u L' ⟨rfl,rfl⟩)|((refine acK (k:=149) (hch _) ?_);rintro u L' ⟨rfl,rfl⟩)|((refine acK (k:=151) (hpu _) ?_);rintro u L' ⟨rfl,rfl⟩)));(first|refine⟨rvsA,?_⟩|clear F M a;intro a w F M|fail))|refine zT F ?_|((with_reducible refine isK ?_);refine svB F ?_ ?_<;>intro hc<;>try exact no hc)|((with_reducible refine isD ?_);((refine zD zd93 F M ?_;clear F M a w)))|refine zY ?_;go_step|fail))
    all_goals refine zE F M ?_
    have e:engL b H c (if cl=0 then {s with V:=s.V.set i ⟨bal,3,slz,epo c s,ex,wd,t⟩,fo:=s.fo++[i]} else {s with V:=s.V.set i ⟨bal,3,slz,epo c s,ex,wd,t⟩,vo:=s.vo++[i]}) R=engL b H c {s with V:=s.V.set i ⟨bal,3,slz,epo c s,ex,wd,t⟩,fo:=if cl=0 then s.fo++[i] else s.fo,vo:=if cl=0 then s.vo else s.vo++[i]} R:=by
     rcases (by omega:cl=0∨cl=1) with rfl|rfl<;>rfl
    refine⟨_,_,rfl,⟨rfl,rfl⟩,?_⟩
    rw[e]
    exact M.perms permsA
 ·rw[if_neg hs] at hacc
  rw[hacc] at hac ⊢
  simp only[ne_eq,show ¬((8:Int)=0) by decide,not_false_eq_true,if_true] at hac ⊢
  ((intro G w M;refine sx_enter (vs:=([ptr b,.int .i64 cl,.int .i64 i]:List Value)) Tryz.func146 (n:=107) rfl rfl rfl rfl ?_;intro a F;(try simp only[zc,zn] at M)))
  (repeat'(first|(first|refine sx_nil ?_|refine pv_nil ?_;intro a w F M);try replace F:=F.filt zk92 rfl|refine zn1 F M ?_;clear F M a;(try clear w);intro a w F M|refine sv2 F M ?_;clear F M a;intro nb a w F M|refine zp1 ?_|refine zp2 ?_;intro nb|((first|refine svC F M ?_|refine pvC ?_|fail);((first|((refine acK (k:=74) (hck _) ?_);rintro u L' ⟨rfl,rfl⟩)|((refine acW (k:=72) (efail_spec _ _) ?_);rintro u L' ⟨rfl,rfl⟩)|((refine acK (k:=76) (hg _) ?_);rintro u L' ⟨rfl,rfl⟩)|((refine acW (k:=210) (hac _) ?_);rintro u L' ⟨rfl,rfl⟩)));(first|refine⟨rvsA,?_⟩|clear F M a;intro a w F M|fail))|refine zT F ?_|((with_reducible refine isD ?_);((refine zD zd93 F M ?_;clear F M a w)))|refine zY ?_;go_step|fail))
  all_goals exact zX F M
end
end
def zk94:List Nat:=[0,1,2,3,4,10,11,12,13,14,15,21,40,58]
section
open Go.RowKit
section
variable {o:Oper} {n:Nat} {l:List (Nat × Value)} {L:List Asn} {C:Value→List Asn→Prop}
theorem ac_callF {f:Operand} {xs:Array Operand} {ats:Array TypeId} (ho:o.op=.call {callee:=.value f,args:=xs,argTypes:=ats}) {k:FuncId} {fs caps:Array Value} (hf:evl l f=some (.func (.func k) fs caps)) (hfk:FK k)
  {vs us:List Value} (hx:evls l xs.toList=some vs) (hu:fs.toList++vs++caps.toList=us) (hs:Spec k us L C):AC o l L n C:=fun G a w F M=>by
 have e1:xs.map a.eval=vs.toArray:=by have:=F.evals hx;apply Array.toList_inj.1;simpa using this
 have hrun:(execOp a.eval o).run Tryz.prog w=.ok (.enter k us.toArray) w:=by
  unfold execOp
  rw[ho]
  rw[Sem.run_bind]
  simp only[resolve,F.eval hf,Deferred.ofValue,Sem.run_pure,Result.andThen_ok,invoke,e1]
  have:fs++vs.toArray++caps=us.toArray:=by rw[← hu];apply Array.toList_inj.1;simp
  rw[this]
  exact @run_callFunc k hfk _ w
 rw[hrun]
 exact(hs G w M).mono fun e w' ⟨v,L',he,hc,hm⟩=>⟨v,he,L',hc,hm⟩
theorem acF {f:Operand} {xs:Array Operand} {ats:Array TypeId} {k:FuncId} {fs caps:Array Value} {vs us:List Value} {L1:List Asn} {D:Value→List Asn→Prop} (hs:Spec k us L1 D) (hi:∀ v L',D v L'→C v L')
  (ho:o.op=.call {callee:=.value f,args:=xs,argTypes:=ats}:=by exact rfl) (hf:evl l f=some (.func (.func k) fs caps):=by exact rfl) (hfk:FK k:=by exact inferInstance) (hx:evls l xs.toList=some vs:=by exact rfl) (hu:fs.toList++vs++caps.toList=us:=by exact rfl) (hp:Perms L L1:=by exact permsA):AC o l L n C :=
 ac_callF ho hf hfk hx hu ((hs.mono hi).pre hp)
end
def hd1:List Nat→List Nat→Int
 | i::_,_=>i
 | [],i::_=>i
 | [],[]=>0
def hd2:List Nat→List Nat→Int
 | _::_,_=>0
 | [],_::_=>1
 | [],[]=>0
def hd3:List Nat→List Nat→Bool
 | _::_,_=>true
 | [],_::_=>true
 | [],[]=>false
theorem headL_eq (fo vo:List Nat):headL fo vo=[.int .i64 (hd1 fo vo),.int .i64 (hd2 fo vo),.bool (hd3 fo vo)]:=by
 cases fo with
 | cons i fo=>rfl
 | nil=>cases vo<;>rfl
theorem asgs_f (e:Int) (i:Nat) (f v:List Nat) (n:Nat):asgs e (i::f) v (n+1)=⟨i,0,e⟩::asgs e f v n:=by
 simp[asgs,Nat.add_sub_add_right]
theorem asgs_v (e:Int) (i:Nat) (v:List Nat) (n:Nat):asgs e [] (i::v) (n+1)=⟨i,1,e⟩::asgs e [] v n:=by
 simp[asgs]
theorem asgs_z (e:Int) (f v:List Nat):asgs e f v 0=[]:=by simp[asgs]
structure AsI (W:List Int) (e:Int) (fo vo:List Nat) (t:Nat × Int) (fo' vo':List Nat) (ca:Int) (out:List Asg):Prop where
 o:out++asgs e fo' vo' (takeW W ca (fo'++vo')).1=asgs e fo vo t.1
 f:fo'.drop (takeW W ca (fo'++vo')).1=fo.drop t.1
 v:vo'.drop ((takeW W ca (fo'++vo')).1 - fo'.length)=vo.drop (t.1 - fo.length)
 r:(takeW W ca (fo'++vo')).2=t.2
 e:(takeW W ca (fo'++vo')).1=(fo'++vo').length↔t.1=(fo++vo).length
theorem wAt_u64 {W:List Int} (hW:∀ x∈W,U64 x) (i:Nat):U64 (wAt W i):=by
 unfold wAt
 rw[List.getD_eq_getElem?_getD]
 cases hx:W[i]? with
 | none=>exact⟨by decide,by decide⟩
 | some x=>exact hW x (List.mem_of_getElem? hx)
section
variable (ln r0 r1 mt size:Nat) (W:List Int) (v:Value) (R:List Asn) (hg:GS R 1 v W.length (W.flatMap u64L)) (hW:∀ x∈W,U64 x) (fo vo:List Nat) (hf:fo.length≤4096) (hv:vo.length≤4096) (ca x ep:Int) (hca:U64 ca) (hx:0≤x) (hep:0≤ep∧ep≤1099511627776)
include hg hW hf hv hca hx hep
theorem astep_spec:Spec 273 [.int .i64 ep,ptr ln,ptr mt,.int .u64 x,v] (mtA mt ca::lnP ln r0 r1 size fo vo R) fun u L'=>∃ h,u=sl h∧L'=ownT 87 asgL 3 (sl h) (asgs (ep+1) fo vo (takeW W (granted ca x) (fo++vo)).1)::mtA mt (if (takeW W (granted ca x) (fo++vo)).1=(fo++vo).length then 0 else (takeW W (granted ca x) (fo++vo)).2)::lnP ln r0 r1 size (fo.drop (takeW W (granted ca x) (fo++vo)).1) (vo.drop ((takeW W (granted ca x) (fo++vo)).1 - fo.length)) R:=by
 have hgr:=fun R=>mt_grant mt ca R x hca hx
 rw[show ca+min x (18446744073709551615 - ca)=granted ca x from rfl] at hgr
 have hG1:U64 (granted ca x):=by have:=hca.1;have:=hca.2;unfold granted;exact⟨by omega,by omega⟩
 have hI:AsI W (ep+1) fo vo (takeW W (granted ca x) (fo++vo)) fo vo (granted ca x) []:=⟨by simp,rfl,rfl,rfl,Iff.rfl⟩
 generalize takeW W (granted ca x) (fo++vo)=T at *
 generalize granted ca x=g at *
 have hlh:=fun (f v:List Nat) R=>lhead ln r0 r1 size f v R
 simp only[headL_eq] at hlh
 (intro G w M;refine sx_enter (vs:=([.int .i64 ep,ptr ln,ptr mt,.int .u64 x,v]:List Value)) Tryz.func273 (n:=62) rfl rfl rfl rfl ?_;intro a F;(try simp only[zc,zn] at M))
 have hG:GS (R++G) 1 v W.length (W.flatMap u64L):=Gives.app hg
 have M:=M.own_nil 87 3
 (repeat'(first|(first|refine sx_nil ?_|fail);try replace F:=F.filt zk94 rfl|refine zn1 F M ?_;clear F M a;(try clear w);intro a w F M|((first|refine svC F M ?_|fail);((first|((refine acK (k:=308) (hgr _) ?_);rintro u L' ⟨rfl,rfl⟩)|((refine acK (k:=310) (hlh fo vo _) ?_);rintro u L' ⟨rfl,rfl⟩)));(first|clear F M a;intro a w F M|fail))|refine zT F ?_|refine zY ?_;go_step|fail))
 refine svLoop F M ((fo,vo,g,nilH,[]):List Nat × List Nat × Int × SlH × List Asg) (fun s=>[(13,.int .i64 (hd1 s.1 s.2.1)),(14,.int .i64 (hd2 s.1 s.2.1)),(15,.bool (hd3 s.1 s.2.1)),(12,sl s.2.2.2.1)]) (fun s=>[ownT 87 asgL 3 (sl s.2.2.2.1) s.2.2.2.2,mtA mt s.2.2.1,lnC ln r0 r1,rgnA r0 size s.1,rgnA r1 size s.2.1]) (fun s=>s.1.length+s.2.1.length+s.2.2.2.2.length≤8192∧U64 s.2.2.1∧AsI W (ep+1) fo vo T s.1 s.2.1 s.2.2.1 s.2.2.2.2) (fun s=>s.1.length+s.2.1.length) [] ⟨by simp;omega,hG1,hI⟩ ?_ (hR:=by(repeat (first|exact Pulls.nil|(apply Pulls.cons;(focus ((repeat (first|exact Pull.here|apply Pull.there));done))))))
 (rintro⟨f,vv,m,h,out⟩ ⟨q1,q2,q3⟩ a w F M;(try simp only[zc,zn] at F M q1 q2 q3 ⊢))
 obtain ⟨o1,o2,o3,o4,o5⟩:=q3
 have fin:∀ {w:World} {z:Int} {f2 v2:List Nat},f2=fo.drop T.1→v2=vo.drop (T.1 - fo.length)→out=asgs (ep+1) fo vo T.1→z=(if T.1=(fo++vo).length then 0 else T.2)→Mem w (ownT 87 asgL 3 (sl h) out::mtA mt z::lnP ln r0 r1 size f2 v2 (R++G))→Mem w (ownT 87 asgL 3 (sl h) (asgs (ep+1) fo vo T.1)::mtA mt (if T.1=(fo++vo).length then 0 else T.2)::lnP ln r0 r1 size (fo.drop T.1) (vo.drop (T.1 - fo.length)) (R++G)):=by
  intro w z f2 v2 e1 e2 e3 e4 M
  subst e1;subst e2;rw[← e3,← e4];exact M
 have wsp:=fun (i:Nat) (R:List Asn) hg=>weight_spec W v R hg i
 have tsp:=fun (y:Int) (hy:U64 y) R=>mt_take mt m R y q2 hy
 cases f with
 | cons i f =>
  have hwu:=wAt_u64 hW i
  have ts:=fun R=>tsp _ hwu R
  have ws:=fun R hg=>wsp i R hg
  have hlf:=fun R=>hlh f vv R
  have e1:hd1 (i::f) vv=i:=rfl
  have e2:hd2 (i::f) vv=0:=rfl
  have e3:hd3 (i::f) vv=true:=rfl
  simp only[e1,e2,e3] at F
  rw[zc,takeW] at o1 o2 o3 o4 o5
  by_cases hle:wAt W i≤m
  ·simp only[hle,if_true,decide_true] at ts o1 o2 o3 o4 o5
   generalize wAt W i=z at *
   (repeat'(first|(first|refine sx_nil ?_|fail);try replace F:=F.filt zk94 rfl|refine zn1 F M ?_;clear F M a;(try clear w);intro a w F M|refine sv2 F M ?_;clear F M a;intro nb a w F M|((first|refine svC F M ?_|fail);((first|(refine acW (k:=287) (ws _ ?_) ?_;(exact gsA);rintro u L' ⟨rfl,rfl⟩)|(refine acF (k:=309) (ts _) ?_;rintro u L' ⟨rfl,rfl⟩)|((refine acK (k:=311) (lpop0 ln r0 r1 size f vv _ i) ?_);rintro u L' ⟨rfl,rfl⟩)|((refine acK (k:=310) (hlf _) ?_);rintro u L' ⟨rfl,rfl⟩)|(refine ac_appendH (f:=asgL) (xs:=out) (ys:=[⟨(i:Int),0,ep+1⟩]) rfl rfl inferInstance rfl rfl pullA inferInstance gsA rfl rfl (by simp;omega) ?_;intro nv)));(first|clear F M a;intro a w F M|fail))|refine zT F ?_|refine zY ?_;go_step|fail))
   refine sv_again F M (f,vv,m - z,nv,_) kpA permsA ⟨by simp at q1 ⊢;omega,⟨by simp only;omega,by have:=q2.2;have:=hwu.1;simp only;omega⟩,?_⟩ (by simp)
   exact⟨by rw[asgs_f] at o1;simpa using o1,by simpa using o2,by simpa using o3,o4,by simpa using o5⟩
  ·simp only[hle,if_false,decide_false] at ts o1 o2 o3 o4 o5
   (repeat'(first|(first|refine sx_nil ?_|fail);try replace F:=F.filt zk94 rfl|refine zn1 F M ?_;clear F M a;(try clear w);intro a w F M|((first|refine svC F M ?_|fail);((first|(refine acW (k:=287) (ws _ ?_) ?_;(exact gsA);rintro u L' ⟨rfl,rfl⟩)|(refine acF (k:=309) (ts _) ?_;rintro u L' ⟨rfl,rfl⟩)));(first|clear F M a;intro a w F M|fail))|refine zT F ?_|refine zY ?_;go_step|fail))
   all_goals refine zE F M ?_
   refine⟨_,_,rfl,⟨h,rfl,rfl⟩,fin ?_ ?_ ?_ ?_ (M.perms permsA)⟩
   ·simpa using o2
   ·simpa using o3
   ·simpa[asgs_z] using o1
   ·rw[if_neg (by intro e;have:=o5.2 e;simp at this)];exact o4
 | nil =>
  cases vv with
  | cons i vv =>
   have hwu:=wAt_u64 hW i
   have ts:=fun R=>tsp _ hwu R
   have ws:=fun R hg=>wsp i R hg
   have hlf:=fun R=>hlh [] vv R
   have e1:hd1 [] (i::vv)=i:=rfl
   have e2:hd2 [] (i::vv)=1:=rfl
   have e3:hd3 [] (i::vv)=true:=rfl
   simp only[e1,e2,e3] at F
   rw[zn,takeW] at o1 o2 o3 o4 o5
   by_cases hle:wAt W i≤m
   ·simp only[hle,if_true,decide_true] at ts o1 o2 o3 o4 o5
    generalize wAt W i=z at *
    (repeat'(first|(first|refine sx_nil ?_|fail);try replace F:=F.filt zk94 rfl|refine zn1 F M ?_;clear F M a;(try clear w);intro a w F M|refine sv2 F M ?_;clear F M a;intro nb a w F M|((first|refine svC F M ?_|fail);((first|(refine acW (k:=287) (ws _ ?_) ?_;(exact gsA);rintro u L' ⟨rfl,rfl⟩)|(refine acF (k:=309) (ts _) ?_;rintro u L' ⟨rfl,rfl⟩)|((refine acK (k:=311) (lpop1 ln r0 r1 size vv _ i) ?_);rintro u L' ⟨rfl,rfl⟩)|((refine acK (k:=310) (hlf _) ?_);rintro u L' ⟨rfl,rfl⟩)|(refine ac_appendH (f:=asgL) (xs:=out) (ys:=[⟨(i:Int),1,ep+1⟩]) rfl rfl inferInstance rfl rfl pullA inferInstance gsA rfl rfl (by simp;omega) ?_;intro nv)));(first|clear F M a;intro a w F M|fail))|refine zT F ?_|refine zY ?_;go_step|fail))
    refine sv_again F M ([],vv,m - z,nv,_) kpA permsA ⟨by simp at q1 ⊢;omega,⟨by simp only;omega,by have:=q2.2;have:=hwu.1;simp only;omega⟩,?_⟩ (by simp)
    exact⟨by rw[asgs_v] at o1;simpa using o1,by simpa using o2,by simpa using o3,o4,by simpa using o5⟩
   ·simp only[hle,if_false,decide_false] at ts o1 o2 o3 o4 o5
    (repeat'(first|(first|refine sx_nil ?_|fail);try replace F:=F.filt zk94 rfl|refine zn1 F M ?_;clear F M a;(try clear w);intro a w F M|((first|refine svC F M ?_|fail);((first|(refine acW (k:=287) (ws _ ?_) ?_;(exact gsA);rintro u L' ⟨rfl,rfl⟩)|(refine acF (k:=309) (ts _) ?_;rintro u L' ⟨rfl,rfl⟩)));(first|clear F M a;intro a w F M|fail))|refine zT F ?_|refine zY ?_;go_step|fail))
    all_goals refine zE F M ?_
    refine⟨_,_,rfl,⟨h,rfl,rfl⟩,fin ?_ ?_ ?_ ?_ (M.perms permsA)⟩
    ·simpa using o2
    ·simpa using o3
    ·simpa[asgs_z] using o1
    ·rw[if_neg (by intro e;have:=o5.2 e;simp at this)];exact o4
  | nil =>
   have e3:hd3 [] []=false:=rfl
   simp only[e3] at F
   rw[zn,takeW] at o1 o2 o3 o4 o5
   (repeat'(first|(first|refine sx_nil ?_|fail);try replace F:=F.filt zk94 rfl|refine zn1 F M ?_;clear F M a;(try clear w);intro a w F M|((first|refine svC F M ?_|fail);(((refine acK (k:=312) (mt_drop mt m _ q2) ?_);rintro u L' ⟨rfl,rfl⟩));(first|clear F M a;intro a w F M|fail))|refine zT F ?_|refine zY ?_;go_step|fail))
   all_goals refine zE F M ?_
   refine⟨_,_,rfl,⟨h,rfl,rfl⟩,fin ?_ ?_ ?_ ?_ (M.perms permsA)⟩
   ·simpa using o2
   ·simpa using o3
   ·simpa[asgs_z] using o1
   ·rw[if_pos (o5.1 rfl)]
end
end
section
open Go.RowKit
def obA (b:Nat) (o:Obj):Asn:=fun s w=>s=[b]∧w.heap[b]? = some o
section
variable {w:World} {L:List Asn}
theorem ok_ob {b:Nat} {o:Obj} (h:w.heap[b]? = some o):Ok (obA b o) [b] w :=
 ⟨fun x hx=>(show x=b by simpa using hx) ▸ (Array.getElem?_eq_some_iff.1 h).1,fun w' hw=>⟨rfl,(hw.2.2.2 b (by simp)).trans h⟩⟩
theorem Mem.ob {b:Nat} {o:Obj} (M:Mem w (obA b o::L)):w.heap[b]? = some o:=by
 obtain ⟨s,hs,_⟩:=M.head
 exact hs.2
theorem Mem.obNew (M:Mem w L) (o:Obj):Mem (w.alloc o) (obA w.heap.size o::L) :=
 M.new ⟨rfl,rfl,rfl,by simp,fun k hk _=>(((Below.refl _ _).alloc (Nat.le_refl _) _).block k hk)⟩ ⟨[w.heap.size],ok_ob (World.alloc_heap_new w o),by simp⟩
theorem Mem.obSet {b:Nat} {o:Obj} (M:Mem w (obA b o::L)) (o':Obj):Mem (w.putObj b o') (obA b o'::L):=M.change fun s hs=>by
 obtain ⟨rfl,h⟩:=hs.now
 exact⟨⟨rfl,rfl,rfl,by simp,fun k hk hb=>World.putObj_heap_other (by simpa using hb)⟩,[b],ok_ob (World.putObj_heap_same (Array.getElem?_eq_some_iff.1 h).1),fun x hx=>.inl hx⟩
end
def FR (ro:Option Nat):Fence:={Fence.wide with round:=ro}
section
variable {ro:Option Nat} {ops:Array Oper} {Q:Exit→Act→World→Prop} {rest:List Oper} {o:Oper} {a:Act} {w:World} {n:Nat} {l:List (Nat × Value)} {L:List Asn} {C:Value→List Asn→Prop}
theorem li_upon {next:Act→World→Prop} {r:Result Next} {Φ:Value→World→Prop} (h:UponD Tryz.prog Φ r) (hn:∀ v w',Φ v w'→next (a.put o.dst v) w'):o.uponIn (FR ro) 0 Tryz.prog a next Q r:=by
 cases r with
 | ok x w =>
  cases x<;>simp only[UponD] at h
  case value u=>exact hn _ _ h
  case skip=>exact hn _ _ h
  case enter f args =>
   refine⟨(fun h=>by cases h),?_⟩
   have hc:CallsIn Fence.wide (0 - 1) Tryz.prog f args w fun e w''=>∃ v,e=.returned v∧Φ v w'':=callsIn_wide.2 h
   refine⟨trivial,fun cs hr=>?_⟩
   obtain ⟨e,w',fr,hR,hx⟩:=hc.2 cs (room_wide _)
   obtain ⟨v,rfl,hv⟩:=hR
   exact⟨_,w',fr,hn v w' hv,hx⟩
 | halt x w=>cases h
theorem li_act (F:Fr a n l) (M:Mem w L) (hw:Wanted o ops l=some true) (hnd:∀ c,o.op≠.defer c) {d:Nat} (hd:o.dst=some d) (hn:Nat.ble (d+1) n=true)
  (h:AC o l L n (fun v L'=>∀ a' w',Fr a' n ((d,v)::l)→Mem w' L'→wpListIn (FR ro) 0 Tryz.prog ops Q rest a' w')):wpListIn (FR ro) 0 Tryz.prog ops Q (o::rest) a w:=by
 unfold wpListIn
 rw[if_pos (F.wanted hw)]
 refine⟨fun _ _=>trivial,?_⟩
 rw[Oper.semAt_eq _ _ _ hnd]
 exact li_upon (h [] a w F (by simpa using M)) fun v w' ⟨L',hC,hM⟩=>by rw[hd];exact hC _ _ (F.put d v hn) (by simpa using hM)
theorem li_act0 (F:Fr a n l) (M:Mem w L) (hw:Wanted o ops l=some true) (hnd:∀ c,o.op≠.defer c) (hd:o.dst=none)
  (h:AC o l L n (fun v L'=>∀ w',Mem w' L'→wpListIn (FR ro) 0 Tryz.prog ops Q rest a w')):wpListIn (FR ro) 0 Tryz.prog ops Q (o::rest) a w:=by
 unfold wpListIn
 rw[if_pos (F.wanted hw)]
 refine⟨fun _ _=>trivial,?_⟩
 rw[Oper.semAt_eq _ _ _ hnd]
 exact li_upon (h [] a w F (by simpa using M)) fun v w' ⟨L',hC,hM⟩=>by rw[hd];exact hC _ (by simpa using hM)
theorem li_nil (h:Q .normal a w):wpListIn (FR ro) 0 Tryz.prog ops Q [] a w:=h
theorem lv1 (F:Fr a n l) (M:Mem w L) {d:Nat} {v:Value} (h:∀ a',Fr a' n ((d,v)::l)→wpListIn (FR ro) 0 Tryz.prog ops Q rest a' w)
  (hw:Wanted o ops l=some true:=by exact rfl) (hd:o.dst=some d:=by exact rfl) (hn:Nat.ble (d+1) n=true:=by exact rfl) (hr:RT o l L n v:=by exact rtA) (hnd:∀ c,o.op≠.defer c:=by(intro c h;cases h)):wpListIn (FR ro) 0 Tryz.prog ops Q (o::rest) a w:=by
 unfold wpListIn
 rw[if_pos (F.wanted hw)]
 refine⟨fun _ _=>trivial,?_⟩
 rw[Oper.semAt_eq _ _ _ hnd,hr a w F M]
 show wpListIn (FR ro) 0 Tryz.prog ops Q rest (a.put o.dst v) w
 rw[hd]
 exact h _ (F.put d v hn)
theorem lv2 (F:Fr a n l) (M:Mem w L) {d:Nat} {fv:Nat→Value} {fL:Nat→List Asn} (h:∀ b a' w',Fr a' n ((d,fv b)::l)→Mem w' (fL b)→wpListIn (FR ro) 0 Tryz.prog ops Q rest a' w')
  (hw:Wanted o ops l=some true:=by exact rfl) (hd:o.dst=some d:=by exact rfl) (hn:Nat.ble (d+1) n=true:=by exact rfl)
  (s:∀ C:Value→List Asn→Prop,(∀ b,C (fv b) (fL b))→AC o l L n C:=by(intro C h;exact acA h)) (hnd:∀ c,o.op≠.defer c:=by(intro c h;cases h)):wpListIn (FR ro) 0 Tryz.prog ops Q (o::rest) a w:=li_act F M hw hnd hd hn (s _ h)
theorem lv3 (F:Fr a n l) (M:Mem w L) {v:Value} {L':List Asn} (h:∀ w',Mem w' L'→wpListIn (FR ro) 0 Tryz.prog ops Q rest a w')
  (hw:Wanted o ops l=some true:=by exact rfl) (hd:o.dst=none:=by exact rfl)
  (s:∀ C:Value→List Asn→Prop,C v L'→AC o l L n C:=by(intro C h;exact acB h)) (hnd:∀ c,o.op≠.defer c:=by(intro c h;cases h)):wpListIn (FR ro) 0 Tryz.prog ops Q (o::rest) a w:=li_act0 F M hw hnd hd (s _ h)
theorem lvC (F:Fr a n l) (M:Mem w L) {d:Nat} (h:AC o l L n (fun v L'=>∀ a' w',Fr a' n ((d,v)::l)→Mem w' L'→wpListIn (FR ro) 0 Tryz.prog ops Q rest a' w')) (hw:Wanted o ops l=some true:=by exact rfl) (hd:o.dst=some d:=by exact rfl) (hn:Nat.ble (d+1) n=true:=by exact rfl) (hnd:∀ c,o.op≠.defer c:=by(intro c h;cases h)):wpListIn (FR ro) 0 Tryz.prog ops Q (o::rest) a w:=li_act F M hw hnd hd hn h
theorem lvK (F:Fr a n l) {d:Nat} (h:∀ a',Fr a' n ((d,undef)::l)→wpListIn (FR ro) 0 Tryz.prog ops Q rest a' w) (hw:Wanted o ops l=some false:=by exact rfl) (hd:o.dst=some d:=by exact rfl) (hn:Nat.ble (d+1) n=true:=by exact rfl):wpListIn (FR ro) 0 Tryz.prog ops Q (o::rest) a w:=by
 unfold wpListIn
 rw[if_neg (by rw[F.wanted hw];decide)]
 refine⟨fun _ _=>trivial,?_⟩
 rw[hd]
 exact h _ (F.put d undef hn)
theorem lvG (F:Fr a n l) {b:Bool} (hg:guardOf o ops l=some (.bool b)) (h1:b=true→wpListIn (FR ro) 0 Tryz.prog ops Q (o::rest) a w) (h2:b=false→wpListIn (FR ro) 0 Tryz.prog ops Q (o::rest) a w):wpListIn (FR ro) 0 Tryz.prog ops Q (o::rest) a w:=by
 cases b
 ·exact h2 rfl
 ·exact h1 rfl
theorem isI (h:wpListIn (FR ro) 0 Tryz.prog ops Q rest a w):wpListIn (FR ro) 0 Tryz.prog ops Q rest a w:=h
theorem reg_in {id:Nat} {os:List Oper} (h:wpListIn (FR ro) 0 Tryz.prog os.toArray Q os a w):(Code.region id os.toArray false).wpIn (FR ro) 0 Tryz.prog Q a w:=wpIn_region_lit h
theorem reg_out {id:Nat} {os:List Oper} (h:wpListIn (FR none) 0 Tryz.prog os.toArray Q os a w):(Code.region id os.toArray false).wp Tryz.prog Q a w:=(wpIn_wide (n:=0)).1 (wpIn_region_lit (F:=Fence.wide) h)
def lpR (fn:FuncId) (tmps:Array Value) (p:Nat) (asg bod:Code) (D:Nat) (st:LoopState):Loop:={state:=st,pending:=none,fn,tmps,params:=#[p],assign:=asg,body:=bod,defers:=D}
def RoundC (lp:Nat) (fn:FuncId) (tmps:Array Value) (p:Nat) (asg bod:Code) (x:Value) (L L2:List Asn):Prop :=
 ∀ G w,Mem w (L++G)→RoundIn Fence.wide 0 Tryz.prog lp fn (tmps.setIfInBounds p x) asg bod w fun e w'=>e=.returned (.bool true)∧Mem w' (L2++G)
theorem lvY (F:Fr a n l) (M:Mem w L) {d:Nat} {fo:Operand} {xs:Array Operand} {ats:Array TypeId} {lp:Nat} {x:Value} {fn:FuncId} {tmps:Array Value} {p:Nat} {asg bod:Code} {D:Nat} {L1 L2 R:List Asn}
  (hR:RoundC lp fn tmps p asg bod x (obA lp (.loop (lpR fn tmps p asg bod D .ready))::L1) L2) (hp:Perms L ((obA lp (.loop (lpR fn tmps p asg bod D .ready))::L1)++R))
  (h:∀ a' w',Fr a' n ((d,.bool true)::l)→Mem w' (L2++R)→wpListIn (FR none) 0 Tryz.prog ops Q rest a' w')
  (ho:o.op=.call {callee:=.value fo,args:=xs,argTypes:=ats}:=by exact rfl) (hf:evl l fo=some (.func (.yield lp) #[] #[]):=by exact rfl) (hx:evls l xs.toList=some [x]:=by exact rfl)
  (hw:Wanted o ops l=some true:=by exact rfl) (hd:o.dst=some d:=by exact rfl) (hn:Nat.ble (d+1) n=true:=by exact rfl):wpListIn (FR none) 0 Tryz.prog ops Q (o::rest) a w:=by
 unfold wpListIn
 rw[if_pos (F.wanted hw)]
 refine⟨fun _ _=>trivial,?_⟩
 rw[Oper.semAt_eq _ _ _ (by rw[ho];intro c h;cases h)]
 have M2:=M.perms hp
 have hl:=Mem.ob (show Mem w (obA lp (.loop (lpR fn tmps p asg bod D .ready))::(L1++R)) from M2)
 have e1:xs.map a.eval=[x].toArray:=by have:=F.evals hx;apply Array.toList_inj.1;simpa using this
 have hy:=run_yield (P:=Tryz.prog) (args:=#[x]) hl rfl
 have hrun:(execOp a.eval o).run Tryz.prog w=.ok (.round lp fn (tmps.setIfInBounds p x) asg bod) w:=by
  unfold execOp
  rw[ho]
  rw[Sem.run_bind]
  simp only[resolve,F.eval hf,Deferred.ofValue,Sem.run_pure,Result.andThen_ok,invoke,e1]
  simpa[lpR] using hy
 rw[hrun,Oper.uponIn_round]
 refine⟨(fun h=>by cases h),?_⟩
 refine RoundIn.mono (hR R w M2) ?_
 rintro e w' ⟨rfl,M3⟩
 rw[hd]
 exact h _ _ (F.put d _ hn) M3
theorem round_mk {lp:Nat} {fn:FuncId} {a0:Act} {p D:Nat} {asg bod:Code} {x:Value} {L1 L2:List Asn} (F0:Fr a0 n l) (hp:Nat.ble (p+1) n=true)
  (h:∀ G a w,Fr a n ((p,x)::l)→Mem w (obA lp (.loop (lpR fn a0.tmps p asg bod D .ready))::(L1++G))→asg.wpIn (FR (some lp)) 0 Tryz.prog (Exit.then (fun a1 w1=>∃ G1,Mem w1 (obA lp (.loop (lpR fn a0.tmps p asg bod D .ready))::G1)∧∀ w2,Mem w2 (obA lp (.loop (lpR fn a0.tmps p asg bod D .busy))::G1) →
   bod.wpIn (FR (some lp)) 0 Tryz.prog (fun e a w=>e=.normal∧Mem w (obA lp (.loop (lpR fn a0.tmps p asg bod D .busy))::(L2++G))) a1 w2) (fun _ _ _=>False)) a w) :
  RoundC lp fn a0.tmps p asg bod x (obA lp (.loop (lpR fn a0.tmps p asg bod D .ready))::L1) (obA lp (.loop (lpR fn a0.tmps p asg bod D .ready))::L2):=fun G w M=>by
 refine roundIn_of_wpIn trivial ?_
 have hF:=F0.put p x hp
 have e:(a0.put (some p) x)={tmps:=a0.tmps.setIfInBounds p x,defers:=[]}:=by
  have:=F0.ds
  obtain ⟨t,ds⟩:=a0
  simp only at this
  subst this;rfl
 rw[e] at hF
 refine wpIn_mono (h G _ w hF M) ?_
 intro e a1 w1 hq
 cases e with
 | normal =>
  obtain ⟨G1,M1,hb⟩:=hq
  refine⟨_,run_beginRound (Mem.ob M1) rfl,?_⟩
  refine wpIn_mono (hb _ (M1.obSet _)) ?_
  rintro e a2 w2 ⟨rfl,M2⟩
  exact⟨_,_,run_endRound none (Mem.ob M2),rfl,M2.obSet _⟩
 | _=>exact hq.elim
theorem rf_range {g:Operand} {p:Nat} {asg bod:Code} {k:FuncId} {caps:Array Value} (F:Fr a n l) (M:Mem w L) (hg:evl l g=some (.func (.func k) #[] caps)) (hfk:FK k) {C:List Asn→Prop}
  (hit:∀ (fn:FuncId) lp D,Spec k (.func (.yield lp) #[] #[]::caps.toList) (obA lp (.loop (lpR fn a.tmps p asg bod D .ready))::L) fun _ L'=>∃ L2,C L2∧L'=obA lp (.loop (lpR fn a.tmps p asg bod D .ready))::L2)
  (h:∀ D w' L2,C L2→Mem w' (obA D (.deferred (some []))::L2)→Q .normal (sh [{target:=.collected D,args:=#[]}] a) w'):(Code.rangeFunc g #[p] asg bod).wp Tryz.prog Q a w:=by
 refine(wpIn_wide (n:=0)).1 (wpIn_rangeFunc (F:=Fence.wide) ?_)
 intro fn _
 have M1:=Mem.back (R:=[]) (show Mem _ (obA w.heap.size (.deferred (some []))::(L++[])) by rw[List.append_nil];exact M.obNew (.deferred (some [])))
 have M2:=M1.obNew (.loop (lpR fn a.tmps p asg bod w.heap.size .ready))
 have hsz:(w.alloc (.deferred (some []))).heap.size=w.heap.size+1:=by simp
 rw[hsz] at M2
 obtain ⟨W1,hW1⟩:∃ W1,(w.alloc (.deferred (some []))).alloc (.loop (lpR fn a.tmps p asg bod w.heap.size .ready))=W1:=⟨_,rfl⟩
 have hent:(Instr.enterLoop fn a.tmps #[p] asg bod Fence.wide.round).run Tryz.prog w=.ok (w.heap.size+1,[{target:=.collected w.heap.size,args:=#[]}]) W1:=by rw[← hW1];exact run_enterLoop_outer _ _ _ _ _
 rw[hW1] at M2
 refine⟨w.heap.size+1,[{target:=.collected w.heap.size,args:=#[]}],W1,{target:=.fn (.func k) caps,args:=#[.func (.yield (w.heap.size+1)) #[] #[]]},W1,k,#[.func (.yield (w.heap.size+1)) #[] #[]]++caps,W1,hent,?_,fun _ _=>trivial,?_,(fun h=>by cases h),?_⟩
 ·simp only[rangeCall,resolve,F.eval hg,Deferred.ofValue]
  simp[Act.eval]
 ·have:=@run_callFunc k hfk (#[.func (.yield (w.heap.size+1)) #[] #[]]++caps) W1
  simpa[invoke] using this
 ·refine callsIn_wide.2 ?_
  have e:(#[.func (.yield (w.heap.size+1)) #[] #[]]++caps:Array Value)=(Value.func (.yield (w.heap.size+1)) #[] #[]::caps.toList).toArray:=by
   apply Array.toList_inj.1;simp
  rw[e]
  refine(hit fn (w.heap.size+1) w.heap.size [obA w.heap.size (.deferred (some []))] W1 M2).mono ?_
  rintro e w3 ⟨v,L',rfl,⟨L2,hC,rfl⟩,M4⟩
  have M4':Mem w3 (obA (w.heap.size+1) (.loop (lpR fn a.tmps p asg bod w.heap.size .ready))::(L2++[obA w.heap.size (.deferred (some []))])):=M4
  refine⟨none,_,run_endLoop (Mem.ob M4') (by simp[lpR]),?_⟩
  have M5:=Mem.front (R:=[]) (M4'.obSet (.loop {lpR fn a.tmps p asg bod w.heap.size .ready with state:=.exhausted})).drop
  rw[List.append_nil] at M5
  have e2:({a with defers:=[{target:=.collected w.heap.size,args:=#[]}]++a.defers}:Act)=sh [{target:=.collected w.heap.size,args:=#[]}] a:=by
   have:=F.ds
   obtain ⟨t,ds⟩:=a
   simp only at this
   subst this;rfl
  show Q .normal {a with defers:=[{target:=.collected w.heap.size,args:=#[]}]++a.defers} _
  rw[e2]
  exact h _ _ L2 hC M5
end
section
variable {ops:Array Oper} {Q:Exit→Act→World→Prop} {D:List Deferred} {a:Act} {w:World} {n:Nat} {l:List (Nat × Value)} {L:List Asn}
theorem svBS {c:Operand} {x y:Code} (F:Fr a n l) {b:Bool} (h1:b=true→x.wp Tryz.prog Q (sh D a) w) (h2:b=false→y.wp Tryz.prog Q (sh D a) w) (hc:evl l c=some (.bool b):=by exact rfl):(Code.cond c x y).wp Tryz.prog Q (sh D a) w :=
 wp_cond_split (show(sh D a).eval c=_ from F.eval hc) h1 h2
theorem svTS {c:Operand} {x y:Code} (F:Fr a n l) {b:Bool} (hb:b=true) (h1:x.wp Tryz.prog Q (sh D a) w) (hc:evl l c=some (.bool b):=by exact rfl):(Code.cond c x y).wp Tryz.prog Q (sh D a) w:=svBS F (fun _=>h1) (fun e=>by rw[hb] at e;cases e) hc
theorem svFS {c:Operand} {x y:Code} (F:Fr a n l) {b:Bool} (hb:b=false) (h1:y.wp Tryz.prog Q (sh D a) w) (hc:evl l c=some (.bool b):=by exact rfl):(Code.cond c x y).wp Tryz.prog Q (sh D a) w:=svBS F (fun e=>by rw[hb] at e;cases e) (fun _=>h1) hc
theorem svLoopS {c:Code} {σ:Type} (F:Fr a n l) (M:Mem w L) (s0:σ) (dl:σ→List (Nat × Value)) (dL:σ→List Asn) (Pf:σ→Prop) (μ:σ→Nat) (fg:List Nat) {st:List (Nat × Value)} {R:List Asn} (hP:Pf s0)
  (round:∀ s,Pf s→∀ a w,Fr a n (dl s++st)→Mem w (dL s++R)→c.wp Tryz.prog (Exit.then (fun a' w'=>∃ s',(∃ a0,a'=sh D a0∧Fr a0 n (dl s'++st)∧Mem w' (dL s'++R)∧Pf s')∧μ s'<μ s) Q) (sh D a) w)
  (hs:restO (fg++slotsL (dl s0)) l=some st:=by exact rfl) (h0:∀ p∈dl s0,look l p.1=some p.2:=by exact kpA) (hR:Pulls L (dL s0) R:=by(first|(focus ((repeat (first|exact Pulls.nil|(apply Pulls.cons;exact pullA)));done))|fail)):(Code.loop c).wp Tryz.prog Q (sh D a) w :=
 wp_loop_ghost (fun s a w=>∃ a0,a=sh D a0∧Fr a0 n (dl s++st)∧Mem w (dL s++R)∧Pf s) μ (fun s a w ⟨a0,h0,h1,h2,h3⟩=>by subst h0;exact round s h3 a0 w h1 h2) s0 ⟨a,rfl,⟨F.ds,F.size,fun t v ht=>by
  rw[look_append] at ht
  have F1:=F.keep h0
  cases hl:look (dl s0) t with
  | some u =>
   rw[hl] at ht
   obtain rfl:=Option.some.inj ht
   exact F1.val t u hl
  | none =>
   rw[hl] at ht
   exact F.val t v (restO_look l _ hs t v ht).2⟩,Mem.pulls hR M,hP⟩
theorem sv_againS {σ:Type} {lf:σ→List (Nat × Value)} {Lf:σ→List Asn} {Pf:σ→Prop} {μ:σ→Nat} {m:Nat} (F:Fr a n l) (M:Mem w L) (s':σ) (h0:∀ p∈lf s',look l p.1=some p.2) (hL:Perms L (Lf s')) (hP:Pf s') (hμ:μ s'<m) :
  ∃ s',(∃ a0,sh D a=sh D a0∧Fr a0 n (lf s')∧Mem w (Lf s')∧Pf s')∧μ s'<m:=⟨s',⟨a,rfl,F.keep h0,M.perms hL,hP⟩,hμ⟩
theorem sx_enterM {f:FuncId} {fn:Func} {c:Code} {vs:List Value} {w:World} {R:Ending→World→Prop} (hf:Tryz.prog.funcs[f]? = some fn) (hb:fn.body=some c) {n k:Nat} (hn:fn.ntmps=n) (hle:Nat.ble vs.length n=true) (hk0:n - vs.length=k)
  (h:∀ a,Fr a n (initL 0 vs)→c.wp Tryz.prog (bodyPostM Fence.wide 0 Tryz.prog fn R) a w):Calls Tryz.prog f vs.toArray w R:=by
 have hk:vs.length+k=n:=by have:=Nat.le_of_ble_eq_true hle;omega
 subst hn
 refine callsIn_wide.1 (callsIn_of_wp_marks (n:=0) hf hb trivial ((wpIn_wide (n:=0)).2 (h _ ?_)))
 have:=Fr.init vs k
 rw[hk] at this
 rw[show fn.ntmps - vs.toArray.size=k by simp;omega]
 exact this
theorem end_col {fn:Func} {R:Ending→World→Prop} {b:Nat} {rs:List ResultVar} {vs:List Value} (F:Fr a n l) (M:Mem w (obA b (.deferred (some []))::L)) (hR:∀ w',Mem w' L→R (.returned (tupOf vs)) w') (hf:fn.results=rs.toArray:=by exact rfl) (hr:Ress (obA b (.deferred none)::L) l rs vs:=by(focus ((repeat (first|exact Ress.nil|(apply Ress.cons)|(apply Res.tmp;exact rfl)|(apply Res.agg;(exact rfl);(exact inferInstance);(exact pullA);(exact rfl))|(apply Res.one;(exact rfl);(exact inferInstance);(exact pullA);(exact rfl))));done))):bodyPostM Fence.wide 0 Tryz.prog fn R .ret (sh [{target:=.collected b,args:=#[]}] a) w:=by
 have e:(sh [({target:=.collected b,args:=#[]}:Deferred)] a).defers=[{target:=.collected b,args:=#[]}]:=by simp[sh,F.ds]
 show LeavesInM _ _ _ _ _ _ _ _ _
 rw[e]
 have M2:=M.obSet (.deferred none)
 exact⟨by simp,.inl ⟨b,_,rfl,run_takeDeferred (Mem.ob M),⟨_,(show(results fn a.tmps).run Tryz.prog _=_ from hr.run F M2 hf),hR _ M2.drop⟩⟩⟩
end
end
def zk95:List Nat:=[0,1,2,3,4]
def zk96:List Nat:=[0,1,2,3,4,7,8,9,31]
def zk97:List Nat:=[0,1,2,3,4,6,7,8,35]
def zk98:List Nat:=[0,1,2,6,7,8,12,19,20,21]
section
open Go.RowKit
abbrev bgL (b3 b4 b1:Nat) (sum lim:Int) (first:Bool) (R:List Asn):List Asn:=pt b3 [.int .u64 sum] 23::pt b4 [.bool first] 4::pt b1 [.int .u64 lim] 23::R
abbrev bgV (b3 b4 b1:Nat):Value:=.func (.func 336) #[] #[ptr b3,ptr b4,ptr b1]
theorem budget_spec (lim:Int) (R:List Asn):Spec 315 [.int .u64 lim] R fun u L'=>∃ b3 b4 b1,u=bgV b3 b4 b1∧L'=bgL b3 b4 b1 0 lim true R:=by
 (intro G w M;refine sx_enter (vs:=([.int .u64 lim]:List Value)) Tryz.func315 (n:=6) rfl rfl rfl rfl ?_;intro a F;(try simp only[zc,zn] at M))
 (repeat'(first|(first|refine sx_nil ?_|fail);try replace F:=F.filt zk95 rfl|refine zn1 F M ?_;clear F M a;(try clear w);intro a w F M|refine sv2 F M ?_;clear F M a;intro nb a w F M|refine zT F ?_|refine zY ?_;go_step|fail))
 all_goals refine zE F M ?_
 all_goals exact⟨_,_,rfl,⟨_,_,_,rfl,rfl⟩,M.perms permsA⟩
def bgOk (sum lim x:Int) (first:Bool):Bool:=first || !(decide (lim<sum+x) || decide (18446744073709551615<sum+x))
theorem budget1_spec (b3 b4 b1:Nat) (sum lim x:Int) (first:Bool) (hs:U64 sum) (hx:U64 x) (h0:first=true→sum=0) (R:List Asn):Spec 336 [.int .u64 x,.bool true,ptr b3,ptr b4,ptr b1] (bgL b3 b4 b1 sum lim first R) fun u L'=>u=.bool (bgOk sum lim x first)∧L'=bgL b3 b4 b1 (if bgOk sum lim x first=true then sum+x else sum) lim (first && !bgOk sum lim x first) R:=by
 have s1:=hs.1;have s2:=hs.2;have x1:=hx.1;have x2:=hx.2
 have hadd:∀ {L:List Asn} {v:Value},GS L 1 v 2 ([sum,x].flatMap u64L)→Reads 39 [v] (.tuple [.int .u64 (addR [sum,x]).1,.bool (addR [sum,x]).2].toArray) L:=fun hg=>gadd_reads _ [sum,x] (by simp;exact⟨hs,hx⟩) hg
 rw[addR_two hs hx] at hadd
 cases first
 ·by_cases h1:18446744073709551615<sum+x
  ·rw[if_pos h1] at hadd
   have e:bgOk sum lim x false=false:=by simp[bgOk,h1]
   rw[e]
   (intro G w M;refine sx_enter (vs:=([.int .u64 x,.bool true,ptr b3,ptr b4,ptr b1]:List Value)) Tryz.func336 (n:=33) rfl rfl rfl rfl ?_;intro a F;(try simp only[zc,zn] at M))
   (repeat'(first|(first|refine sx_nil ?_|fail);try replace F:=F.filt zk96 rfl|refine zn1 F M ?_;clear F M a;(try clear w);intro a w F M|refine sv2 F M ?_;clear F M a;intro nb a w F M|((first|refine svC F M ?_|fail);(((refine acCall (k:=39) ?_);(refine Spec.of_reads (hadd (gs_own pullA)) rfl ?_)));(first|clear F M a;intro a w F M|fail))|refine zT F ?_|refine zY ?_;go_step|fail))
   all_goals exact zX F M
  ·rw[if_neg h1] at hadd
   by_cases h2:lim<sum+x
   ·have e:bgOk sum lim x false=false:=by simp[bgOk,h2]
    rw[e]
    (intro G w M;refine sx_enter (vs:=([.int .u64 x,.bool true,ptr b3,ptr b4,ptr b1]:List Value)) Tryz.func336 (n:=33) rfl rfl rfl rfl ?_;intro a F;(try simp only[zc,zn] at M))
    (repeat'(first|(first|refine sx_nil ?_|fail);try replace F:=F.filt zk96 rfl|refine zn1 F M ?_;clear F M a;(try clear w);intro a w F M|refine sv2 F M ?_;clear F M a;intro nb a w F M|((first|refine svC F M ?_|fail);(((refine acCall (k:=39) ?_);(refine Spec.of_reads (hadd (gs_own pullA)) rfl ?_)));(first|clear F M a;intro a w F M|fail))|refine zT F ?_|((with_reducible refine isK ?_);refine svB F ?_ ?_<;>intro hc<;>try exact no hc)|refine zY ?_;go_step|fail))
    all_goals exact zX F M
   ·have e:bgOk sum lim x false=true:=by simp[bgOk,h1,h2]
    rw[e]
    (intro G w M;refine sx_enter (vs:=([.int .u64 x,.bool true,ptr b3,ptr b4,ptr b1]:List Value)) Tryz.func336 (n:=33) rfl rfl rfl rfl ?_;intro a F;(try simp only[zc,zn] at M))
    (repeat'(first|(first|refine sx_nil ?_|fail);try replace F:=F.filt zk96 rfl|refine zn1 F M ?_;clear F M a;(try clear w);intro a w F M|refine sv2 F M ?_;clear F M a;intro nb a w F M|((first|refine svC F M ?_|fail);(((refine acCall (k:=39) ?_);(refine Spec.of_reads (hadd (gs_own pullA)) rfl ?_)));(first|clear F M a;intro a w F M|fail))|refine zT F ?_|((with_reducible refine isK ?_);refine svB F ?_ ?_<;>intro hc<;>try exact no hc)|refine zY ?_;go_step|fail))
    all_goals exact zX F M
 ·have h3:=h0 rfl
  subst h3
  have e:bgOk 0 lim x true=true:=rfl
  rw[e]
  rw[if_neg (by omega)] at hadd
  (intro G w M;refine sx_enter (vs:=([.int .u64 x,.bool true,ptr b3,ptr b4,ptr b1]:List Value)) Tryz.func336 (n:=33) rfl rfl rfl rfl ?_;intro a F;(try simp only[zc,zn] at M))
  (repeat'(first|(first|refine sx_nil ?_|fail);try replace F:=F.filt zk96 rfl|refine zn1 F M ?_;clear F M a;(try clear w);intro a w F M|refine sv2 F M ?_;clear F M a;intro nb a w F M|((first|refine svC F M ?_|fail);(((refine acCall (k:=39) ?_);(refine Spec.of_reads (hadd (gs_own pullA)) rfl ?_)));(first|clear F M a;intro a w F M|fail))|refine zT F ?_|refine zY ?_;go_step|fail))
  all_goals exact zX F M
def bgGo (W:List Int) (lim:Int):Int→Bool→List Nat→Nat
 | _,_,[]=>0
 | s,f,i::r=>if bgOk s lim (wAt W i) f=true then bgGo W lim (s+wAt W i) false r+1 else 0
theorem bgGo_false (W:List Int) (lim:Int):∀ (l:List Nat) (s:Int),bgGo W lim s false l=actGo W lim s l
 | [],s=>rfl
 | i::r,s=>by
  rw[bgGo,actGo,bgGo_false W lim r]
  by_cases h:lim<s+wAt W i∨18446744073709551615<s+wAt W i
  ·rw[if_pos h,if_neg]
   simp only[bgOk]
   rcases h with h|h<;>simp[h]
  ·rw[if_neg h,if_pos]
   simp only[bgOk]
   simp only[not_or] at h
   simp[h.1,h.2]
theorem bgGo_true (W:List Int) (lim:Int) (l:List Nat):bgGo W lim 0 true l=actN W lim l:=by
 cases l with
 | nil=>rfl
 | cons i r =>
  have e:bgOk 0 lim (wAt W i) true=true:=rfl
  rw[bgGo,if_pos e,bgGo_false,Int.zero_add];rfl
theorem bgOk_u64 {sum lim x:Int} {first:Bool} (h:bgOk sum lim x first=true) (h0:first=true→sum=0) (hs:U64 sum) (hx:U64 x):U64 (sum+x):=by
 have s1:=hs.1;have x1:=hx.1;have x2:=hx.2
 cases first
 ·simp only[bgOk,Bool.false_or,Bool.not_eq_true',Bool.or_eq_false_iff,decide_eq_false_iff_not] at h
  exact⟨by omega,by omega⟩
 ·rw[h0 rfl];exact⟨by omega,by omega⟩
def outA (b:Nat) (l:List Nat):Asn:=exA fun h:SlH=>[pt b [sl h] 24,ownT 3 natL 1 (sl h) l]
theorem out_open {w:World} {L:List Asn} {b:Nat} {l:List Nat} (M:Mem w (outA b l::L)):∃ h,Mem w (pt b [sl h] 24::ownT 3 natL 1 (sl h) l::L):=by
 obtain ⟨h,M⟩:=M.exo
 exact⟨h,M⟩
theorem out_close {w:World} {L:List Asn} {b:Nat} {l:List Nat} {h:SlH} (M:Mem w (pt b [sl h] 24::ownT 3 natL 1 (sl h) l::L)):Mem w (outA b l::L):=Mem.exc (f:=fun h:SlH=>[pt b [sl h] 24,ownT 3 natL 1 (sl h) l]) h M
section
variable {ops:Array Oper} {Q:Exit→Act→World→Prop} {rest:List Oper} {o:Oper} {a:Act} {w:World} {n:Nat} {l:List (Nat × Value)} {L:List Asn}
theorem lvY1 (F:Fr a n l) (M:Mem w L) {d:Nat} {fo:Operand} {xs:Array Operand} {ats:Array TypeId} {lp:Nat} {x:Value} {fn:FuncId} {tmps:Array Value} {p:Nat} {asg bod:Code} {D:Nat} {A B:Asn} {R:List Asn}
  (hR:RoundC lp fn tmps p asg bod x (obA lp (.loop (lpR fn tmps p asg bod D .ready))::[A]) (obA lp (.loop (lpR fn tmps p asg bod D .ready))::[B]))
  (h:∀ a' w',Fr a' n ((d,.bool true)::l)→Mem w' (obA lp (.loop (lpR fn tmps p asg bod D .ready))::B::R)→wpListIn (FR none) 0 Tryz.prog ops Q rest a' w')
  (hp:Perms L (obA lp (.loop (lpR fn tmps p asg bod D .ready))::A::R):=by exact permsA)
  (ho:o.op=.call {callee:=.value fo,args:=xs,argTypes:=ats}:=by exact rfl) (hf:evl l fo=some (.func (.yield lp) #[] #[]):=by exact rfl) (hx:evls l xs.toList=some [x]:=by exact rfl)
  (hw:Wanted o ops l=some true:=by exact rfl) (hd:o.dst=some d:=by exact rfl) (hn:Nat.ble (d+1) n=true:=by exact rfl):wpListIn (FR none) 0 Tryz.prog ops Q (o::rest) a w :=
 lvY (R:=R) F M hR hp h ho hf hx hw hd hn
end
section
variable (q size bl bq bf bw b7:Nat) (W:List Int) (v:Value) (R:List Asn) (hg:GS R 1 v W.length (W.flatMap u64L)) (hW:∀ x∈W,U64 x) (pe:List Nat) (hpe:pe.length≤4096) (lim:Int) (lp:Nat) (fn:FuncId) (tmps:Array Value) (p D:Nat) (asg bod:Code)
abbrev baL (q size bl bq bf bw:Nat) (v:Value) (pe:List Nat) (lim:Int) (k:Nat) (R:List Asn):List Asn:=pt bl [.int .u64 lim] 23::pt bq [ptr q] 125::pt bf [.int .i64 (k:Int)] 3::pt bw [v] 152::rgnA q size pe::R
include hg hW hpe in
theorem batch1_spec (hrd:∀ (out:List Nat) (i:Nat),out.length≤4096→RoundC lp fn tmps p asg bod (.int .i64 (i:Int)) (obA lp (.loop (lpR fn tmps p asg bod D .ready))::[outA b7 out]) (obA lp (.loop (lpR fn tmps p asg bod D .ready))::[outA b7 (out++[i])])) :
  Spec 314 [.func (.yield lp) #[] #[],ptr bl,ptr bq,ptr bf,ptr bw] (obA lp (.loop (lpR fn tmps p asg bod D .ready))::outA b7 []::baL q size bl bq bf bw v pe lim 0 R) fun u L'=>L'=obA lp (.loop (lpR fn tmps p asg bod D .ready))::outA b7 (pe.take (actN W lim pe))::rgnA q size pe::R:=by
 have hN:=bgGo_true W lim pe
 generalize actN W lim pe=N at *
 (intro G w M;refine sx_enter (vs:=([.func (.yield lp) #[] #[],ptr bl,ptr bq,ptr bf,ptr bw]:List Value)) Tryz.func314 (n:=38) rfl rfl rfl rfl ?_;intro a F;(try simp only[zc,zn] at M))
 have hG:GS (R++G) 1 v W.length (W.flatMap u64L):=Gives.app hg
 (repeat'(first|(first|refine sx_nil ?_|fail);try replace F:=F.filt zk97 rfl|refine zn1 F M ?_;clear F M a;(try clear w);intro a w F M|((first|refine svC F M ?_|fail);(((refine acW (k:=315) (budget_spec lim _) ?_);rintro u L' ⟨b3,b4,b1,rfl,rfl⟩));(first|clear F M a;intro a w F M|fail))|refine zT F ?_|refine zY ?_;go_step|fail))
 refine svLoop F M ((0,0,true):Nat × Int × Bool) (fun s=>[]) (fun s=>outA b7 (pe.take s.1)::pt bf [.int .i64 (s.1:Int)] 3::bgL b3 b4 b1 s.2.1 lim s.2.2 []) (fun s=>s.1≤pe.length∧s.1+bgGo W lim s.2.1 s.2.2 (pe.drop s.1)=N∧U64 s.2.1∧(s.2.2=true→s.2.1=0)) (fun s=>pe.length - s.1) [7,8] ⟨Nat.zero_le _,by simpa using hN,⟨by decide,by decide⟩,fun _=>rfl⟩ ?_ (hR:=by simp only[List.take_zero];(repeat (first|exact Pulls.nil|(apply Pulls.cons;(focus ((repeat (first|exact Pull.here|apply Pull.there));done))))))
 (rintro⟨k,sum,first⟩ ⟨q1,q2,q3,q4⟩ a w F M;(try simp only[zc,zn] at F M q1 q2 q3 q4 ⊢))
 by_cases hk:k<pe.length
 ·obtain ⟨i,hi⟩:∃ i,pe[k]? = some i:=⟨pe[k],by simp[hk]⟩
  rw[drop_cons hi,bgGo] at q2
  have hwu:=wAt_u64 hW i
  have ht:pe.take (k+1)=pe.take k++[i]:=by rw[List.take_add_one,hi];rfl
  have hrd2:=hrd (pe.take k) i (by rw[List.length_take];omega)
  rw[← ht] at hrd2
  have hws:=fun (R:List Asn) hg vi hgi=>weights_spec W v R hg hW [i] vi hgi (by simp)
  rw[show addR ([i].map (wAt W))=(wAt W i,true) from addR_one hwu] at hws
  have hbg:=fun R=>budget1_spec b3 b4 b1 sum lim (wAt W i) first q3 hwu q4 R
  have hpk:=fun R=>rgn_peek q size pe k i hi R
  generalize wAt W i=x at *
  cases hb:bgOk sum lim x first
  ·rw[hb] at hbg q2
   simp only[Bool.false_eq_true,if_false] at hbg q2
   (repeat'(first|(refine li_nil ?_;(try(replace F:=F.filt zk97 rfl)))|(fail)|(refine lv1 F M (h:=?_);clear F a;intro a F)|(refine lv3 F M (h:=?_);clear M;intro w M)|(refine lv2 F M (h:=?_);clear F M a;intro nb a w F M)|(refine lvC F M (h:=?_);((first|((refine acK (k:=160) (hpk _) ?_);rintro u L' ⟨rfl,rfl⟩)|(refine acW (k:=211) (hws _ ?_ _ ?_) ?_;(exact gsA);(exact gs_own pullA);rintro u L' ⟨rfl,rfl⟩)|((refine acK (k:=336) (hbg _) ?_);rintro u L' ⟨rfl,rfl⟩)));(clear F M a;intro a w F M))|(refine lvK F (h:=?_);clear F a;intro a F)|((refine lvG F rfl (fun hg=>?_) (fun hg=>?_))<;>(rw[hg] at F;(try(exact no hg))))|((fail_if_success(with_reducible first|refine isI ?_|refine isL ?_));(first|with_reducible refine reg_out ?_|((with_reducible refine isK ?_);(first|refine svT F (h:=?_)|refine svF F (h:=?_)|((refine svB F (fun hc=>?_) (fun hc=>?_))<;>(try(exact no hc)))))|go_step))))
   all_goals refine zE F M ?_
   obtain rfl:N=k:=by omega
   exact⟨_,_,rfl,rfl,M.perms permsA⟩
  ·have hsx:=bgOk_u64 hb q4 q3 hwu
   rw[hb] at hbg q2
   simp only[if_true,Bool.not_true,Bool.and_false] at hbg q2
   (repeat'(first|(refine li_nil ?_;(try(replace F:=F.filt zk97 rfl)))|(((refine lvY1 F M hrd2 ?_);clear F M a;intro a w F M))|(refine lv1 F M (h:=?_);clear F a;intro a F)|(refine lv3 F M (h:=?_);clear M;intro w M)|(refine lv2 F M (h:=?_);clear F M a;intro nb a w F M)|(refine lvC F M (h:=?_);((first|((refine acK (k:=160) (hpk _) ?_);rintro u L' ⟨rfl,rfl⟩)|(refine acW (k:=211) (hws _ ?_ _ ?_) ?_;(exact gsA);(exact gs_own pullA);rintro u L' ⟨rfl,rfl⟩)|((refine acK (k:=336) (hbg _) ?_);rintro u L' ⟨rfl,rfl⟩)));(clear F M a;intro a w F M))|(refine lvK F (h:=?_);clear F a;intro a F)|((refine lvG F rfl (fun hg=>?_) (fun hg=>?_))<;>(rw[hg] at F;(try(exact no hg))))|((fail_if_success(with_reducible first|refine isI ?_|refine isL ?_));(first|with_reducible refine reg_out ?_|((with_reducible refine isK ?_);(first|refine svT F (h:=?_)|refine svF F (h:=?_)|((refine svB F (fun hc=>?_) (fun hc=>?_))<;>(try(exact no hc)))))|go_step))))
   refine sv_again F M (k+1,sum+x,false) kpA permsA ⟨by simp only;omega,by simp only;omega,hsx,by simp⟩ (by simp only;omega)
 ·obtain rfl:k=pe.length:=by omega
  rw[List.drop_length,bgGo] at q2
  obtain rfl:N=pe.length:=by omega
  have hpk:=fun R=>rgn_peek0 q size pe pe.length (Nat.le_refl _) (by omega) R
  (repeat'(first|(refine li_nil ?_;(try(replace F:=F.filt zk97 rfl)))|(fail)|(refine lv1 F M (h:=?_);clear F a;intro a F)|(refine lv3 F M (h:=?_);clear M;intro w M)|(refine lv2 F M (h:=?_);clear F M a;intro nb a w F M)|(refine lvC F M (h:=?_);(((refine acK (k:=160) (hpk _) ?_);rintro u L' ⟨rfl,rfl⟩));(clear F M a;intro a w F M))|(refine lvK F (h:=?_);clear F a;intro a F)|((refine lvG F rfl (fun hg=>?_) (fun hg=>?_))<;>(rw[hg] at F;(try(exact no hg))))|((fail_if_success(with_reducible first|refine isI ?_|refine isL ?_));(first|with_reducible refine reg_out ?_|((with_reducible refine isK ?_);(first|refine svT F (h:=?_)|refine svF F (h:=?_)|((refine svB F (fun hc=>?_) (fun hc=>?_))<;>(try(exact no hc)))))|go_step))))
  all_goals refine zE F M ?_
  exact⟨_,_,rfl,rfl,M.perms permsA⟩
end
section
variable (q size:Nat) (W:List Int) (hv:SlH) (R:List Asn) (hg:GS R 1 (sl hv) W.length (W.flatMap u64L)) (hW:∀ x∈W,U64 x) (pe:List Nat) (hpe:pe.length≤4096) (lim:Int)
theorem batch_spec (L:List Asn):Spec 275 [ptr q,.int .i64 0,.int .u64 lim,sl hv] L fun u L'=>∃ bl bq bf bw,u=.func (.func 314) #[] #[ptr bl,ptr bq,ptr bf,ptr bw]∧L'=pt bl [.int .u64 lim] 23::pt bq [ptr q] 125::pt bf [.int .i64 0] 3::pt bw [sl hv] 152::L:=by
 (intro G w M;refine sx_enter (vs:=([ptr q,.int .i64 0,.int .u64 lim,sl hv]:List Value)) Tryz.func275 (n:=10) rfl rfl rfl rfl ?_;intro a F;(try simp only[zc,zn] at M))
 (repeat'(first|(first|refine sx_nil ?_|fail);try replace F:=F.filt zk71 rfl|refine zn1 F M ?_;clear F M a;(try clear w);intro a w F M|refine sv2 F M ?_;clear F M a;intro nb a w F M|refine zT F ?_|refine zY ?_;go_step|fail))
 all_goals refine zE F M ?_
 all_goals exact⟨_,_,rfl,⟨_,_,_,_,rfl,rfl⟩,M.perms permsA⟩
include hg hW hpe in
theorem act_spec:Spec 197 [ptr q,.int .u64 lim,sl hv] (rgnA q size pe::R) fun u L'=>∃ h,u=sl h∧L'=ownT 3 natL 1 (sl h) (pe.take (actN W lim pe))::rgnA q size (pe.drop (actN W lim pe))::R:=by
 have hNl:=actN_le W lim pe
 intro G w M
 refine sx_enterM (vs:=([ptr q,.int .u64 lim,sl hv]:List Value)) Tryz.func197 (n:=26) rfl rfl rfl rfl ?_
 intro a F
 (try simp only[zc,zn] at M)
 have hG:GS (R++G) 1 (sl hv) W.length (W.flatMap u64L):=Gives.app hg
 (repeat'(first|(first|refine sx_nil ?_|fail);try replace F:=F.filt zk98 rfl|refine zn1 F M ?_;clear F M a;(try clear w);intro a w F M|refine sv2 F M ?_;clear F M a;intro nb a w F M|((first|refine svC F M ?_|fail);(((refine acW (k:=275) (batch_spec q hv lim _) ?_);rintro u L' ⟨bl,bq,bf,bw,rfl,rfl⟩));(first|clear F M a;intro a w F M|fail))|refine zT F ?_|refine zY ?_;go_step|fail))
 have M0:=M.own_nil 3 1
 have M1:Mem w (outA nb []::baL q size bl bq bf bw (sl hv) pe lim 0 (R++G)):=out_close (h:=nilH) (M0.perms permsA)
 clear M M0
 refine rf_range F M1 (g:=.tmp 12) rfl inferInstance (C:=fun L2=>L2=outA nb (pe.take (actN W lim pe))::rgnA q size pe::(R++G)) (fun fn lp D=>?_) (fun D w' L2 hC M2=>?_)
 ·refine Spec.mono (batch1_spec q size bl bq bf bw nb W (sl hv) (R++G) hG hW pe hpe lim lp fn a.tmps 13 D _ _ (fun out i ho=>?_)) ?_
  ·refine round_mk F rfl fun G2 a w F M=>?_
   refine reg_in ?_
   (repeat'(first|(refine li_nil ?_;(try(replace F:=F.filt zk98 rfl)))|(refine lv1 F M (h:=?_);clear F a;intro a F)|(refine lv3 F M (h:=?_);clear M;intro w M)|(refine lv2 F M (h:=?_);clear F M a;intro nb a w F M)|(refine lvC F M (h:=?_);(((refine acK (k:=160) (hpk _) ?_);rintro u L' ⟨rfl,rfl⟩));(clear F M a;intro a w F M))|(refine lvK F (h:=?_);clear F a;intro a F)|((refine lvG F rfl (fun hg=>?_) (fun hg=>?_))<;>(rw[hg] at F;(try(exact no hg))))))
   refine⟨outA nb out::G2,by simpa using M,fun w M=>?_⟩
   refine wpIn_block (reg_in ?_)
   obtain ⟨h,M2⟩:=out_open M.swap
   clear M;have M:=M2;clear M2
   (repeat'(first|(refine li_nil ?_;(try(replace F:=F.filt zk98 rfl)))|(refine lv1 F M (h:=?_);clear F a;intro a F)|(refine lv3 F M (h:=?_);clear M;intro w M)|(refine lv2 F M (h:=?_);clear F M a;intro nb a w F M)|(refine lvC F M (h:=?_);((refine ac_appendH (f:=natL) (xs:=out) (ys:=[i]) rfl rfl inferInstance rfl rfl pullA inferInstance gsA rfl rfl (by simp;omega) ?_;intro nv));(clear F M a;intro a w F M))|(refine lvK F (h:=?_);clear F a;intro a F)|((refine lvG F rfl (fun hg=>?_) (fun hg=>?_))<;>(rw[hg] at F;(try(exact no hg))))))
   exact⟨rfl,(out_close (h:=nv) (M.perms permsA)).perms permsA⟩
  ·rintro u L' rfl
   exact⟨_,rfl,rfl⟩
 ·subst hC
  clear M1
  obtain ⟨h,M3⟩:=out_open (M2.perms (permsA:Perms _ (outA nb (pe.take (actN W lim pe))::obA D (.deferred (some []))::rgnA q size pe::(R++G))))
  clear M2;have M:=M3;clear M3
  obtain ⟨N,hN⟩:∃ N,actN W lim pe=N:=⟨_,rfl⟩
  rw[hN] at M hNl
  have htl:(pe.take N).length=N:=by rw[List.length_take];omega
  (repeat'(first|(first|refine sx_nil ?_|fail);try replace F:=F.filt zk98 rfl|refine zn1 F M ?_;clear F M a;(try clear w);intro a w F M|((fail_if_success(with_reducible first|refine isW ?_|refine isP ?_|refine isL ?_));(first|with_reducible refine regL_sh ?_|go_step))))
  rw[htl] at F
  refine svLoopS F M (0:Nat) (fun k=>[(20,.int .i64 k)]) (fun k=>[rgnA q size (pe.drop k)]) (fun k=>k≤N) (fun k=>N - k) [] (Nat.zero_le _) ?_ (hR:=by simp only[List.drop_zero];(repeat (first|exact Pulls.nil|(apply Pulls.cons;(focus ((repeat (first|exact Pull.here|apply Pull.there));done))))))
  (rintro k q1 a w F M;(try simp only[zc,zn] at F M q1 ⊢))
  by_cases hk:k<N
  ·obtain ⟨x,hx⟩:∃ x,pe[k]? = some x:=⟨pe[k]'(by omega),by rw[List.getElem?_eq_getElem]⟩
   rw[drop_cons hx] at M
   have dk:decide ((k:Int)<(N:Int))=true:=by simpa using hk
   (repeat'(first|(first|refine sx_nil ?_|fail);try replace F:=F.filt zk98 rfl|refine zn1 F M ?_;clear F M a;(try clear w);intro a w F M|((fail_if_success(with_reducible first|refine isW ?_|refine isP ?_|refine isL ?_));(first|with_reducible refine regL_sh ?_|go_step))))
   refine svTS F dk ?_
   (repeat'(first|(first|refine sx_nil ?_|fail);try replace F:=F.filt zk98 rfl|refine zn1 F M ?_;clear F M a;(try clear w);intro a w F M|((first|refine svC F M ?_|fail);(((refine acK (k:=276) (rgn_pop q size x (pe.drop (k+1)) _) ?_);rintro u L' ⟨rfl,rfl⟩));(first|clear F M a;intro a w F M|fail))|((fail_if_success(with_reducible first|refine isW ?_|refine isP ?_|refine isL ?_));(first|with_reducible refine regL_sh ?_|go_step))))
   exact sv_againS F M (k+1) kpA permsA (by omega) (by omega)
  ·obtain rfl:k=N:=by omega
   have dk:decide ((k:Int)<(k:Int))=false:=by simp
   (repeat'(first|(first|refine sx_nil ?_|fail);try replace F:=F.filt zk98 rfl|refine zn1 F M ?_;clear F M a;(try clear w);intro a w F M|((fail_if_success(with_reducible first|refine isW ?_|refine isP ?_|refine isL ?_));(first|with_reducible refine regL_sh ?_|go_step))))
   refine svFS F dk ?_
   (repeat'(first|(first|refine sx_nil ?_|fail);try replace F:=F.filt zk98 rfl|refine zn1 F M ?_;clear F M a;(try clear w);intro a w F M|((fail_if_success(with_reducible first|refine isW ?_|refine isP ?_|refine isL ?_));(first|with_reducible refine regL_sh ?_|go_step))))
   refine end_col F (M.perms (permsA:Perms _ (obA D (.deferred (some []))::ownT 3 natL 1 (sl h) (pe.take k)::rgnA q size (pe.drop k)::(R++G)))) ?_
   intro w' M2
   rw[← hN] at M2
   exact⟨_,_,rfl,⟨h,rfl,rfl⟩,M2⟩
end
end
def zk99:List Nat:=[0,1,3,4,5,22,36]
def zd100:List ZR:=[⟨1,[5,14],[],[(5,[6,7,8,9,10,11,12,13])],[0,1,2,3,4,6,7,8,9,10,11,12,13,5,14,15]⟩,⟨4,[9,10],[],[(9,[0,1,2,3])],[0,1,2,3,4,5,6,7,8,9,10,11]⟩]
def zk101:List Nat:=[0,1,3,4,5,6,21,31]
def zd102:List ZR:=[⟨2,[5,7],[],[(5,[6])],[0,1,2,3,4,6,5,7,8]⟩,⟨5,[5,6],[],[(5,[0,1,2,3])],[0,1,2,3,4,5,6,7]⟩]
section
open Go.RowKit
section
variable (b:Nat) (H:EH) (c:Cfg) (s:St) (hc:CfOk c) (hi:Inv c s) (R:List Asn)
include hc hi
theorem merge_u64:∀ x∈s.V,U64 x.bal:=fun x hx=>by
 obtain ⟨k1,k2,_⟩:=inv_sum c s hc hi
 have hm:x.bal∈bals s.V:=List.mem_map.2 ⟨x,hx,rfl⟩
 have:=sum_mem_le _ hi.bal0 _ hm
 exact⟨hi.bal0 _ hm,by omega⟩
theorem cons_spec (o:Opn):Spec 70 [ptr b,opV o] (engL b H c s R) fun u L'=>u=rsV (opMerge c s o.ix o.tg)∧L'=engL b H c (opMerge c s o.ix o.tg).s R:=by
 obtain ⟨k1,k2,k3,k4,k5,k6⟩:=inv_sum c s hc hi
 have hl3:s.V.length≤4096:=by omega
 have hsz:qS c≤4096:=k6
 obtain ⟨l1,l2,l3,l4,l5⟩:=hi.ql
 have hU:=merge_u64 c s hc hi
 obtain ⟨ok,i,j,x⟩:=o
 have hrq:=fun (R:List Asn) (h:SlH) hg=>mreq_spec s.V (sl h) c R hg (by omega) hU i j
 unfold opMerge
 have hz:=fun (h:merR c s.V i j=0)=>merR_zero h
 obtain ⟨X,hX⟩:∃ X,merR c s.V i j=X:=⟨_,rfl⟩
 simp only[hX] at hrq hz ⊢
 by_cases h0:X=0
 ·obtain ⟨y,z,i0,j0,hne,hy,hz2,_⟩:=hz h0
  subst h0
  simp only[ne_eq,not_true_eq_false,if_false]
  obtain ⟨n,rfl⟩:∃ n:Nat,i=n:=⟨i.toNat,by omega⟩
  obtain ⟨m,rfl⟩:∃ m:Nat,j=m:=⟨j.toNat,by omega⟩
  simp only[Int.toNat_natCast]
  by_cases hq:c.queueSize≤s.me.length
  ·rw[if_pos hq]
   have hqq:s.me.length=qS c:=by omega
   (intro G w M;refine sx_enter (vs:=([ptr b,opV ⟨ok,n,m,x⟩]:List Value)) Tryz.func70 (n:=41) rfl rfl rfl rfl ?_;intro a F;(try simp only[zc,zn] at M))
   (repeat'(first|(first|refine sx_nil ?_|refine pv_nil ?_;intro a w F M);try replace F:=F.filt zk99 rfl|refine zn1 F M ?_;clear F M a;(try clear w);intro a w F M|refine sv2 F M ?_;clear F M a;intro nb a w F M|refine zp1 ?_|refine zp2 ?_;intro nb|((first|refine svC F M ?_|refine pvC ?_|fail);((first|((refine acK (k:=78) (reg_all H.rg c.capacity s.V hl3 _) ?_);rintro u L' ⟨hv,rfl,rfl⟩)|(refine acW (k:=153) (hrq _ hv ?_) ?_;(exact gs_own pullA);rintro u L' ⟨rfl,rfl⟩)|((refine acW (k:=72) (efail_spec _ _) ?_);rintro u L' ⟨rfl,rfl⟩)|(refine acCall (k:=154) ?_;refine Spec.pre (L':=rgpA H.me (qS c) s.me::_) ?_ permsA;refine Spec.mono (rgp_pushF H.me (qS c) s.me (n,m) ⟨some ⟨nb,0,none⟩,1,1⟩ _ (by(apply gs_own;(focus ((repeat (first|exact Pull.here|fail));done)))) ⟨rfl,Nat.le_refl 1⟩ hqq hsz) ?_;rintro u L' ⟨rfl,rfl⟩)));(first|refine⟨rvsA,?_⟩|clear F M a;intro a w F M|fail))|refine zT F ?_|((with_reducible refine isD ?_);((refine zD zd100 F M ?_;clear F M a w)))|refine zY ?_;go_step|fail))
   all_goals exact zX F M
  ·rw[if_neg hq]
   have hqq:s.me.length<qS c:=by omega
   (intro G w M;refine sx_enter (vs:=([ptr b,opV ⟨ok,n,m,x⟩]:List Value)) Tryz.func70 (n:=41) rfl rfl rfl rfl ?_;intro a F;(try simp only[zc,zn] at M))
   (repeat'(first|(first|refine sx_nil ?_|refine pv_nil ?_;intro a w F M);try replace F:=F.filt zk99 rfl|refine zn1 F M ?_;clear F M a;(try clear w);intro a w F M|refine sv2 F M ?_;clear F M a;intro nb a w F M|refine zp1 ?_|refine zp2 ?_;intro nb|((first|refine svC F M ?_|refine pvC ?_|fail);((first|((refine acK (k:=78) (reg_all H.rg c.capacity s.V hl3 _) ?_);rintro u L' ⟨hv,rfl,rfl⟩)|(refine acW (k:=153) (hrq _ hv ?_) ?_;(exact gs_own pullA);rintro u L' ⟨rfl,rfl⟩)|((refine acW (k:=145) (edone_spec _ _ _) ?_);rintro u L' ⟨rfl,rfl⟩)|(refine acCall (k:=154) ?_;refine Spec.pre (L':=rgpA H.me (qS c) s.me::_) ?_ permsA;refine Spec.mono (rgp_push H.me (qS c) s.me (n,m) ⟨some ⟨nb,0,none⟩,1,1⟩ _ (by(apply gs_own;(focus ((repeat (first|exact Pull.here|fail));done)))) ⟨rfl,Nat.le_refl 1⟩ hqq hsz) ?_;rintro u L' ⟨rfl,rfl⟩)));(first|refine⟨rvsA,?_⟩|clear F M a;intro a w F M|fail))|refine zT F ?_|((with_reducible refine isD ?_);((refine zD zd100 F M ?_;clear F M a w)))|refine zY ?_;go_step|fail))
   all_goals exact zX F M
 ·rw[if_pos h0]
  have hd0:decide (X=0)=false:=by simpa using h0
  ((intro G w M;refine sx_enter (vs:=([ptr b,opV ⟨ok,i,j,x⟩]:List Value)) Tryz.func70 (n:=41) rfl rfl rfl rfl ?_;intro a F;(try simp only[zc,zn] at M)))
  (repeat'(first|(first|refine sx_nil ?_|refine pv_nil ?_;intro a w F M);try replace F:=F.filt zk99 rfl|refine zn1 F M ?_;clear F M a;(try clear w);intro a w F M|refine sv2 F M ?_;clear F M a;intro nb a w F M|refine zp1 ?_|((first|refine svC F M ?_|refine pvC ?_|fail);((first|((refine acK (k:=78) (reg_all H.rg c.capacity s.V hl3 _) ?_);rintro u L' ⟨hv,rfl,rfl⟩)|(refine acW (k:=153) (hrq _ hv ?_) ?_;(exact gs_own pullA);rintro u L' ⟨rfl,rfl⟩)|((refine acW (k:=72) (efail_spec _ _) ?_);rintro u L' ⟨rfl,rfl⟩)|fail));(first|refine⟨rvsA,?_⟩|clear F M a;intro a w F M|fail))|refine zT F ?_|((with_reducible refine isK ?_);refine svB F ?_ ?_<;>intro hc<;>try exact no hc)|((with_reducible refine isD ?_);((refine zD zd100 F M ?_;clear F M a w)))|refine zY ?_;go_step|fail))
  all_goals first
   | (refine zE F M ?_;exact⟨_,_,rfl,⟨by simp[rsV,rsI,no',h0,tupOf],rfl⟩,M.perms permsA⟩)
   | (exfalso;simp_all;done)
theorem part_spec (o:Opn) (ho:U64 o.am):Spec 71 [ptr b,opV o] (engL b H c s R) fun u L'=>u=rsV (opPart c s o.ix o.am)∧L'=engL b H c (opPart c s o.ix o.am).s R:=by
 obtain ⟨k1,k2,k3,k4,k5,k6⟩:=inv_sum c s hc hi
 have hl3:s.V.length≤4096:=by omega
 have hsz:qS c≤4096:=k6
 obtain ⟨l1,l2,l3,l4,l5⟩:=hi.ql
 obtain ⟨ok,i,j,x⟩:=o
 have hrq:=fun (R:List Asn) (h:SlH) hg=>pcheck_spec s.V (sl h) R hg (by omega) i x
 unfold opPart
 have hz:parC s.V i x=0→0≤i:=fun h=>by
  unfold parC at h
  split at h
  ·cases h
  ·omega
 obtain ⟨X,hX⟩:∃ X,parC s.V i x=X:=⟨_,rfl⟩
 simp only[hX] at hrq hz ⊢
 by_cases h0:X=0
 ·have i0:=hz h0
  subst h0
  simp only[ne_eq,not_true_eq_false,if_false]
  obtain ⟨n,rfl⟩:∃ n:Nat,i=n:=⟨i.toNat,by omega⟩
  simp only[Int.toNat_natCast]
  by_cases hq:c.queueSize≤s.pa.length
  ·rw[if_pos hq]
   have hqq:s.pa.length=qS c:=by omega
   (intro G w M;refine sx_enter (vs:=([ptr b,opV ⟨ok,n,j,x⟩]:List Value)) Tryz.func71 (n:=36) rfl rfl rfl rfl ?_;intro a F;(try simp only[zc,zn] at M))
   (repeat'(first|(first|refine sx_nil ?_|refine pv_nil ?_;intro a w F M);try replace F:=F.filt zk101 rfl|refine zn1 F M ?_;clear F M a;(try clear w);intro a w F M|refine sv2 F M ?_;clear F M a;intro nb a w F M|refine zp1 ?_|refine zp2 ?_;intro nb|((first|refine svC F M ?_|refine pvC ?_|fail);((first|((refine acK (k:=78) (reg_all H.rg c.capacity s.V hl3 _) ?_);rintro u L' ⟨hv,rfl,rfl⟩)|(refine acW (k:=155) (hrq _ hv ?_) ?_;(exact gs_own pullA);rintro u L' ⟨rfl,rfl⟩)|((refine acW (k:=72) (efail_spec _ _) ?_);rintro u L' ⟨rfl,rfl⟩)|(refine acCall (k:=156) ?_;refine Spec.pre (L':=rgqA H.pa (qS c) s.pa::_) ?_ permsA;refine Spec.mono (rgq_pushF H.pa (qS c) s.pa (n,x) ⟨some ⟨nb,0,none⟩,1,1⟩ _ (by(apply gs_own;(focus ((repeat (first|exact Pull.here|fail));done)))) ⟨rfl,Nat.le_refl 1⟩ hqq hsz) ?_;rintro u L' ⟨rfl,rfl⟩)));(first|refine⟨rvsA,?_⟩|clear F M a;intro a w F M|fail))|refine zT F ?_|((with_reducible refine isD ?_);((refine zD zd102 F M ?_;clear F M a w)))|refine zY ?_;go_step|fail))
   all_goals exact zX F M
  ·rw[if_neg hq]
   have hqq:s.pa.length<qS c:=by omega
   (intro G w M;refine sx_enter (vs:=([ptr b,opV ⟨ok,n,j,x⟩]:List Value)) Tryz.func71 (n:=36) rfl rfl rfl rfl ?_;intro a F;(try simp only[zc,zn] at M))
   (repeat'(first|(first|refine sx_nil ?_|refine pv_nil ?_;intro a w F M);try replace F:=F.filt zk101 rfl|refine zn1 F M ?_;clear F M a;(try clear w);intro a w F M|refine sv2 F M ?_;clear F M a;intro nb a w F M|refine zp1 ?_|refine zp2 ?_;intro nb|((first|refine svC F M ?_|refine pvC ?_|fail);((first|((refine acK (k:=78) (reg_all H.rg c.capacity s.V hl3 _) ?_);rintro u L' ⟨hv,rfl,rfl⟩)|(refine acW (k:=155) (hrq _ hv ?_) ?_;(exact gs_own pullA);rintro u L' ⟨rfl,rfl⟩)|((refine acW (k:=145) (edone_spec _ _ _) ?_);rintro u L' ⟨rfl,rfl⟩)|(refine acCall (k:=156) ?_;refine Spec.pre (L':=rgqA H.pa (qS c) s.pa::_) ?_ permsA;refine Spec.mono (rgq_push H.pa (qS c) s.pa (n,x) ⟨some ⟨nb,0,none⟩,1,1⟩ _ (by(apply gs_own;(focus ((repeat (first|exact Pull.here|fail));done)))) ⟨rfl,Nat.le_refl 1⟩ hqq hsz) ?_;rintro u L' ⟨rfl,rfl⟩)));(first|refine⟨rvsA,?_⟩|clear F M a;intro a w F M|fail))|refine zT F ?_|((with_reducible refine isD ?_);((refine zD zd102 F M ?_;clear F M a w)))|refine zY ?_;go_step|fail))
   all_goals exact zX F M
 ·rw[if_pos h0]
  have hd0:decide (X=0)=false:=by simpa using h0
  ((intro G w M;refine sx_enter (vs:=([ptr b,opV ⟨ok,i,j,x⟩]:List Value)) Tryz.func71 (n:=36) rfl rfl rfl rfl ?_;intro a F;(try simp only[zc,zn] at M)))
  (repeat'(first|(first|refine sx_nil ?_|refine pv_nil ?_;intro a w F M);try replace F:=F.filt zk101 rfl|refine zn1 F M ?_;clear F M a;(try clear w);intro a w F M|refine sv2 F M ?_;clear F M a;intro nb a w F M|refine zp1 ?_|((first|refine svC F M ?_|refine pvC ?_|fail);((first|((refine acK (k:=78) (reg_all H.rg c.capacity s.V hl3 _) ?_);rintro u L' ⟨hv,rfl,rfl⟩)|(refine acW (k:=155) (hrq _ hv ?_) ?_;(exact gs_own pullA);rintro u L' ⟨rfl,rfl⟩)|((refine acW (k:=72) (efail_spec _ _) ?_);rintro u L' ⟨rfl,rfl⟩)|fail));(first|refine⟨rvsA,?_⟩|clear F M a;intro a w F M|fail))|refine zT F ?_|((with_reducible refine isK ?_);refine svB F ?_ ?_<;>intro hc<;>try exact no hc)|((with_reducible refine isD ?_);((refine zD zd102 F M ?_;clear F M a w)))|refine zY ?_;go_step|fail))
  all_goals first
   | (refine zE F M ?_;exact⟨_,_,rfl,⟨by simp[rsV,rsI,no',h0,tupOf],rfl⟩,M.perms permsA⟩)
   | (exfalso;simp_all;done)
end
end
end Go.Proofs.YtopbohbkhljjgaaGreat
