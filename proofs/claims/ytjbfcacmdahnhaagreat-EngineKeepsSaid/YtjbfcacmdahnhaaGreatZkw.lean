import Derived.Test.YtjbfcacmdahnhaaGreatZkv
set_option linter.unusedVariables false
set_option linter.unusedSimpArgs false
set_option linter.unusedSectionVars false
set_option maxRecDepth 100000
set_option maxHeartbeats 8000000
namespace Go.Proofs.YtjbfcacmdahnhaaGreat
section
open Go.RowKit
theorem eqs_pm (u v:Value) (xs ys:List Pm) {L:List Asn} (hu:GS L 3 u xs.length (xs.flatMap pmL)) (hv:GS L 3 v ys.length (ys.flatMap pmL)) :
  Reads 77 [u,v] (.bool (decide (xs=ys))) L:=by
 (intro K hK w M;refine sx_enter Tryz.func77 (n:=26) rfl rfl rfl rfl ?_;intro a F)
 replace hu:=hu.imp hK
 replace hv:=hv.imp hK
 have hlu:=hu.len_le M
 have hlv:=hv.len_le M
 by_cases hl:xs.length=ys.length
 ·have hR:decide (xs=ys)=decide (xs.drop 0=ys.drop 0):=by simp
  generalize decide (xs=ys)=R at *
  (try refine zI zk77 F M ?_;clear F M a;try clear w);(repeat'(first|refine zV (h:=⟨_,by(apply(rt_neqT (f:=pmL));(exact rfl);(exact rfl);(exact rfl);(exact inferInstance);(exact inferInstance)),?_⟩)|refine zA1 ?_;repeat intro(b:Nat)|refine zB ?_ ?_<;>intro hc<;>try exact no hc|refine zH ?_ ?_<;>(intro hg;rw[hg];try exact no hg)));all_goals try refine zO fun a w F M=>?_
  refine sv_loop (σ:=Nat) (fun s=>[(0,u),(1,v),(12,.int .i64 xs.length),(13,.int .i64 s)]) (fun _=>K) (fun s=>s≤xs.length∧R=decide (xs.drop s=ys.drop s)) (fun s=>xs.length - s) F M 0 kpA permsA ⟨by omega,hR⟩ ?_
  rintro k ⟨h1,h2⟩ a w F M
  try simp only at h1 h2 F ⊢
  by_cases hlt:k<xs.length
  ·obtain ⟨x,hx⟩:∃ x,xs[k]? = some x:=⟨xs[k],by simp[hlt]⟩
   obtain ⟨y,hy⟩:∃ y,ys[k]? = some y:=⟨ys[k]'(by omega),by rw[List.getElem?_eq_getElem (by omega)]⟩
   rw[drop_cons hx,drop_cons hy] at h2
   by_cases he:x=y
   ·subst he
    (try refine zI zk77 F M ?_;clear F M a;try clear w);(repeat'(first|refine zV (h:=⟨_,by(apply(rt_neqT (f:=pmL));(exact rfl);(exact rfl);(exact rfl);(exact inferInstance);(exact inferInstance)),?_⟩)|refine zA1 ?_;repeat intro(b:Nat)|refine zB ?_ ?_<;>intro hc<;>try exact no hc|refine zH ?_ ?_<;>(intro hg;rw[hg];try exact no hg)));all_goals try refine zO fun a w F M=>?_
    (refine sv_again F M (k+1) kpA permsA ?_ ?_)
    ·exact⟨by omega,by rw[h2];simp⟩
    ·omega
   ·(try refine zI zk77 F M ?_;clear F M a;try clear w);(repeat'(first|refine zV (h:=⟨_,by(apply(rt_neqT (f:=pmL));(exact rfl);(exact rfl);(exact rfl);(exact inferInstance);(exact inferInstance)),?_⟩)|refine zA1 ?_;repeat intro(b:Nat)|refine zB ?_ ?_<;>intro hc<;>try exact no hc|refine zH ?_ ?_<;>(intro hg;rw[hg];try exact no hg)));all_goals try refine zO fun a w F M=>?_
    (all_goals((first|(refine svEnd F M ?_)|(refine svRet F M ?_));refine⟨?_,M.perms permsA⟩))
    rw[h2];simp[tupOf,he]
  ·(try refine zI zk77 F M ?_;clear F M a;try clear w);(repeat'(first|refine zV (h:=⟨_,by(apply(rt_neqT (f:=pmL));(exact rfl);(exact rfl);(exact rfl);(exact inferInstance);(exact inferInstance)),?_⟩)|refine zA1 ?_;repeat intro(b:Nat)|refine zB ?_ ?_<;>intro hc<;>try exact no hc|refine zH ?_ ?_<;>(intro hg;rw[hg];try exact no hg)));all_goals try refine zO fun a w F M=>?_
   (all_goals((first|(refine svEnd F M ?_)|(refine svRet F M ?_));refine⟨?_,M.perms permsA⟩))
   rw[h2,List.drop_of_length_le (by omega),List.drop_of_length_le (by omega)];rfl
 ·have hne:xs≠ys:=fun e=>hl (by rw[e])
  have hl':¬((xs.length:Int)=(ys.length:Int)):=by omega
  (try refine zI zk77 F M ?_;clear F M a;try clear w);(repeat'(first|refine zV (h:=⟨_,by(apply(rt_neqT (f:=pmL));(exact rfl);(exact rfl);(exact rfl);(exact inferInstance);(exact inferInstance)),?_⟩)|refine zA1 ?_;repeat intro(b:Nat)|refine zB ?_ ?_<;>intro hc<;>try exact no hc|refine zH ?_ ?_<;>(intro hg;rw[hg];try exact no hg)));all_goals try refine zO fun a w F M=>?_
  (all_goals((first|(refine svEnd F M ?_)|(refine svRet F M ?_));refine⟨?_,M.perms permsA⟩))
  simp[tupOf,hne]
end
section
open Go.RowKit
abbrev tkO:Opn:=⟨7,0,0,0⟩
def exO:List Opn:=[⟨1,0,0,32⟩,tkO,tkO,tkO,tkO]
def exS1:St:=(runM Cfg.deflt St.ini exO).2
def exR:Rc × St:=stepM Cfg.deflt exS1 ⟨2,0,0,0⟩
def tN (s:St):Nat→St
 | 0=>s
 | k+1=>(stepM Cfg.deflt (tN s k) tkO).2
theorem ex_c:exR.1.c=0:=by kernel_rfl
theorem ex_dl:exR.1.dl=8:=by kernel_rfl
theorem ex_no:((List.range 15).all fun k=>(stepM Cfg.deflt (tN exR.2 k) tkO).1.pms.isEmpty)=true:=by kernel_rfl
theorem ex_ep:(stepM Cfg.deflt (tN exR.2 15) tkO).1.ep=5:=by kernel_rfl
theorem ex_bk:(stepM Cfg.deflt (tN exR.2 15) tkO).1.bk=20:=by kernel_rfl
theorem ex_pm:(stepM Cfg.deflt (tN exR.2 15) tkO).1.pms=[⟨0,32,true⟩]:=by kernel_rfl
theorem ex_ck:checkF Cfg.deflt=0:=by kernel_rfl
theorem runM_inv {c:Cfg} (hc:CfOk c):∀ (l:List Opn) {s:St},Inv c s→s.bk+l.length<1000000000→(∀ o∈l,U64 o.am)→Inv c (runM c s l).2∧(runM c s l).2.bk≤s.bk+l.length
 | [],s,h,_,_=>⟨h,Nat.le_refl _⟩
 | o::r,s,h,hb,ho=>by
  rw[List.length_cons] at hb
  obtain ⟨h1,h2⟩:=stepM_inv hc h (by omega) o (ho o (by simp))
  obtain ⟨h3,h4⟩:=runM_inv hc r h1 (by omega) fun x hx=>ho x (by simp[hx])
  rw[runM_cons,List.length_cons]
  exact⟨h3,by simp only;omega⟩
theorem cfD:CfOk Cfg.deflt:=cfOk_of ex_ck (by decide) (by decide)
theorem exO_wf:∀ o∈exO,I64 o.k∧U64 o.am:=by
 intro o ho
 simp only[exO,List.mem_cons,List.not_mem_nil,or_false] at ho
 rcases ho with rfl|rfl|rfl|rfl|rfl<;>exact⟨⟨by decide,by decide⟩,⟨by decide,by decide⟩⟩
theorem exS1_inv:Inv Cfg.deflt exS1∧exS1.bk≤5:=by
 have:=runM_inv cfD exO (Inv.ini cfD) (by decide) fun o ho=>(exO_wf o ho).2
 exact⟨this.1,Nat.le_trans this.2 (by decide)⟩
theorem exR_inv:Inv Cfg.deflt exR.2∧exR.2.bk≤6:=by
 obtain ⟨h1,h2⟩:=exS1_inv
 have:=stepM_inv cfD h1 (by omega) ⟨2,0,0,0⟩ ⟨by decide,by decide⟩
 exact⟨this.1,by have:=this.2;unfold exR;omega⟩
theorem tN_inv {s:St} (h:Inv Cfg.deflt s) (hb:s.bk≤6):∀ k:Nat,k≤100→Inv Cfg.deflt (tN s k)∧(tN s k).bk≤6+k
 | 0,_=>⟨h,hb⟩
 | k+1,hk=>by
  obtain ⟨h1,h2⟩:=tN_inv h hb k (by omega)
  have:=stepM_inv cfD h1 (by omega) tkO ⟨by decide,by decide⟩
  exact⟨this.1,by have:=this.2;simp only[tN];omega⟩
theorem alive22_spec (R:List Asn):Spec 25 [] R fun u L'=>u=.bool true∧L'=R:=by
 have hdf:=fun R=>default_spec R
 have hnw:=fun R=>eng_new Cfg.deflt cfD ex_ck R
 have hrun:∀ (b:Nat) (H:EH) (v:Value) (R:List Asn),GS R 4 v 5 (exO.flatMap opL)→Spec 28 [ptr b,v] (engL b H Cfg.deflt St.ini R) fun u L'=>∃ hr H' xs,(u=sl hr∧xs.map (·.r)=(runM Cfg.deflt St.ini exO).1)∧L'=ownT 39 rsL 9 (sl hr) xs::rsA xs::engL b H' Cfg.deflt exS1 R:=fun b H v R hg=>run_spec b H Cfg.deflt St.ini R cfD (Inv.ini cfD) v exO hg (by decide) (by decide) exO_wf
 obtain ⟨i1,i2⟩:=exS1_inv
 obtain ⟨j1,j2⟩:=exR_inv
 have hex:∀ (b:Nat) (H:EH) (R:List Asn),Spec 26 [ptr b,opV ⟨2,0,0,0⟩] (engL b H Cfg.deflt exS1 R) fun u L'=>∃ ha hp H',u=rcV exR.1 ha hp∧L'=ownT 75 asgL 3 (sl ha) exR.1.asg::ownT 57 pmL 3 (sl hp) exR.1.pms::engL b H' Cfg.deflt exR.2 R:=fun b H R=>apply_spec b H Cfg.deflt exS1 R cfD i1 (by omega) ⟨2,0,0,0⟩ ⟨by decide,by decide⟩ ⟨by decide,by decide⟩
 have htk:∀ (k:Nat),k≤15→∀ (b:Nat) (H:EH) (R:List Asn),Spec 26 [ptr b,opV tkO] (engL b H Cfg.deflt (tN exR.2 k) R) fun u L'=>∃ ha hp H',u=rcV (stepM Cfg.deflt (tN exR.2 k) tkO).1 ha hp∧L'=ownT 75 asgL 3 (sl ha) (stepM Cfg.deflt (tN exR.2 k) tkO).1.asg::ownT 57 pmL 3 (sl hp) (stepM Cfg.deflt (tN exR.2 k) tkO).1.pms::engL b H' Cfg.deflt (tN exR.2 (k+1)) R:=fun k hk b H R=>by
  obtain ⟨t1,t2⟩:=tN_inv j1 j2 k (by omega)
  exact apply_spec b H Cfg.deflt (tN exR.2 k) R cfD t1 (by omega) tkO ⟨by decide,by decide⟩ ⟨by decide,by decide⟩
 have f1:=ex_c;have f2:=ex_dl;have f4:=ex_ep;have f5:=ex_bk;have f6:=ex_pm
 have f3:∀ k,k<15→(stepM Cfg.deflt (tN exR.2 k) tkO).1.pms=[]:=fun k hk=>by
  have:=List.all_eq_true.1 ex_no k (List.mem_range.2 hk)
  simpa using this
 clear i1 i2 j1 j2
 generalize exR=X at *
 obtain ⟨⟨x1,x2,x3,x4,x5,x6,x7,x8,x9⟩,s2⟩:=X
 simp only at hex htk f1 f2 f3 f4 f5 f6
 subst f1;subst f2
 obtain ⟨S,hS⟩:∃ S:Nat→St,S=tN s2:=⟨_,rfl⟩
 have hS0:s2=S 0:=by rw[hS];rfl
 simp only[← hS] at htk f3 f4 f5 f6
 rw[hS0] at hex
 obtain ⟨Y,hY⟩:∃ Y:Nat→Rc,Y=fun k=>(stepM Cfg.deflt (S k) tkO).1:=⟨_,rfl⟩
 have hYk:∀ k,(stepM Cfg.deflt (S k) tkO).1=Y k:=fun k=>by rw[hY]
 simp only[hYk] at htk f3 f4 f5 f6
 clear hY hYk hS hS0
 generalize exS1=s1 at *
 generalize Cfg.deflt=c0 at *
 refine zGz zk25 Tryz.func25 ?_;intro G;(repeat'(first|refine zA ?_;repeat intro nb|refine zC ?_;(first|refine kpW (k:=35) (hdf _) ?_|refine acW (k:=24) (hnw _) ?_;rintro u L' ⟨eb,H,rfl,rfl⟩|refine acK (L1:=engL eb H c0 St.ini _) (k:=28) (hrun _ _ _ _ ?_) ?_;apply gs_own;(focus ((repeat (first|exact Pull.here|apply Pull.there));done));rintro u L' ⟨hr,H1,xs,⟨rfl,hxs⟩,rfl⟩|refine acK (L1:=engL eb H1 c0 s1 _) (k:=26) (hex _ _ _) ?_;rintro u L' ⟨ha,hp,H2,rfl,rfl⟩)|refine zB ?_ ?_<;>intro hc<;>try exact no hc|refine zH ?_ ?_<;>(intro hg;rw[hg];try exact no hg)));all_goals try refine zO fun a w F M=>?_
 refine svLoop F M ((0,H2):Nat × EH) (fun z=>[(37,.int .i64 z.1)]) (fun z=>engL eb z.2 c0 (S z.1) []) (fun z=>z.1≤15) (fun z=>15 - z.1) [] (Nat.zero_le _) ?_ (hR:=by(repeat (first|exact Pulls.nil|(apply Pulls.cons;(focus ((repeat (first|exact Pull.here|apply Pull.there));done))))))
 (rintro⟨k,H3⟩ q1 a w F M;(try simp only[zc,zn] at F M q1 ⊢))
 by_cases hk:k<15
 ·have g3:=f3 k hk
  have ht:=fun b H R=>htk k (by omega) b H R
  generalize Y k=y at *
  obtain ⟨y1,y2,y3,y4,y5,y6,y7,y8,y9⟩:=y
  simp only at g3 ht
  subst g3
  (try refine zI zk25 F M ?_;clear F M a;try clear w);(repeat'(first|refine zV (h:=⟨_,by((exact rt_fieldV (ft:=37) (off:=7) rfl rfl (by kernel_rfl) inferInstance rfl)),?_⟩)|refine zA1 ?_;repeat intro(nb:Nat)|refine zC ?_;refine acK (L1:=engL eb H3 c0 (S k) _) (k:=26) (ht _ _ _) ?_;rintro u L' ⟨ha2,hp2,H4,rfl,rfl⟩|refine zB ?_ ?_<;>intro hc<;>try exact no hc|refine zH ?_ ?_<;>(intro hg;rw[hg];try exact no hg)));all_goals try refine zO fun a w F M=>?_
  exact sv_again F M (k+1,H4) kpA permsA (by simp only;omega) (by simp only;omega)
 obtain rfl:k=15:=by omega
 have ht:=fun b H R=>htk 15 (by omega) b H R
 generalize Y 15=y at *
 obtain ⟨y1,y2,y3,y4,y5,y6,y7,y8,y9⟩:=y
 simp only at f4 f5 f6 ht
 subst f4;subst f5;subst f6
 have hq:∀ {u v:Value} {L:List Asn},GS L 3 u 1 ([(⟨0,32,true⟩:Pm)].flatMap pmL)→GS L 3 v 1 ([(⟨0,32,true⟩:Pm)].flatMap pmL)→Reads 77 [u,v] (.bool true) L:=fun g1 g2=>by simpa using eqs_pm _ _ [(⟨0,32,true⟩:Pm)] [(⟨0,32,true⟩:Pm)] g1 g2
 (try refine zI zk25 F M ?_;clear F M a;try clear w);(repeat'(first|refine zA ?_;repeat intro nb|refine zC ?_;(first|refine acK (L1:=engL eb H3 c0 (S 15) _) (k:=26) (ht _ _ _) ?_;rintro u L' ⟨ha2,hp2,H4,rfl,rfl⟩|refine acCall (k:=77) ?_;refine Spec.of_reads (hq (gs_own pullA) (gs_own pullA)) rfl ?_)|refine zB ?_ ?_<;>intro hc<;>try exact no hc|refine zH ?_ ?_<;>(intro hg;rw[hg];try exact no hg)));all_goals try refine zO fun a w F M=>?_
 all_goals refine zE F M ?_
 exact⟨_,_,rfl,⟨rfl,rfl⟩,M.perms permsA⟩
end
section
open Go.RowKit
structure Fit (c:Cfg) (n:Nat):Prop where
 ck:checkF c=0
 ca:c.capacity≤100
 vi:c.visits≤200
 py:c.payments≤200
 me:c.merges≤200
 qs:c.queueSize≤200
 n:n≤400
section
variable (c:Cfg) (v:Value) (l:List Opn) (R:List Asn) (hg:GS R 4 v l.length (l.flatMap opL))
include hg
theorem fits_yes (h:Fit c l.length):Spec 8 [cfgV c,v] R fun u L'=>u=.int .i64 1∧L'=R:=by
 obtain ⟨h1,h2,h3,h4,h5,h6,h7⟩:=h
 have hck:=fun R=>rcheck_spec c R
 rw[h1] at hck
 refine zGo Tryz.func8 ?_;intro G w M a F
 have hG:GS (R++G) 4 v l.length (l.flatMap opL):=Gives.app hg
 (try refine zI zk8 F M ?_;clear F M a;try clear w);(repeat'(first|refine zA ?_;repeat intro nb|refine zC ?_;refine kpW (k:=34) (hck _) ?_|refine zB ?_ ?_<;>intro hc<;>try exact no hc|refine zH ?_ ?_<;>(intro hg;rw[hg];try exact no hg)));all_goals try refine zO fun a w F M=>?_
 all_goals refine zE F M ?_
 exact⟨_,_,rfl,⟨rfl,rfl⟩,M.perms permsA⟩
theorem fits_no (h:¬Fit c l.length):Spec 8 [cfgV c,v] R fun u L'=>u=.int .i64 0∧L'=R:=by
 have hck:=fun R=>rcheck_spec c R
 obtain ⟨x,hx⟩:∃ x:Int,(checkF c:Int)=x:=⟨_,rfl⟩
 simp only[hx] at hck
 refine zGo Tryz.func8 ?_;intro G w M a F
 have hG:GS (R++G) 4 v l.length (l.flatMap opL):=Gives.app hg
 (try refine zI zk8 F M ?_;clear F M a;try clear w);(repeat'(first|refine zA ?_;repeat intro nb|refine zC ?_;refine kpW (k:=34) (hck _) ?_|refine zB ?_ ?_<;>intro hc<;>try exact no hc|refine zH ?_ ?_<;>(intro hg;rw[hg];try exact no hg)));all_goals try refine zO fun a w F M=>?_
 all_goals first
  | (refine zE F M ?_;exact⟨_,_,rfl,⟨rfl,rfl⟩,M.perms permsA⟩)
  | (exfalso;apply h;simp only[decide_eq_false_iff_not] at *;exact⟨by omega,by omega,by omega,by omega,by omega,by omega,by omega⟩)
  | trace_state
end
end
section
open Go.RowKit
instance eqfP:EQF prL [.int,.int]:=⟨fun x y=>by
 obtain ⟨a,b⟩:=x;obtain ⟨d,e⟩:=y
 simp only[prL,cellsEq,scEq,if_true,Bool.and_true,Prod.mk.injEq,Option.some.injEq]
 rw[Bool.eq_iff_iff];simp;try omega⟩
theorem eqs_nat (u v:Value) (xs ys:List Nat) {L:List Asn} (hu:GS L 1 u xs.length (xs.flatMap natL)) (hv:GS L 1 v ys.length (ys.flatMap natL)) :
  Reads 63 [u,v] (.bool (decide (xs=ys))) L:=by
 (intro K hK w M;refine sx_enter Tryz.func63 (n:=26) rfl rfl rfl rfl ?_;intro a F)
 replace hu:=hu.imp hK
 replace hv:=hv.imp hK
 have hlu:=hu.len_le M
 have hlv:=hv.len_le M
 by_cases hl:xs.length=ys.length
 ·have hR:decide (xs=ys)=decide (xs.drop 0=ys.drop 0):=by simp
  generalize decide (xs=ys)=R at *
  (try refine zI zk63 F M ?_;clear F M a;try clear w);(repeat'(first|refine zV (h:=⟨_,by(apply(rt_neqT (f:=natL));(exact rfl);(exact rfl);(exact rfl);(exact inferInstance);(exact inferInstance)),?_⟩)|refine zA1 ?_;repeat intro(b:Nat)|refine zB ?_ ?_<;>intro hc<;>try exact no hc|refine zH ?_ ?_<;>(intro hg;rw[hg];try exact no hg)));all_goals try refine zO fun a w F M=>?_
  refine sv_loop (σ:=Nat) (fun s=>[(0,u),(1,v),(12,.int .i64 xs.length),(13,.int .i64 s)]) (fun _=>K) (fun s=>s≤xs.length∧R=decide (xs.drop s=ys.drop s)) (fun s=>xs.length - s) F M 0 kpA permsA ⟨by omega,hR⟩ ?_
  rintro k ⟨h1,h2⟩ a w F M
  try simp only at h1 h2 F ⊢
  by_cases hlt:k<xs.length
  ·obtain ⟨x,hx⟩:∃ x,xs[k]? = some x:=⟨xs[k],by simp[hlt]⟩
   obtain ⟨y,hy⟩:∃ y,ys[k]? = some y:=⟨ys[k]'(by omega),by rw[List.getElem?_eq_getElem (by omega)]⟩
   rw[drop_cons hx,drop_cons hy] at h2
   by_cases he:x=y
   ·subst he
    (try refine zI zk63 F M ?_;clear F M a;try clear w);(repeat'(first|refine zV (h:=⟨_,by(apply(rt_neqT (f:=natL));(exact rfl);(exact rfl);(exact rfl);(exact inferInstance);(exact inferInstance)),?_⟩)|refine zA1 ?_;repeat intro(b:Nat)|refine zB ?_ ?_<;>intro hc<;>try exact no hc|refine zH ?_ ?_<;>(intro hg;rw[hg];try exact no hg)));all_goals try refine zO fun a w F M=>?_
    (refine sv_again F M (k+1) kpA permsA ?_ ?_)
    ·exact⟨by omega,by rw[h2];simp⟩
    ·omega
   ·(try refine zI zk63 F M ?_;clear F M a;try clear w);(repeat'(first|refine zV (h:=⟨_,by(apply(rt_neqT (f:=natL));(exact rfl);(exact rfl);(exact rfl);(exact inferInstance);(exact inferInstance)),?_⟩)|refine zA1 ?_;repeat intro(b:Nat)|refine zB ?_ ?_<;>intro hc<;>try exact no hc|refine zH ?_ ?_<;>(intro hg;rw[hg];try exact no hg)));all_goals try refine zO fun a w F M=>?_
    (all_goals((first|(refine svEnd F M ?_)|(refine svRet F M ?_));refine⟨?_,M.perms permsA⟩))
    rw[h2];simp[tupOf,he]
  ·(try refine zI zk63 F M ?_;clear F M a;try clear w);(repeat'(first|refine zV (h:=⟨_,by(apply(rt_neqT (f:=natL));(exact rfl);(exact rfl);(exact rfl);(exact inferInstance);(exact inferInstance)),?_⟩)|refine zA1 ?_;repeat intro(b:Nat)|refine zB ?_ ?_<;>intro hc<;>try exact no hc|refine zH ?_ ?_<;>(intro hg;rw[hg];try exact no hg)));all_goals try refine zO fun a w F M=>?_
   (all_goals((first|(refine svEnd F M ?_)|(refine svRet F M ?_));refine⟨?_,M.perms permsA⟩))
   rw[h2,List.drop_of_length_le (by omega),List.drop_of_length_le (by omega)];rfl
 ·have hne:xs≠ys:=fun e=>hl (by rw[e])
  have hl':¬((xs.length:Int)=(ys.length:Int)):=by omega
  (try refine zI zk63 F M ?_;clear F M a;try clear w);(repeat'(first|refine zV (h:=⟨_,by(apply(rt_neqT (f:=natL));(exact rfl);(exact rfl);(exact rfl);(exact inferInstance);(exact inferInstance)),?_⟩)|refine zA1 ?_;repeat intro(b:Nat)|refine zB ?_ ?_<;>intro hc<;>try exact no hc|refine zH ?_ ?_<;>(intro hg;rw[hg];try exact no hg)));all_goals try refine zO fun a w F M=>?_
  (all_goals((first|(refine svEnd F M ?_)|(refine svRet F M ?_));refine⟨?_,M.perms permsA⟩))
  simp[tupOf,hne]
theorem eqs_pr (u v:Value) (xs ys:List (Nat × Nat)) {L:List Asn} (hu:GS L 2 u xs.length (xs.flatMap prL)) (hv:GS L 2 v ys.length (ys.flatMap prL)) :
  Reads 64 [u,v] (.bool (decide (xs=ys))) L:=by
 (intro K hK w M;refine sx_enter Tryz.func64 (n:=26) rfl rfl rfl rfl ?_;intro a F)
 replace hu:=hu.imp hK
 replace hv:=hv.imp hK
 have hlu:=hu.len_le M
 have hlv:=hv.len_le M
 by_cases hl:xs.length=ys.length
 ·have hR:decide (xs=ys)=decide (xs.drop 0=ys.drop 0):=by simp
  generalize decide (xs=ys)=R at *
  (try refine zI zk64 F M ?_;clear F M a;try clear w);(repeat'(first|refine zV (h:=⟨_,by(apply(rt_neqT (f:=prL));(exact rfl);(exact rfl);(exact rfl);(exact inferInstance);(exact inferInstance)),?_⟩)|refine zA1 ?_;repeat intro(b:Nat)|refine zB ?_ ?_<;>intro hc<;>try exact no hc|refine zH ?_ ?_<;>(intro hg;rw[hg];try exact no hg)));all_goals try refine zO fun a w F M=>?_
  refine sv_loop (σ:=Nat) (fun s=>[(0,u),(1,v),(12,.int .i64 xs.length),(13,.int .i64 s)]) (fun _=>K) (fun s=>s≤xs.length∧R=decide (xs.drop s=ys.drop s)) (fun s=>xs.length - s) F M 0 kpA permsA ⟨by omega,hR⟩ ?_
  rintro k ⟨h1,h2⟩ a w F M
  try simp only at h1 h2 F ⊢
  by_cases hlt:k<xs.length
  ·obtain ⟨x,hx⟩:∃ x,xs[k]? = some x:=⟨xs[k],by simp[hlt]⟩
   obtain ⟨y,hy⟩:∃ y,ys[k]? = some y:=⟨ys[k]'(by omega),by rw[List.getElem?_eq_getElem (by omega)]⟩
   rw[drop_cons hx,drop_cons hy] at h2
   by_cases he:x=y
   ·subst he
    (try refine zI zk64 F M ?_;clear F M a;try clear w);(repeat'(first|refine zV (h:=⟨_,by(apply(rt_neqT (f:=prL));(exact rfl);(exact rfl);(exact rfl);(exact inferInstance);(exact inferInstance)),?_⟩)|refine zA1 ?_;repeat intro(b:Nat)|refine zB ?_ ?_<;>intro hc<;>try exact no hc|refine zH ?_ ?_<;>(intro hg;rw[hg];try exact no hg)));all_goals try refine zO fun a w F M=>?_
    (refine sv_again F M (k+1) kpA permsA ?_ ?_)
    ·exact⟨by omega,by rw[h2];simp⟩
    ·omega
   ·(try refine zI zk64 F M ?_;clear F M a;try clear w);(repeat'(first|refine zV (h:=⟨_,by(apply(rt_neqT (f:=prL));(exact rfl);(exact rfl);(exact rfl);(exact inferInstance);(exact inferInstance)),?_⟩)|refine zA1 ?_;repeat intro(b:Nat)|refine zB ?_ ?_<;>intro hc<;>try exact no hc|refine zH ?_ ?_<;>(intro hg;rw[hg];try exact no hg)));all_goals try refine zO fun a w F M=>?_
    (all_goals((first|(refine svEnd F M ?_)|(refine svRet F M ?_));refine⟨?_,M.perms permsA⟩))
    rw[h2];simp[tupOf,he]
  ·(try refine zI zk64 F M ?_;clear F M a;try clear w);(repeat'(first|refine zV (h:=⟨_,by(apply(rt_neqT (f:=prL));(exact rfl);(exact rfl);(exact rfl);(exact inferInstance);(exact inferInstance)),?_⟩)|refine zA1 ?_;repeat intro(b:Nat)|refine zB ?_ ?_<;>intro hc<;>try exact no hc|refine zH ?_ ?_<;>(intro hg;rw[hg];try exact no hg)));all_goals try refine zO fun a w F M=>?_
   (all_goals((first|(refine svEnd F M ?_)|(refine svRet F M ?_));refine⟨?_,M.perms permsA⟩))
   rw[h2,List.drop_of_length_le (by omega),List.drop_of_length_le (by omega)];rfl
 ·have hne:xs≠ys:=fun e=>hl (by rw[e])
  have hl':¬((xs.length:Int)=(ys.length:Int)):=by omega
  (try refine zI zk64 F M ?_;clear F M a;try clear w);(repeat'(first|refine zV (h:=⟨_,by(apply(rt_neqT (f:=prL));(exact rfl);(exact rfl);(exact rfl);(exact inferInstance);(exact inferInstance)),?_⟩)|refine zA1 ?_;repeat intro(b:Nat)|refine zB ?_ ?_<;>intro hc<;>try exact no hc|refine zH ?_ ?_<;>(intro hg;rw[hg];try exact no hg)));all_goals try refine zO fun a w F M=>?_
  (all_goals((first|(refine svEnd F M ?_)|(refine svRet F M ?_));refine⟨?_,M.perms permsA⟩))
  simp[tupOf,hne]
end
section
open Go.RowKit
def engB (b:Nat) (c:Cfg) (s:St):Asn:=exA fun H:EH=>engL b H c s []
def snA (s:St) (h1 h2 h3 h4 h5 h6:SlH):Asn:=exA fun _:Unit=>[ownT 62 valL 7 (sl h1) s.V,ownT 3 natL 1 (sl h2) s.pe,ownT 3 natL 1 (sl h3) s.fo,ownT 3 natL 1 (sl h4) s.vo,ownT 77 prL 2 (sl h5) s.me,ownT 79 rqL 2 (sl h6) s.pa]
theorem Spec.conv {α:Type} {k:FuncId} {us:List Value} {L:List Asn} {C:Value→List Asn→Prop} {L1:α→List Asn} {D:α→Value→List Asn→Prop} (hs:∀ x,Spec k us (L1 x) (D x)) (hp:∀ G w,Mem w (L++G)→∃ x,Mem w (L1 x++G)) (hc:∀ x v L',D x v L'→∃ L2,C v L2∧∀ G w,Mem w (L'++G)→Mem w (L2++G)):Spec k us L C:=fun G w M=>by
 obtain ⟨x,M1⟩:=hp G w M
 exact(hs x G w M1).mono fun e w' ⟨v,L',he,hd,hm⟩=>by
  obtain ⟨L2,h1,h2⟩:=hc x v L' hd
  exact⟨v,L2,he,h1,h2 G w' hm⟩
section
variable (b:Nat) (c:Cfg) (s:St) (R:List Asn)
theorem newB (hc:CfOk c) (hk:checkF c=0):Spec 24 [cfgV c] R fun u L'=>∃ b,u=.tuple [ptr b,.int .i64 0].toArray∧L'=engB b c St.ini::R :=
 Spec.conv (α:=Unit) (fun _=>eng_new c hc hk R) (fun G w M=>⟨(),M⟩) fun _ v L' ⟨b,H,e,e2⟩=>⟨_,⟨b,e,rfl⟩,fun G w M=>by subst e2;exact Mem.exc (f:=fun H:EH=>engL b H c St.ini []) H M⟩
theorem snapB (hc:CfOk c) (hi:Inv c s):Spec 13 [ptr b] (engB b c s::R) fun u L'=>∃ h1 h2 h3 h4 h5 h6,u=snV (snOf c s h1 h2 h3 h4 h5 h6)∧L'=snA s h1 h2 h3 h4 h5 h6::engB b c s::R :=
 Spec.conv (fun H=>snap_spec b H c s hc hi R) (fun G w M=>Mem.exo (f:=fun H:EH=>engL b H c s []) M) fun H v L' ⟨h1,h2,h3,h4,h5,h6,e,e2⟩=>⟨_,⟨h1,h2,h3,h4,h5,h6,e,rfl⟩,fun G w M=>by
  subst e2
  have M2:Mem w (engL b H c s []++(ownT 62 valL 7 (sl h1) s.V::ownT 3 natL 1 (sl h2) s.pe::ownT 3 natL 1 (sl h3) s.fo::ownT 3 natL 1 (sl h4) s.vo::ownT 77 prL 2 (sl h5) s.me::ownT 79 rqL 2 (sl h6) s.pa::(R++G))):=M.perms permsA
  have M3:=(Mem.exc (f:=fun H:EH=>engL b H c s []) H M2).perms (permsA:Perms _ ([ownT 62 valL 7 (sl h1) s.V,ownT 3 natL 1 (sl h2) s.pe,ownT 3 natL 1 (sl h3) s.fo,ownT 3 natL 1 (sl h4) s.vo,ownT 77 prL 2 (sl h5) s.me,ownT 79 rqL 2 (sl h6) s.pa]++(engB b c s::(R++G))))
  exact Mem.exc (f:=fun _:Unit=>[ownT 62 valL 7 (sl h1) s.V,ownT 3 natL 1 (sl h2) s.pe,ownT 3 natL 1 (sl h3) s.fo,ownT 3 natL 1 (sl h4) s.vo,ownT 77 prL 2 (sl h5) s.me,ownT 79 rqL 2 (sl h6) s.pa]) () M3⟩
end
end
section
open Go.RowKit
section
variable (b:Nat) (z:RH) (c:Cfg) (s:St) (hc:CfOk c) (hi:Inv c s) (R:List Asn)
def rapQ (b:Nat) (c:Cfg) (R:List Asn) (x:Rc × St) (u:Value) (L':List Asn):Prop:=∃ ha hp z',u=rcV x.1 ha hp∧L'=ownT 75 asgL 3 (sl ha) x.1.asg::ownT 57 pmL 3 (sl hp) x.1.pms::refL b z' c x.2 R
include hc hi
theorem rap_tick (hb:s.bk<1000000000) (ix tg am:Int):Spec 27 [ptr b,opV ⟨7,ix,tg,am⟩] (refL b z c s R) fun u L'=>rapQ b c R (tickM c s) u L':=by
 have ht:=fun R=>rtick_spec b z c s R hc hi hb
 unfold rapQ
 generalize tickM c s=X at *
 obtain ⟨⟨x1,x2,x3,x4,x5,x6,x7,x8,x9⟩,s2⟩:=X
 simp only at ht ⊢
 refine zGz zk27 Tryz.func27 ?_;intro G;(repeat'(first|refine zA ?_;repeat intro nb|refine zC ?_;refine acK (L1:=refL b z c s _) (k:=92) (ht _) ?_;rintro u L' ⟨ha,hp,z2,rfl,rfl⟩|refine zB ?_ ?_<;>intro hc<;>try exact no hc|refine zH ?_ ?_<;>(intro hg;rw[hg];try exact no hg)));all_goals try refine zO fun a w F M=>?_
 all_goals refine zE F M ?_
 all_goals exact⟨_,_,rfl,⟨ha,hp,z2,rfl,rfl⟩,M.perms permsA⟩
theorem rap_op (r:Rs) (k ix tg am:Int) (f:FuncId) [FK f] (av:List Value) (hin:(k=1∧f=88∧av=[])∨(k=2∧f=89∧av=[.int .i64 1])∨(k=3∧f=89∧av=[.int .i64 0])∨(k=4∧f=90∧av=[])∨(k=5∧f=91∧av=[])∨(k=6∧f=91∧av=[]))
  (h:∀ R,Spec f (ptr b::opV ⟨k,ix,tg,am⟩::av) (refL b z c s R) fun u L'=>∃ z',u=rcV (rcR c s k r) nilH nilH∧L'=refL b z' c r.s R):Spec 27 [ptr b,opV ⟨k,ix,tg,am⟩] (refL b z c s R) fun u L'=>rapQ b c R (rcR c s k r,r.s) u L':=by
 unfold rapQ
 obtain ⟨x,hx⟩:∃ x,rcR c s k r=x:=⟨_,rfl⟩
 have hx8:x.asg=[]:=by rw[← hx];rfl
 have hx9:x.pms=[]:=by rw[← hx];rfl
 rw[hx] at h ⊢
 obtain ⟨x1,x2,x3,x4,x5,x6,x7,x8,x9⟩:=x
 simp only at hx8 hx9
 subst hx8;subst hx9
 simp only
 rcases hin with⟨rfl,rfl,rfl⟩|⟨rfl,rfl,rfl⟩|⟨rfl,rfl,rfl⟩|⟨rfl,rfl,rfl⟩|⟨rfl,rfl,rfl⟩|⟨rfl,rfl,rfl⟩
 ·((refine zGo Tryz.func27 ?_;intro G w M a F);((try refine zI zk27 F M ?_;clear F M a;try clear w);(repeat'(first|refine zA ?_;repeat intro nb|refine zC ?_;refine acK (L1:=refL b z c s _) (h _) ?_;rintro u L' ⟨z2,rfl,rfl⟩|refine zB ?_ ?_<;>intro hc<;>try exact no hc|refine zH ?_ ?_<;>(intro hg;rw[hg];try exact no hg)));all_goals try refine zO fun a w F M=>?_);(all_goals refine zE F M ?_);(have M2:=(M.own_nil 57 3).own_nil 75 3);exact⟨_,_,rfl,⟨nilH,nilH,z2,rfl,rfl⟩,M2.perms permsA⟩)
 ·((refine zGo Tryz.func27 ?_;intro G w M a F);((try refine zI zk27 F M ?_;clear F M a;try clear w);(repeat'(first|refine zA ?_;repeat intro nb|refine zC ?_;refine acK (L1:=refL b z c s _) (h _) ?_;rintro u L' ⟨z2,rfl,rfl⟩|refine zB ?_ ?_<;>intro hc<;>try exact no hc|refine zH ?_ ?_<;>(intro hg;rw[hg];try exact no hg)));all_goals try refine zO fun a w F M=>?_);(all_goals refine zE F M ?_);(have M2:=(M.own_nil 57 3).own_nil 75 3);exact⟨_,_,rfl,⟨nilH,nilH,z2,rfl,rfl⟩,M2.perms permsA⟩)
 ·((refine zGo Tryz.func27 ?_;intro G w M a F);((try refine zI zk27 F M ?_;clear F M a;try clear w);(repeat'(first|refine zA ?_;repeat intro nb|refine zC ?_;refine acK (L1:=refL b z c s _) (h _) ?_;rintro u L' ⟨z2,rfl,rfl⟩|refine zB ?_ ?_<;>intro hc<;>try exact no hc|refine zH ?_ ?_<;>(intro hg;rw[hg];try exact no hg)));all_goals try refine zO fun a w F M=>?_);(all_goals refine zE F M ?_);(have M2:=(M.own_nil 57 3).own_nil 75 3);exact⟨_,_,rfl,⟨nilH,nilH,z2,rfl,rfl⟩,M2.perms permsA⟩)
 ·((refine zGo Tryz.func27 ?_;intro G w M a F);((try refine zI zk27 F M ?_;clear F M a;try clear w);(repeat'(first|refine zA ?_;repeat intro nb|refine zC ?_;refine acK (L1:=refL b z c s _) (h _) ?_;rintro u L' ⟨z2,rfl,rfl⟩|refine zB ?_ ?_<;>intro hc<;>try exact no hc|refine zH ?_ ?_<;>(intro hg;rw[hg];try exact no hg)));all_goals try refine zO fun a w F M=>?_);(all_goals refine zE F M ?_);(have M2:=(M.own_nil 57 3).own_nil 75 3);exact⟨_,_,rfl,⟨nilH,nilH,z2,rfl,rfl⟩,M2.perms permsA⟩)
 ·((refine zGo Tryz.func27 ?_;intro G w M a F);((try refine zI zk27 F M ?_;clear F M a;try clear w);(repeat'(first|refine zA ?_;repeat intro nb|refine zC ?_;refine acK (L1:=refL b z c s _) (h _) ?_;rintro u L' ⟨z2,rfl,rfl⟩|refine zB ?_ ?_<;>intro hc<;>try exact no hc|refine zH ?_ ?_<;>(intro hg;rw[hg];try exact no hg)));all_goals try refine zO fun a w F M=>?_);(all_goals refine zE F M ?_);(have M2:=(M.own_nil 57 3).own_nil 75 3);exact⟨_,_,rfl,⟨nilH,nilH,z2,rfl,rfl⟩,M2.perms permsA⟩)
 ·((refine zGo Tryz.func27 ?_;intro G w M a F);((try refine zI zk27 F M ?_;clear F M a;try clear w);(repeat'(first|refine zA ?_;repeat intro nb|refine zC ?_;refine acK (L1:=refL b z c s _) (h _) ?_;rintro u L' ⟨z2,rfl,rfl⟩|refine zB ?_ ?_<;>intro hc<;>try exact no hc|refine zH ?_ ?_<;>(intro hg;rw[hg];try exact no hg)));all_goals try refine zO fun a w F M=>?_);(all_goals refine zE F M ?_);(have M2:=(M.own_nil 57 3).own_nil 75 3);exact⟨_,_,rfl,⟨nilH,nilH,z2,rfl,rfl⟩,M2.perms permsA⟩)
theorem rap_miss (o:Opn) (h1:o.k<1∨7<o.k):Spec 27 [ptr b,opV o] (refL b z c s R) fun u L'=>rapQ b c R (⟨o.k,11,-1,s.bk,epo c s,-1,0,[],[]⟩,s) u L':=by
 obtain ⟨k,ix,tg,am⟩:=o
 simp only at h1
 unfold rapQ
 refine zGz zk27 Tryz.func27 ?_;intro G;(repeat'(first|refine zA ?_;repeat intro nb|refine zC ?_;refine kp (k:=93) (rrej_spec b z c _ _ _ _ _ _) ?_|refine zB ?_ ?_<;>intro hc<;>try exact no hc|refine zH ?_ ?_<;>(intro hg;rw[hg];try exact no hg)));all_goals try refine zO fun a w F M=>?_
 all_goals first|(exfalso;omega)|skip
 all_goals refine zE F M ?_
 have M2:=(M.own_nil 57 3).own_nil 75 3
 exact⟨_,_,rfl,⟨nilH,nilH,z,rfl,rfl⟩,M2.perms permsA⟩
theorem rapply_spec (hb:s.bk<1000000000) (o:Opn) (ho:U64 o.am):Spec 27 [ptr b,opV o] (refL b z c s R) fun u L'=>rapQ b c R (stepM c s o) u L':=by
 obtain ⟨k,ix,tg,am⟩:=o
 simp only at ho
 by_cases h7:k=7
 ·subst h7
  exact rap_tick b z c s hc hi R hb ix tg am
 have e:stepM c s ⟨k,ix,tg,am⟩=(rcR c s k (opM c s ⟨k,ix,tg,am⟩),(opM c s ⟨k,ix,tg,am⟩).s):=by unfold stepM;rw[if_neg h7];rfl
 rw[e]
 by_cases h1:k=1
 ·subst h1
  exact rap_op b z c s hc hi R _ 1 ix tg am 88 [] (.inl ⟨rfl,rfl,rfl⟩) fun R=>rdep_spec b z c s hc hi R ⟨1,ix,tg,am⟩ ho
 by_cases h2:k=2
 ·subst h2
  exact rap_op b z c s hc hi R _ 2 ix tg am 89 [.int .i64 1] (.inr (.inl ⟨rfl,rfl,rfl⟩)) fun R=>rexit_spec b z c s hc hi R ⟨2,ix,tg,am⟩ 1 (by omega)
 by_cases h3:k=3
 ·subst h3
  exact rap_op b z c s hc hi R _ 3 ix tg am 89 [.int .i64 0] (.inr (.inr (.inl ⟨rfl,rfl,rfl⟩))) fun R=>rexit_spec b z c s hc hi R ⟨3,ix,tg,am⟩ 0 (by omega)
 by_cases h4:k=4
 ·subst h4
  exact rap_op b z c s hc hi R _ 4 ix tg am 90 [] (.inr (.inr (.inr (.inl ⟨rfl,rfl,rfl⟩)))) fun R=>rslash_spec b z c s hc hi R ⟨4,ix,tg,am⟩
 by_cases h5:k=5
 ·subst h5
  exact rap_op b z c s hc hi R _ 5 ix tg am 91 [] (.inr (.inr (.inr (.inr (.inl ⟨rfl,rfl,rfl⟩))))) fun R=>rcons_spec b z c s hc hi R ix tg am ho
 by_cases h6:k=6
 ·subst h6
  exact rap_op b z c s hc hi R _ 6 ix tg am 91 [] (.inr (.inr (.inr (.inr (.inr ⟨rfl,rfl,rfl⟩))))) fun R=>rpart_spec b z c s hc hi R ix tg am ho
 have hm:opM c s ⟨k,ix,tg,am⟩=no' s 11:=by unfold opM;rw[if_neg h1,if_neg h2,if_neg h3,if_neg h4,if_neg h5,if_neg h6]
 rw[hm]
 exact rap_miss b z c s hc hi R ⟨k,ix,tg,am⟩ (by simp only;omega)
end
def refB (b:Nat) (c:Cfg) (s:St):Asn:=exA fun z:RH=>refL b z c s []
section
variable (b:Nat) (c:Cfg) (s:St) (hc:CfOk c) (R:List Asn)
include hc
theorem rnewB:Spec 21 [cfgV c] R fun u L'=>∃ b,u=ptr b∧L'=refB b c St.ini::R :=
 Spec.conv (α:=Unit) (fun _=>rnew_spec c hc R) (fun G w M=>⟨(),M⟩) fun _ v L' ⟨b,z,e,e2⟩=>⟨_,⟨b,e,rfl⟩,fun G w M=>by subst e2;exact Mem.exc (f:=fun z:RH=>refL b z c St.ini []) z M⟩
theorem rapplyB (hi:Inv c s) (hb:s.bk<1000000000) (o:Opn) (ho:U64 o.am):Spec 27 [ptr b,opV o] (refB b c s::R) fun u L'=>∃ ha hp,u=rcV (stepM c s o).1 ha hp∧L'=ownT 75 asgL 3 (sl ha) (stepM c s o).1.asg::ownT 57 pmL 3 (sl hp) (stepM c s o).1.pms::refB b c (stepM c s o).2::R :=
 Spec.conv (fun z=>rapply_spec b z c s hc hi R hb o ho) (fun G w M=>Mem.exo (f:=fun z:RH=>refL b z c s []) M) fun z v L' ⟨ha,hp,z',e,e2⟩=>⟨_,⟨ha,hp,e,rfl⟩,fun G w M=>by
  subst e2
  have M2:Mem w (refL b z' c (stepM c s o).2 []++(ownT 75 asgL 3 (sl ha) (stepM c s o).1.asg::ownT 57 pmL 3 (sl hp) (stepM c s o).1.pms::(R++G))):=M.perms permsA
  exact(Mem.exc (f:=fun z:RH=>refL b z c (stepM c s o).2 []) z' M2).perms permsA⟩
theorem applyB (hi:Inv c s) (hb:s.bk<1000000000) (o:Opn) (hk:I64 o.k) (ho:U64 o.am):Spec 26 [ptr b,opV o] (engB b c s::R) fun u L'=>∃ ha hp,u=rcV (stepM c s o).1 ha hp∧L'=ownT 75 asgL 3 (sl ha) (stepM c s o).1.asg::ownT 57 pmL 3 (sl hp) (stepM c s o).1.pms::engB b c (stepM c s o).2::R :=
 Spec.conv (fun H=>apply_spec b H c s R hc hi hb o hk ho) (fun G w M=>Mem.exo (f:=fun H:EH=>engL b H c s []) M) fun H v L' ⟨ha,hp,H',e,e2⟩=>⟨_,⟨ha,hp,e,rfl⟩,fun G w M=>by
  subst e2
  have M2:Mem w (engL b H' c (stepM c s o).2 []++(ownT 75 asgL 3 (sl ha) (stepM c s o).1.asg::ownT 57 pmL 3 (sl hp) (stepM c s o).1.pms::(R++G))):=M.perms permsA
  exact(Mem.exc (f:=fun H:EH=>engL b H c (stepM c s o).2 []) H' M2).perms permsA⟩
end
end
section
open Go.RowKit
section
variable {o:Oper} {n:Nat} {l:List (Nat × Value)} {L:List Asn}
theorem rt_neS {t ty:TypeId} {x y:Operand} (ho:o.op=.binOp .neq t x y ty) {k:IntKind} {m:Int} (hx:evl l x=some (.int k m)) (hy:evl l y=some (.int k m)):RT o l L n (.bool false):=fun a w F M=>by
 unfold execOp
 rw[ho]
 simp[F.eval hx,F.eval hy,eqGuard,binOp,Op.intCmp]
end
theorem same1_spec (i x:Int) (R:List Asn):Spec 60 [rqW i x,rqW i x] R fun u L'=>u=.bool true∧L'=R:=by
 refine zGz zk60 Tryz.func60 ?_;intro G;(repeat'(first|refine zA ?_;repeat intro nb|refine zB ?_ ?_<;>intro hc<;>try exact no hc|refine zH ?_ ?_<;>(intro hg;rw[hg];try exact no hg)));all_goals try refine zO fun a w F M=>?_
 all_goals refine zE F M ?_
 refine⟨_,_,rfl,⟨?_,rfl⟩,M.perms permsA⟩
 simp[tupOf]
theorem eqf_spec (v1 v2:Value) (q:List (Nat × Int)) (R:List Asn) (g1:GS R 2 v1 q.length (q.flatMap rqL)) (g2:GS R 2 v2 q.length (q.flatMap rqL)):Spec 59 [v1,v2,.func (.func 60) #[] #[]] R fun u L'=>u=.bool true∧L'=R:=by
 refine zGo Tryz.func59 ?_;intro G w M a F
 have hG:GS (R++G) 2 v1 q.length (q.flatMap rqL):=Gives.app g1
 have hH:GS (R++G) 2 v2 q.length (q.flatMap rqL):=Gives.app g2
 have hlv:=hG.len_le M
 (try refine zI zk59 F M ?_;clear F M a;try clear w);(repeat'(first|refine zA ?_;repeat intro nb|refine zB ?_ ?_<;>intro hc<;>try exact no hc|refine zH ?_ ?_<;>(intro hg;rw[hg];try exact no hg)));all_goals try refine zO fun a w F M=>?_
 refine svLoop F M (0:Nat) (fun k=>[(17,.int .i64 k)]) (fun _=>[]) (fun k=>k≤q.length) (fun k=>q.length - k) [] (Nat.zero_le _) ?_
 (rintro k q1 a w F M;(try simp only[zc,zn] at F M q1 ⊢))
 by_cases hk:k<q.length
 ·obtain ⟨⟨i,x⟩,hp⟩:∃ p,q[k]? = some p:=⟨q[k],by simp[hk]⟩
  (try refine zI zk59 F M ?_;clear F M a;try clear w);(repeat'(first|refine zA ?_;repeat intro nb|refine zC ?_;refine acF (k:=60) (same1_spec i x _) ?_;rintro u L' ⟨rfl,rfl⟩|refine zB ?_ ?_<;>intro hc<;>try exact no hc|refine zH ?_ ?_<;>(intro hg;rw[hg];try exact no hg)));all_goals try refine zO fun a w F M=>?_
  exact sv_again F M (k+1) kpA permsA (by omega) (by omega)
 obtain rfl:k=q.length:=by omega
 (try refine zI zk59 F M ?_;clear F M a;try clear w);(repeat'(first|refine zA ?_;repeat intro nb|refine zB ?_ ?_<;>intro hc<;>try exact no hc|refine zH ?_ ?_<;>(intro hg;rw[hg];try exact no hg)));all_goals exact zXz
theorem runb_spec (b:Nat) (z:RH) (c:Cfg) (bk ep at':Int) (V:List Val) (hl:V.length≤4096) (R:List Asn) (hg:GS R 7 (sl z.hV) V.length (V.flatMap valL)):Spec 65 [ptr b] (pt b (rfC z c bk ep at') 85::R) fun u L'=>u=.int .i64 ((V.filter pBond).length:Int)∧L'=pt b (rfC z c bk ep at') 85::R:=by
 refine zGo Tryz.func65 ?_;intro G w M a F
 have hG:GS (R++G) 7 (sl z.hV) V.length (V.flatMap valL):=Gives.app hg
 (try refine zI zk65 F M ?_;clear F M a;try clear w);(repeat'(first|refine zA ?_;repeat intro nb|refine zB ?_ ?_<;>intro hc<;>try exact no hc|refine zH ?_ ?_<;>(intro hg;rw[hg];try exact no hg)));all_goals try refine zO fun a w F M=>?_
 refine svLoop F M ((0,0):Nat × Nat) (fun y=>[(4,.int .i64 y.1),(3,.int .i64 y.2)]) (fun _=>[]) (fun y=>y.1≤V.length∧y.2=((V.take y.1).filter pBond).length) (fun y=>V.length - y.1) [] ⟨Nat.zero_le _,by simp⟩ ?_
 (rintro⟨k,m⟩ ⟨q1,q2⟩ a w F M;(try simp only[zc,zn] at F M q1 q2 ⊢))
 by_cases hk:k<V.length
 ·obtain ⟨v,hv⟩:∃ v,V[k]? = some v:=⟨V[k],by simp[hk]⟩
  have hm:m≤4096:=by have:=List.length_filter_le pBond (V.take k);rw[List.length_take] at this;omega
  have e:((V.take (k+1)).filter pBond).length=m+(if pBond v=true then 1 else 0):=by
   rw[List.take_add_one,hv,List.filter_append,List.length_append,← q2]
   simp only[Option.toList_some,List.filter_cons,List.filter_nil]
   split<;>simp
  obtain ⟨bal,st,slz,rq,ex,wd,dl⟩:=v
  by_cases h4:st=4
  ·subst h4
   (try refine zI zk65 F M ?_;clear F M a;try clear w);(repeat'(first|refine zA ?_;repeat intro nb|refine zB ?_ ?_<;>intro hc<;>try exact no hc|refine zH ?_ ?_<;>(intro hg;rw[hg];try exact no hg)));all_goals try refine zO fun a w F M=>?_
   exact sv_again F M (k+1,m+1) kpA permsA ⟨by simp only;omega,by simp only;rw[e];simp[pBond]⟩ (by simp only;omega)
  by_cases h3:st=3
  ·subst h3
   by_cases hx:ex = -1
   ·subst hx
    (try refine zI zk65 F M ?_;clear F M a;try clear w);(repeat'(first|refine zA ?_;repeat intro nb|refine zB ?_ ?_<;>intro hc<;>try exact no hc|refine zH ?_ ?_<;>(intro hg;rw[hg];try exact no hg)));all_goals try refine zO fun a w F M=>?_
    exact sv_again F M (k+1,m) kpA permsA ⟨by simp only;omega,by simp only;rw[e];simp[pBond]⟩ (by simp only;omega)
   ·(try refine zI zk65 F M ?_;clear F M a;try clear w);(repeat'(first|refine zA ?_;repeat intro nb|refine zB ?_ ?_<;>intro hc<;>try exact no hc|refine zH ?_ ?_<;>(intro hg;rw[hg];try exact no hg)));all_goals try refine zO fun a w F M=>?_
    all_goals first|(exfalso;simp_all;done)|exact sv_again F M (k+1,m+1) kpA permsA ⟨by simp only;omega,by simp only;rw[e];simp[pBond,hx]⟩ (by simp only;omega)
  ·(try refine zI zk65 F M ?_;clear F M a;try clear w);(repeat'(first|refine zA ?_;repeat intro nb|refine zB ?_ ?_<;>intro hc<;>try exact no hc|refine zH ?_ ?_<;>(intro hg;rw[hg];try exact no hg)));all_goals try refine zO fun a w F M=>?_
   all_goals first|(exfalso;simp_all;done)|exact sv_again F M (k+1,m) kpA permsA ⟨by simp only;omega,by simp only;rw[e];simp[pBond,h4,h3]⟩ (by simp only;omega)
 obtain rfl:k=V.length:=by omega
 rw[List.take_of_length_le (by omega)] at q2
 subst q2
 (try refine zI zk65 F M ?_;clear F M a;try clear w);(repeat'(first|refine zA ?_;repeat intro nb|refine zB ?_ ?_<;>intro hc<;>try exact no hc|refine zH ?_ ?_<;>(intro hg;rw[hg];try exact no hg)));all_goals exact zXz
section
variable (b:Nat) (z:RH) (c:Cfg) (s:St) (hc:CfOk c) (hi:Inv c s) (h1 h2 h3 h4 h5 h6:SlH) (R:List Asn)
include hc hi
theorem same22_spec (g1:GS R 7 (sl h1) s.V.length (s.V.flatMap valL)) (g2:GS R 1 (sl h2) s.pe.length (s.pe.flatMap natL)) (g3:GS R 1 (sl h3) s.fo.length (s.fo.flatMap natL)) (g4:GS R 1 (sl h4) s.vo.length (s.vo.flatMap natL)) (g5:GS R 2 (sl h5) s.me.length (s.me.flatMap prL)) (g6:GS R 2 (sl h6) s.pa.length (s.pa.flatMap rqL)) :
  Spec 23 [snV (snOf c s h1 h2 h3 h4 h5 h6),ptr b] (refL b z c s R) fun u L'=>u=.int .i64 1∧L'=refL b z c s R:=by
 have hcap:=hi.cap;have hca:=hc.ca
 have hl:s.V.length≤4096:=by omega
 have hb0:=hi.bal0
 have hac:=actv_le s.V hb0
 have hsum:=hi.sum
 have htot:=hi.tot
 have hsm:=fun (R:List Asn) hg hg2=>rsame7_spec s.V (sl h1) R hg (by omega) (sl z.hV) hg2
 have hav:=fun (R:List Asn) hg=>ractive_spec s.V (sl z.hV) R hg (by omega) hb0 (by omega)
 have hub:=fun (R:List Asn) hg=>runb_spec b z c s.bk (epo c s) s.at' s.V hl R hg
 have e0:=ix_count hi.bo pBond_iff
 rw[List.length_map] at e0
 rw[e0] at hub
 have en:∀ (x y:SlH) (l:List Nat) {L:List Asn},GS L 1 (sl x) l.length (l.flatMap natL)→GS L 1 (sl y) l.length (l.flatMap natL)→Reads 63 [sl x,sl y] (.bool true) L:=fun x y l _ g1 g2=>by simpa using eqs_nat (sl x) (sl y) l l g1 g2
 have e5:∀ {L:List Asn},GS L 2 (sl h5) s.me.length (s.me.flatMap prL)→GS L 2 (sl z.hM) s.me.length (s.me.flatMap prL)→Reads 64 [sl h5,sl z.hM] (.bool true) L:=fun g1 g2=>by simpa using eqs_pr (sl h5) (sl z.hM) s.me s.me g1 g2
 intro G w M
 obtain ⟨f1,f2,M2,fe1,fe2⟩:=rln_open z.ln M
 obtain ⟨z1,z2,z3,z4,M3⟩:=rmt_open z.mt (M2.pull pullA)
 clear M M2
 have M:=M3
 clear M3
 replace g1:GS (R++G) 7 (sl h1) s.V.length (s.V.flatMap valL):=Gives.app g1
 replace g2:GS (R++G) 1 (sl h2) s.pe.length (s.pe.flatMap natL):=Gives.app g2
 replace g3:GS (R++G) 1 (sl h3) s.fo.length (s.fo.flatMap natL):=Gives.app g3
 replace g4:GS (R++G) 1 (sl h4) s.vo.length (s.vo.flatMap natL):=Gives.app g4
 replace g5:GS (R++G) 2 (sl h5) s.me.length (s.me.flatMap prL):=Gives.app g5
 replace g6:GS (R++G) 2 (sl h6) s.pa.length (s.pa.flatMap rqL):=Gives.app g6
 (refine zGe Tryz.func23 ?_;intro a F;(try simp only[zc,zn] at M))
 (try refine zI zk23 F M ?_;clear F M a;try clear w);(repeat'(first|refine zV (h:=⟨_,by((apply rt_neS;(exact rfl);(exact rfl);(exact rfl))),?_⟩)|refine zA1 ?_;repeat intro(nb:Nat)|refine zC ?_;(first|refine acW (k:=59) (eqf_spec _ _ s.pa _ ?_ ?_) ?_;exact gsA;exact gsA;rintro u L' ⟨rfl,rfl⟩|refine acW (k:=61) (hsm _ ?_ ?_) ?_;exact gsA;exact gsA;rintro u L' ⟨rfl,rfl⟩|refine acW (k:=62) (hav _ ?_) ?_;exact gsA;rintro u L' ⟨rfl,rfl⟩|refine acCall (k:=63) ?_;(first|refine Spec.of_reads (en h2 z.hP s.pe gsA gsA) rfl ?_|refine Spec.of_reads (en h3 f1 s.fo gsA gsA) rfl ?_|refine Spec.of_reads (en h4 f2 s.vo gsA gsA) rfl ?_)|refine acCall (k:=64) ?_;refine Spec.of_reads (e5 gsA gsA) rfl ?_|refine acK (L1:=pt b (rfC z c s.bk (epo c s) s.at') 85::_) (k:=65) (hub _ ?_) ?_;exact gsA;rintro u L' ⟨rfl,rfl⟩)|refine zB ?_ ?_<;>intro hc<;>try exact no hc|refine zH ?_ ?_<;>(intro hg;rw[hg];try exact no hg)));all_goals try refine zO fun a w F M=>?_
 all_goals refine zE F M ?_
 have M2:Mem _ (rmtA z.mt s.ca::(rlnL z.ln f1 f2 (qS c) s.fo s.vo (pt b (rfC z c s.bk (epo c s) s.at') 85::rldC z.ld c.supplyCap s.dep s.pd s.bu::roT valL 7 (sl z.hV) s.V::roT natL 1 (sl z.hP) s.pe::roT prL 2 (sl z.hM) s.me::roT rqL 2 (sl z.hQ) s.pa::(R++G)))):=rmt_close z.mt (M.perms permsA)
 exact⟨_,_,rfl,⟨rfl,rfl⟩,rln_close z.ln (h1:=f1) (h2:=f2) (M2.perms permsA)⟩
theorem same22B:Spec 23 [snV (snOf c s h1 h2 h3 h4 h5 h6),ptr b] (snA s h1 h2 h3 h4 h5 h6::refB b c s::R) fun u L'=>u=.int .i64 1∧L'=refB b c s::R :=
 Spec.conv (fun z:RH=>same22_spec b z c s hc hi h1 h2 h3 h4 h5 h6 (ownT 62 valL 7 (sl h1) s.V::ownT 3 natL 1 (sl h2) s.pe::ownT 3 natL 1 (sl h3) s.fo::ownT 3 natL 1 (sl h4) s.vo::ownT 77 prL 2 (sl h5) s.me::ownT 79 rqL 2 (sl h6) s.pa::R) gsA gsA gsA gsA gsA gsA) (fun G w M=>by
  obtain ⟨_,M1⟩:=Mem.exo M
  have M2:Mem w (refB b c s::(ownT 62 valL 7 (sl h1) s.V::ownT 3 natL 1 (sl h2) s.pe::ownT 3 natL 1 (sl h3) s.fo::ownT 3 natL 1 (sl h4) s.vo::ownT 77 prL 2 (sl h5) s.me::ownT 79 rqL 2 (sl h6) s.pa::(R++G))):=M1.perms permsA
  obtain ⟨z,M3⟩:=Mem.exo (f:=fun z:RH=>refL b z c s []) M2
  exact⟨z,M3⟩) fun z v L' ⟨e,e2⟩=>⟨_,⟨e,rfl⟩,fun G w M=>by
  subst e2
  have M2:Mem w (refL b z c s []++(R++G)):=M.perms permsA
  exact Mem.exc (f:=fun z:RH=>refL b z c s []) z M2⟩
end
end
section
open Go.RowKit
section
variable {x y:Rc} {sx px sy py:SlH} {L:List Asn}
theorem rsame_reads (hx:RcG L x sx px) (hy:RcG L y sy py):Reads 20 [rcV x sx px,rcV y sy py] (.bool (decide (x=y))) L:=by
 generalize hR:decide (x=y)=R
 (intro K hK w M;refine sx_enter (vs:=[rcV x sx px,rcV y sy py]) Tryz.func20 (n:=108) rfl rfl rfl rfl ?_;intro a F)
 have h1:=hx.a.imp hK
 have h2:=hx.p.imp hK
 have h3:=hy.a.imp hK
 have h4:=hy.p.imp hK
 have hl1:=h1.len_le M
 have hl2:=h2.len_le M
 have hl3:=h3.len_le M
 have hl4:=h4.len_le M
 (try refine zI zk20 F M ?_;clear F M a;try clear w);(repeat'(first|refine zV (h:=⟨_,by(first|(apply(rt_neqT (f:=asgL));(exact rfl);(exact rfl);(exact rfl);(exact inferInstance);(exact inferInstance))|(apply(rt_neqT (f:=pmL));(exact rfl);(exact rfl);(exact rfl);(exact inferInstance);(exact inferInstance))),?_⟩)|refine zA1 ?_;repeat intro(b:Nat)|refine zB ?_ ?_<;>intro hc<;>try exact no hc|refine zH ?_ ?_<;>(intro hg;rw[hg];try exact no hg)));all_goals try refine zO fun a w F M=>?_
 all_goals try((first|(refine svEnd F M ?_)|(refine svRet F M ?_));refine⟨?_,M.perms permsA⟩;(have hne:R=false:=by(rw[← hR];simp only[decide_eq_false_iff_not];intro he;subst he;simp at *));(rw[hne];rfl);done)
 have hla:x.asg.length=y.asg.length:=by simp_all;omega
 have hlp:x.pms.length=y.pms.length:=by omega
 have hR':R=(decide (x.asg.drop 0=y.asg.drop 0) && decide (x.pms=y.pms)):=by rw[← hR,rc_eq];simp_all
 refine svLoop F M (0:Nat) (fun i=>[(5,.int .i64 i)]) (fun _=>[]) (fun i=>i≤x.asg.length∧R=(decide (x.asg.drop i=y.asg.drop i) && decide (x.pms=y.pms))) (fun i=>x.asg.length - i) [] ⟨by omega,hR'⟩ ?_
 (rintro k ⟨q1,q2⟩ a w F M;(try simp only[zc,zn] at F M q1 q2 ⊢))
 by_cases hlt:k<x.asg.length
 ·obtain ⟨u,hu⟩:∃ u,x.asg[k]? = some u:=⟨x.asg[k],by simp[hlt]⟩
  obtain ⟨v,hv⟩:∃ v,y.asg[k]? = some v:=⟨y.asg[k]'(by omega),by rw[List.getElem?_eq_getElem (by omega)]⟩
  rw[drop_cons hu,drop_cons hv] at q2
  by_cases he:u=v
  ·subst he
   (try refine zI zk20 F M ?_;clear F M a;try clear w);(repeat'(first|refine zV (h:=⟨_,by(first|(apply(rt_neqT (f:=asgL));(exact rfl);(exact rfl);(exact rfl);(exact inferInstance);(exact inferInstance))|(apply(rt_neqT (f:=pmL));(exact rfl);(exact rfl);(exact rfl);(exact inferInstance);(exact inferInstance))),?_⟩)|refine zA1 ?_;repeat intro(b:Nat)|refine zB ?_ ?_<;>intro hc<;>try exact no hc|refine zH ?_ ?_<;>(intro hg;rw[hg];try exact no hg)));all_goals try refine zO fun a w F M=>?_
   (refine sv_again F M (k+1) kpA permsA ?_ ?_)
   ·exact⟨by omega,by rw[q2];simp⟩
   ·omega
  ·(try refine zI zk20 F M ?_;clear F M a;try clear w);(repeat'(first|refine zV (h:=⟨_,by(first|(apply(rt_neqT (f:=asgL));(exact rfl);(exact rfl);(exact rfl);(exact inferInstance);(exact inferInstance))|(apply(rt_neqT (f:=pmL));(exact rfl);(exact rfl);(exact rfl);(exact inferInstance);(exact inferInstance))),?_⟩)|refine zA1 ?_;repeat intro(b:Nat)|refine zB ?_ ?_<;>intro hc<;>try exact no hc|refine zH ?_ ?_<;>(intro hg;rw[hg];try exact no hg)));all_goals try refine zO fun a w F M=>?_
   (all_goals((first|(refine svEnd F M ?_)|(refine svRet F M ?_));refine⟨?_,M.perms permsA⟩))
   rw[q2];simp[tupOf,he]
 ·rw[List.drop_of_length_le (by omega),List.drop_of_length_le (by omega)] at q2
  have q3:R=decide (x.pms.drop 0=y.pms.drop 0):=by rw[q2];simp
  (try refine zI zk20 F M ?_;clear F M a;try clear w);(repeat'(first|refine zV (h:=⟨_,by(first|(apply(rt_neqT (f:=asgL));(exact rfl);(exact rfl);(exact rfl);(exact inferInstance);(exact inferInstance))|(apply(rt_neqT (f:=pmL));(exact rfl);(exact rfl);(exact rfl);(exact inferInstance);(exact inferInstance))),?_⟩)|refine zA1 ?_;repeat intro(b:Nat)|refine zB ?_ ?_<;>intro hc<;>try exact no hc|refine zH ?_ ?_<;>(intro hg;rw[hg];try exact no hg)));all_goals try refine zO fun a w F M=>?_
  refine svLoop F M (0:Nat) (fun i=>[(6,.int .i64 i)]) (fun _=>[]) (fun i=>i≤x.pms.length∧R=decide (x.pms.drop i=y.pms.drop i)) (fun i=>x.pms.length - i) [] ⟨by omega,q3⟩ ?_
  (rintro k ⟨q1,q2⟩ a w F M;(try simp only[zc,zn] at F M q1 q2 ⊢))
  by_cases hlt:k<x.pms.length
  ·obtain ⟨u,hu⟩:∃ u,x.pms[k]? = some u:=⟨x.pms[k],by simp[hlt]⟩
   obtain ⟨v,hv⟩:∃ v,y.pms[k]? = some v:=⟨y.pms[k]'(by omega),by rw[List.getElem?_eq_getElem (by omega)]⟩
   rw[drop_cons hu,drop_cons hv] at q2
   by_cases he:u=v
   ·subst he
    (try refine zI zk20 F M ?_;clear F M a;try clear w);(repeat'(first|refine zV (h:=⟨_,by(first|(apply(rt_neqT (f:=asgL));(exact rfl);(exact rfl);(exact rfl);(exact inferInstance);(exact inferInstance))|(apply(rt_neqT (f:=pmL));(exact rfl);(exact rfl);(exact rfl);(exact inferInstance);(exact inferInstance))),?_⟩)|refine zA1 ?_;repeat intro(b:Nat)|refine zB ?_ ?_<;>intro hc<;>try exact no hc|refine zH ?_ ?_<;>(intro hg;rw[hg];try exact no hg)));all_goals try refine zO fun a w F M=>?_
    (refine sv_again F M (k+1) kpA permsA ?_ ?_)
    ·exact⟨by omega,by rw[q2];simp⟩
    ·omega
   ·(try refine zI zk20 F M ?_;clear F M a;try clear w);(repeat'(first|refine zV (h:=⟨_,by(first|(apply(rt_neqT (f:=asgL));(exact rfl);(exact rfl);(exact rfl);(exact inferInstance);(exact inferInstance))|(apply(rt_neqT (f:=pmL));(exact rfl);(exact rfl);(exact rfl);(exact inferInstance);(exact inferInstance))),?_⟩)|refine zA1 ?_;repeat intro(b:Nat)|refine zB ?_ ?_<;>intro hc<;>try exact no hc|refine zH ?_ ?_<;>(intro hg;rw[hg];try exact no hg)));all_goals try refine zO fun a w F M=>?_
    (all_goals((first|(refine svEnd F M ?_)|(refine svRet F M ?_));refine⟨?_,M.perms permsA⟩))
    rw[q2];simp[tupOf,he]
  ·(try refine zI zk20 F M ?_;clear F M a;try clear w);(repeat'(first|refine zV (h:=⟨_,by(first|(apply(rt_neqT (f:=asgL));(exact rfl);(exact rfl);(exact rfl);(exact inferInstance);(exact inferInstance))|(apply(rt_neqT (f:=pmL));(exact rfl);(exact rfl);(exact rfl);(exact inferInstance);(exact inferInstance))),?_⟩)|refine zA1 ?_;repeat intro(b:Nat)|refine zB ?_ ?_<;>intro hc<;>try exact no hc|refine zH ?_ ?_<;>(intro hg;rw[hg];try exact no hg)));all_goals try refine zO fun a w F M=>?_
   (all_goals((first|(refine svEnd F M ?_)|(refine svRet F M ?_));refine⟨?_,M.perms permsA⟩))
   rw[q2,List.drop_of_length_le (by omega),List.drop_of_length_le (by omega)];rfl
end
end
section
open Go.RowKit
theorem rsame_self {L:List Asn} {x:Rc} {sx px sy py:SlH} (hx:RcG L x sx px) (hy:RcG L x sy py):Reads 20 [rcV x sx px,rcV x sy py] (.bool true) L:=by
 have:=rsame_reads hx hy
 simpa using this
end
section
open Go.RowKit
section
variable {o:Oper} {n:Nat} {l:List (Nat × Value)} {L:List Asn}
theorem rt_addWk {t ty:TypeId} {x y:Operand} (ho:o.op=.binOp .add t x y ty) {k:IntKind} {m p:Int} (hx:evl l x=some (.int k m)) (hy:evl l y=some (.int k p)):RT o l L n (.int k (k.wrap (m+p))):=fun a w F M=>by
 unfold execOp
 rw[ho]
 simp[F.eval hx,F.eval hy,eqGuard,binOp,Op.intArith]
end
section
variable (R:List Asn)
theorem applyN (o:Opn):Spec 26 [.pointer none,opV o] R fun u L'=>u=rcV ⟨o.k,1,-1,0,0,-1,0,[],[]⟩ nilH nilH∧L'=R:=by
 have hr:=fun R=>rej_spec o 1 0 0 R
 obtain ⟨k,ix,tg,am⟩:=o
 refine zGz zk26 Tryz.func26 ?_;intro G;(repeat'(first|refine zA ?_;repeat intro nb|refine zC ?_;refine kpW (k:=78) (hr _) ?_|refine zB ?_ ?_<;>intro hc<;>try exact no hc|refine zH ?_ ?_<;>(intro hg;rw[hg];try exact no hg)));all_goals exact zXz
theorem getN0 (i:Int):Spec 19 [.pointer none,.int .i64 i] R fun u L'=>u=.tuple [valV Val.zero,.bool false].toArray∧L'=R:=by
 refine zGz zk19 Tryz.func19 ?_;intro G;(repeat'(first|refine zA ?_;repeat intro nb|refine zB ?_ ?_<;>intro hc<;>try exact no hc|refine zH ?_ ?_<;>(intro hg;rw[hg];try exact no hg)));all_goals exact zXz
def Cfg.none:Cfg:=⟨0,0,0,0,0,0,0,0,0,0,0,0,0,0,0,0,0,0,0,0⟩
theorem configN:Spec 29 [.pointer none] R fun u L'=>u=cfgV Cfg.none∧L'=R:=by
 refine zGz zk29 Tryz.func29 ?_;intro G;(repeat'(first|refine zA ?_;repeat intro nb|refine zB ?_ ?_<;>intro hc<;>try exact no hc|refine zH ?_ ?_<;>(intro hg;rw[hg];try exact no hg)));all_goals exact zXz
theorem snapN:Spec 13 [.pointer none] R fun u L'=>u=snV ⟨0,0,0,0,0,0,0,0,0,nilH,nilH,nilH,nilH,nilH,nilH⟩∧L'=R:=by
 refine zGz zk13 Tryz.func13 ?_;intro G;(repeat'(first|refine zA ?_;repeat intro nb|refine zB ?_ ?_<;>intro hc<;>try exact no hc|refine zH ?_ ?_<;>(intro hg;rw[hg];try exact no hg)));all_goals exact zXz
theorem runN (v:Value) (l:List Opn) (hg:GS R 4 v l.length (l.flatMap opL)) (hl:l.length≤100000):Spec 28 [.pointer none,v] R fun u L'=>∃ hr xs,(u=sl hr∧xs.length=l.length)∧L'=ownT 39 rsL 9 (sl hr) xs::R:=by
 refine zGo Tryz.func28 ?_;intro G w M a F
 have hG:GS (R++G) 4 v l.length (l.flatMap opL):=Gives.app hg
 have M:=M.own_nil 39 9
 (try refine zI zk28 F M ?_;clear F M a;try clear w);(repeat'(first|refine zA ?_;repeat intro nb|refine zB ?_ ?_<;>intro hc<;>try exact no hc|refine zH ?_ ?_<;>(intro hg;rw[hg];try exact no hg)));all_goals try refine zO fun a w F M=>?_
 refine svLoop F M ((0,nilH,[]):Nat × SlH × List RcS) (fun z=>[(10,.int .i64 z.1),(5,sl z.2.1)]) (fun z=>[ownT 39 rsL 9 (sl z.2.1) z.2.2]) (fun z=>z.1≤l.length∧z.2.2.length=z.1) (fun z=>l.length - z.1) [7] ⟨Nat.zero_le _,rfl⟩ ?_
 (rintro⟨k,hh,xs⟩ ⟨q1,q2⟩ a w F M;(try simp only[zc,zn] at F M q1 q2 ⊢))
 by_cases hk:k<l.length
 ·obtain ⟨o,ho⟩:∃ o,l[k]? = some o:=⟨l[k],by simp[hk]⟩
  have hap:=fun R=>applyN R o
  obtain ⟨ok,oi,ot,oa⟩:=o
  (try refine zI zk28 F M ?_;clear F M a;try clear w);(repeat'(first|refine zA ?_;repeat intro nb|refine zC ?_;(first|refine kpW (k:=26) (hap _) ?_|refine ac_appendH (f:=rsL) (xs:=xs) (ys:=[⟨⟨ok,1,-1,0,0,-1,0,[],[]⟩,nilH,nilH⟩]) rfl rfl inferInstance rfl rfl pullA inferInstance gsA rfl rfl (by simp;omega) ?_;intro nv)|refine zB ?_ ?_<;>intro hc<;>try exact no hc|refine zH ?_ ?_<;>(intro hg;rw[hg];try exact no hg)));all_goals try refine zO fun a w F M=>?_
  exact sv_again F M (k+1,nv,_) kpA permsA ⟨by simp only;omega,by simp[q2]⟩ (by simp only;omega)
 obtain rfl:k=l.length:=by omega
 (try refine zI zk28 F M ?_;clear F M a;try clear w);(repeat'(first|refine zA ?_;repeat intro nb|refine zB ?_ ?_<;>intro hc<;>try exact no hc|refine zH ?_ ?_<;>(intro hg;rw[hg];try exact no hg)));all_goals try refine zO fun a w F M=>?_
 (all_goals(refine zE F M ?_;exact⟨_,_,rfl,⟨hh,xs,⟨rfl,q2⟩,rfl⟩,M.perms permsA⟩))
end
theorem getB (b:Nat) (c:Cfg) (s:St) (R:List Asn) (hl:s.V.length≤4096) (i:Nat) (v:Val) (hv:s.V[i]? = some v):Spec 19 [ptr b,.int .i64 i] (engB b c s::R) fun u L'=>u=.tuple [valV v,.bool true].toArray∧L'=engB b c s::R :=
 Spec.conv (fun H=>get_spec b H c s R hl i v hv) (fun G w M=>Mem.exo (f:=fun H:EH=>engL b H c s []) M) fun H v L' ⟨e,e2⟩=>⟨_,⟨e,rfl⟩,fun G w M=>by subst e2;exact Mem.exc (f:=fun H:EH=>engL b H c s []) H M⟩
theorem getNB (b:Nat) (c:Cfg) (s:St) (R:List Asn) (hl:s.V.length≤4096) (i:Int) (hi:i<0∨(s.V.length:Int)≤i):Spec 19 [ptr b,.int .i64 i] (engB b c s::R) fun u L'=>u=.tuple [valV Val.zero,.bool false].toArray∧L'=engB b c s::R :=
 Spec.conv (fun H=>getN_spec b H c s R hl i hi) (fun G w M=>Mem.exo (f:=fun H:EH=>engL b H c s []) M) fun H v L' ⟨e,e2⟩=>⟨_,⟨e,rfl⟩,fun G w M=>by subst e2;exact Mem.exc (f:=fun H:EH=>engL b H c s []) H M⟩
def ipL (p:Int × Int):List Value:=[.int .i64 p.1,.int .i64 p.2]
instance ipEL:EL ipL 2:=⟨fun _=>rfl,fun x u h=>by simp[ipL] at h;rcases h with rfl|rfl<;>rfl⟩
theorem own_natI (e:TypeId) (v:Value) (xs:List Nat):ownT e natL 1 v xs=ownT e intL 1 v (xs.map Int.ofNat):=by
 unfold ownT
 rw[List.length_map,List.flatMap_map];rfl
theorem own_prI (e:TypeId) (v:Value) (xs:List (Nat × Nat)):ownT e prL 2 v xs=ownT e ipL 2 v (xs.map fun p=>((p.1:Int),(p.2:Int))):=by
 unfold ownT
 rw[List.length_map,List.flatMap_map];rfl
theorem snapO (b:Nat) (c:Cfg) (s:St) (R:List Asn) (hc:CfOk c) (hi:Inv c s):Spec 13 [ptr b] (engB b c s::R) fun u L'=>∃ h1 h2 h3 h4 h5 h6,u=snV (snOf c s h1 h2 h3 h4 h5 h6)∧L'=ownT 62 valL 7 (sl h1) s.V::ownT 3 intL 1 (sl h2) (s.pe.map Int.ofNat)::ownT 3 intL 1 (sl h3) (s.fo.map Int.ofNat)::ownT 3 intL 1 (sl h4) (s.vo.map Int.ofNat)::ownT 77 ipL 2 (sl h5) (s.me.map fun p=>((p.1:Int),(p.2:Int)))::ownT 79 rqL 2 (sl h6) s.pa::engB b c s::R :=
 Spec.conv (fun H=>snap_spec b H c s hc hi R) (fun G w M=>Mem.exo (f:=fun H:EH=>engL b H c s []) M) fun H v L' ⟨h1,h2,h3,h4,h5,h6,e,e2⟩=>⟨_,⟨h1,h2,h3,h4,h5,h6,e,rfl⟩,fun G w M=>by
  subst e2
  rw[← own_natI,← own_natI,← own_natI,← own_prI]
  have M2:Mem w (engL b H c s []++(ownT 62 valL 7 (sl h1) s.V::ownT 3 natL 1 (sl h2) s.pe::ownT 3 natL 1 (sl h3) s.fo::ownT 3 natL 1 (sl h4) s.vo::ownT 77 prL 2 (sl h5) s.me::ownT 79 rqL 2 (sl h6) s.pa::(R++G))):=M.perms permsA
  exact(Mem.exc (f:=fun H:EH=>engL b H c s []) H M2).perms permsA⟩
def slL (h:SlH):List Value:=[sl h]
instance slEL:EL slL 1:=⟨fun _=>rfl,fun x u h=>by simp[slL] at h;subst h;rfl⟩
end
end Go.Proofs.YtjbfcacmdahnhaaGreat
