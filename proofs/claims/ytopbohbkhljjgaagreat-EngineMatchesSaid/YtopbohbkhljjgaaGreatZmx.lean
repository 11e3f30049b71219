import Derived.Test.YtopbohbkhljjgaaGreatZmw
set_option linter.unusedVariables false
set_option linter.unusedSimpArgs false
set_option linter.unusedSectionVars false
set_option maxRecDepth 100000
set_option maxHeartbeats 8000000
namespace Go.Proofs.YtopbohbkhljjgaaGreat
section
open Go.RowKit
section
variable {o:Oper} {n:Nat} {l:List (Nat × Value)} {L:List Asn}
theorem rt_neS {t ty:TypeId} {x y:Operand} (ho:o.op=.binOp .neq t x y ty) {k:IntKind} {m:Int} (hx:evl l x=some (.int k m)) (hy:evl l y=some (.int k m)):RT o l L n (.bool false):=fun a w F M=>by
 unfold execOp
 rw[ho]
 simp[F.eval hx,F.eval hy,eqGuard,binOp,Op.intCmp]
end
theorem same1_spec (i x:Int) (R:List Asn):Spec 100 [rqW i x,rqW i x] R fun u L'=>u=.bool true∧L'=R:=by
 refine zGz Tryz.func100 ?_;intro G;(repeat'(first|refine zA zk100 ?_;repeat intro nb|refine zB ?_ ?_<;>intro hc<;>try exact no hc|refine zH ?_ ?_<;>(intro hg;rw[hg];try exact no hg)));all_goals try refine⟨fun a w F M=>?_⟩
 all_goals refine zE F M ?_
 refine⟨_,_,rfl,⟨?_,rfl⟩,M.perms permsA⟩
 simp[tupOf]
theorem eqf_spec (v1 v2:Value) (q:List (Nat × Int)) (R:List Asn) (g1:GS R 2 v1 q.length (q.flatMap rqL)) (g2:GS R 2 v2 q.length (q.flatMap rqL)):Spec 99 [v1,v2,.func (.func 100) #[] #[]] R fun u L'=>u=.bool true∧L'=R:=by
 refine zGo Tryz.func99 ?_;intro G w M a F
 have hG:GS (R++G) 2 v1 q.length (q.flatMap rqL):=Gives.app g1
 have hH:GS (R++G) 2 v2 q.length (q.flatMap rqL):=Gives.app g2
 have hlv:=hG.len_le M
 (try refine zI F M ?_;clear F M a;try clear w);(repeat'(first|refine zA zk99 ?_;repeat intro nb|refine zB ?_ ?_<;>intro hc<;>try exact no hc|refine zH ?_ ?_<;>(intro hg;rw[hg];try exact no hg)));all_goals try refine⟨fun a w F M=>?_⟩
 refine svLoop F M (0:Nat) (fun k=>[(17,.int .i64 k)]) (fun _=>[]) (fun k=>k≤q.length) (fun k=>q.length - k) [] (Nat.zero_le _) ?_
 (rintro k q1 a w F M;(try simp only[zc,zn] at F M q1 ⊢))
 by_cases hk:k<q.length
 ·obtain ⟨⟨i,x⟩,hp⟩:∃ p,q[k]? = some p:=⟨q[k],by simp[hk]⟩
  (try refine zI F M ?_;clear F M a;try clear w);(repeat'(first|refine zA zk99 ?_;repeat intro nb|refine zC ?_;refine acF (k:=100) (same1_spec i x _) ?_;rintro u L' ⟨rfl,rfl⟩|refine zB ?_ ?_<;>intro hc<;>try exact no hc|refine zH ?_ ?_<;>(intro hg;rw[hg];try exact no hg)));all_goals try refine⟨fun a w F M=>?_⟩
  exact sv_again F M (k+1) kpA permsA (by omega) (by omega)
 obtain rfl:k=q.length:=by omega
 (try refine zI F M ?_;clear F M a;try clear w);(repeat'(first|refine zA zk99 ?_;repeat intro nb|refine zB ?_ ?_<;>intro hc<;>try exact no hc|refine zH ?_ ?_<;>(intro hg;rw[hg];try exact no hg)));all_goals exact zXz
theorem runb_spec (b:Nat) (z:RH) (c:Cfg) (bk ep at':Int) (V:List Val) (hl:V.length≤4096) (R:List Asn) (hg:GS R 7 (sl z.hV) V.length (V.flatMap valL)):Spec 102 [ptr b] (pt b (rfC z c bk ep at') 97::R) fun u L'=>u=.int .i64 ((V.filter pBond).length:Int)∧L'=pt b (rfC z c bk ep at') 97::R:=by
 refine zGo Tryz.func102 ?_;intro G w M a F
 have hG:GS (R++G) 7 (sl z.hV) V.length (V.flatMap valL):=Gives.app hg
 (try refine zI F M ?_;clear F M a;try clear w);(repeat'(first|refine zA zk102 ?_;repeat intro nb|refine zB ?_ ?_<;>intro hc<;>try exact no hc|refine zH ?_ ?_<;>(intro hg;rw[hg];try exact no hg)));all_goals try refine⟨fun a w F M=>?_⟩
 refine svLoop F M ((0,0):Nat × Nat) (fun y=>[(4,.int .i64 y.1),(3,.int .i64 y.2)]) (fun _=>[]) (fun y=>y.1≤V.length∧y.2=((V.take y.1).filter pBond).length) (fun y=>V.length - y.1) [] ⟨Nat.zero_le _,by simp⟩ ?_
 (rintro⟨k,m⟩ ⟨q1,q2⟩ a w F M;(try simp only[zc,zn] at F M q1 q2 ⊢))
 by_cases hk:k<V.length
 ·obtain ⟨v,hv⟩:∃ v,V[k]? = some v:=⟨V[k],by simp[hk]⟩
  have hm:m≤4096:=by have:=List.length_filter_le pBond (V.take k);rw[List.length_take] at this;omega
  have e:((V.take (k+1)).filter pBond).length=m+(if pBond v=true then 1 else 0):=by
   rw[List.take_add_one,hv,List.filter_append,List.length_append,← q2]
   simp only[Option.toList_some,List.filter_cons,List.filter_nil]
   split<;>simp
  obtain ⟨bal,st,slz,rq,ex,wd,dl⟩:=v
  by_cases h4:st=4
  ·subst h4
   (try refine zI F M ?_;clear F M a;try clear w);(repeat'(first|refine zA zk102 ?_;repeat intro nb|refine zB ?_ ?_<;>intro hc<;>try exact no hc|refine zH ?_ ?_<;>(intro hg;rw[hg];try exact no hg)));all_goals try refine⟨fun a w F M=>?_⟩
   exact sv_again F M (k+1,m+1) kpA permsA ⟨by simp only;omega,by simp only;rw[e];simp[pBond]⟩ (by simp only;omega)
  by_cases h3:st=3
  ·subst h3
   by_cases hx:ex = -1
   ·subst hx
    (try refine zI F M ?_;clear F M a;try clear w);(repeat'(first|refine zA zk102 ?_;repeat intro nb|refine zB ?_ ?_<;>intro hc<;>try exact no hc|refine zH ?_ ?_<;>(intro hg;rw[hg];try exact no hg)));all_goals try refine⟨fun a w F M=>?_⟩
    exact sv_again F M (k+1,m) kpA permsA ⟨by simp only;omega,by simp only;rw[e];simp[pBond]⟩ (by simp only;omega)
   ·(try refine zI F M ?_;clear F M a;try clear w);(repeat'(first|refine zA zk102 ?_;repeat intro nb|refine zB ?_ ?_<;>intro hc<;>try exact no hc|refine zH ?_ ?_<;>(intro hg;rw[hg];try exact no hg)));all_goals try refine⟨fun a w F M=>?_⟩
    all_goals first|(exfalso;simp_all;done)|exact sv_again F M (k+1,m+1) kpA permsA ⟨by simp only;omega,by simp only;rw[e];simp[pBond,hx]⟩ (by simp only;omega)
  ·(try refine zI F M ?_;clear F M a;try clear w);(repeat'(first|refine zA zk102 ?_;repeat intro nb|refine zB ?_ ?_<;>intro hc<;>try exact no hc|refine zH ?_ ?_<;>(intro hg;rw[hg];try exact no hg)));all_goals try refine⟨fun a w F M=>?_⟩
   all_goals first|(exfalso;simp_all;done)|exact sv_again F M (k+1,m) kpA permsA ⟨by simp only;omega,by simp only;rw[e];simp[pBond,h4,h3]⟩ (by simp only;omega)
 obtain rfl:k=V.length:=by omega
 rw[List.take_of_length_le (by omega)] at q2
 subst q2
 (try refine zI F M ?_;clear F M a;try clear w);(repeat'(first|refine zA zk102 ?_;repeat intro nb|refine zB ?_ ?_<;>intro hc<;>try exact no hc|refine zH ?_ ?_<;>(intro hg;rw[hg];try exact no hg)));all_goals exact zXz
section
variable (b:Nat) (z:RH) (c:Cfg) (s:St) (hc:CfOk c) (hi:Inv c s) (h1 h2 h3 h4 h5 h6:SlH) (R:List Asn)
include hc hi
theorem same22_spec (g1:GS R 7 (sl h1) s.V.length (s.V.flatMap valL)) (g2:GS R 1 (sl h2) s.pe.length (s.pe.flatMap natL)) (g3:GS R 1 (sl h3) s.fo.length (s.fo.flatMap natL)) (g4:GS R 1 (sl h4) s.vo.length (s.vo.flatMap natL)) (g5:GS R 2 (sl h5) s.me.length (s.me.flatMap prL)) (g6:GS R 2 (sl h6) s.pa.length (s.pa.flatMap rqL)) :
  Spec 46 [snV (snOf c s h1 h2 h3 h4 h5 h6),ptr b] (refL b z c s R) fun u L'=>u=.int .i64 1∧L'=refL b z c s R:=by
 have hcap:=hi.cap;have hca:=hc.ca
 have hl:s.V.length≤4096:=by omega
 have hb0:=hi.bal0
 have hac:=actv_le s.V hb0
 have hsum:=hi.sum
 have htot:=hi.tot
 have hsm:=fun (R:List Asn) hg hg2=>rsame7_spec s.V (sl h1) R hg (by omega) (sl z.hV) hg2
 have hav:=fun (R:List Asn) hg=>ractive_spec s.V (sl z.hV) R hg (by omega) hb0 (by omega)
 have hub:=fun (R:List Asn) hg=>runb_spec b z c s.bk (epo c s) s.at' s.V hl R hg
 have e0:=ix_count hi.bo pBond_iff
 rw[List.length_map] at e0
 rw[e0] at hub
 have en:∀ (x y:SlH) (l:List Nat) {L:List Asn},GS L 1 (sl x) l.length (l.flatMap natL)→GS L 1 (sl y) l.length (l.flatMap natL)→Reads 20 [sl x,sl y] (.bool true) L:=fun x y l _ g1 g2=>by simpa using eqs_nat (sl x) (sl y) l l g1 g2
 have e5:∀ {L:List Asn},GS L 2 (sl h5) s.me.length (s.me.flatMap prL)→GS L 2 (sl z.hM) s.me.length (s.me.flatMap prL)→Reads 87 [sl h5,sl z.hM] (.bool true) L:=fun g1 g2=>by simpa using eqs_pr (sl h5) (sl z.hM) s.me s.me g1 g2
 intro G w M
 obtain ⟨f1,f2,M2,fe1,fe2⟩:=rln_open z.ln M
 obtain ⟨z1,z2,z3,z4,M3⟩:=rmt_open z.mt (M2.pull pullA)
 clear M M2
 have M:=M3
 clear M3
 replace g1:GS (R++G) 7 (sl h1) s.V.length (s.V.flatMap valL):=Gives.app g1
 replace g2:GS (R++G) 1 (sl h2) s.pe.length (s.pe.flatMap natL):=Gives.app g2
 replace g3:GS (R++G) 1 (sl h3) s.fo.length (s.fo.flatMap natL):=Gives.app g3
 replace g4:GS (R++G) 1 (sl h4) s.vo.length (s.vo.flatMap natL):=Gives.app g4
 replace g5:GS (R++G) 2 (sl h5) s.me.length (s.me.flatMap prL):=Gives.app g5
 replace g6:GS (R++G) 2 (sl h6) s.pa.length (s.pa.flatMap rqL):=Gives.app g6
 (refine zGe Tryz.func46 ?_;intro a F;(try simp only[zc,zn] at M))
 (try refine zI F M ?_;clear F M a;try clear w);(repeat'(first|refine zV (h:=⟨_,by((apply rt_neS;(exact rfl);(exact rfl);(exact rfl))),?_⟩)|refine zA1 zk46 ?_;repeat intro(nb:Nat)|refine zC ?_;(first|refine acW (k:=99) (eqf_spec _ _ s.pa _ ?_ ?_) ?_;exact gsA;exact gsA;rintro u L' ⟨rfl,rfl⟩|refine acW (k:=101) (hsm _ ?_ ?_) ?_;exact gsA;exact gsA;rintro u L' ⟨rfl,rfl⟩|refine acW (k:=41) (hav _ ?_) ?_;exact gsA;rintro u L' ⟨rfl,rfl⟩|refine acCall (k:=20) ?_;(first|refine Spec.of_reads (en h2 z.hP s.pe gsA gsA) rfl ?_|refine Spec.of_reads (en h3 f1 s.fo gsA gsA) rfl ?_|refine Spec.of_reads (en h4 f2 s.vo gsA gsA) rfl ?_)|refine acCall (k:=87) ?_;refine Spec.of_reads (e5 gsA gsA) rfl ?_|refine acK (L1:=pt b (rfC z c s.bk (epo c s) s.at') 97::_) (k:=102) (hub _ ?_) ?_;exact gsA;rintro u L' ⟨rfl,rfl⟩)|refine zB ?_ ?_<;>intro hc<;>try exact no hc|refine zH ?_ ?_<;>(intro hg;rw[hg];try exact no hg)));all_goals try refine⟨fun a w F M=>?_⟩
 all_goals refine zE F M ?_
 have M2:Mem _ (rmtA z.mt s.ca::(rlnL z.ln f1 f2 (qS c) s.fo s.vo (pt b (rfC z c s.bk (epo c s) s.at') 97::rldC z.ld c.supplyCap s.dep s.pd s.bu::roT valL 7 (sl z.hV) s.V::roT natL 1 (sl z.hP) s.pe::roT prL 2 (sl z.hM) s.me::roT rqL 2 (sl z.hQ) s.pa::(R++G)))):=rmt_close z.mt (M.perms permsA)
 exact⟨_,_,rfl,⟨rfl,rfl⟩,rln_close z.ln (h1:=f1) (h2:=f2) (M2.perms permsA)⟩
theorem same22B:Spec 46 [snV (snOf c s h1 h2 h3 h4 h5 h6),ptr b] (snA s h1 h2 h3 h4 h5 h6::refB b c s::R) fun u L'=>u=.int .i64 1∧L'=refB b c s::R :=
 Spec.conv (fun z:RH=>same22_spec b z c s hc hi h1 h2 h3 h4 h5 h6 (ownT 48 valL 7 (sl h1) s.V::ownT 3 natL 1 (sl h2) s.pe::ownT 3 natL 1 (sl h3) s.fo::ownT 3 natL 1 (sl h4) s.vo::ownT 89 prL 2 (sl h5) s.me::ownT 91 rqL 2 (sl h6) s.pa::R) gsA gsA gsA gsA gsA gsA) (fun G w M=>by
  obtain ⟨_,M1⟩:=Mem.exo M
  have M2:Mem w (refB b c s::(ownT 48 valL 7 (sl h1) s.V::ownT 3 natL 1 (sl h2) s.pe::ownT 3 natL 1 (sl h3) s.fo::ownT 3 natL 1 (sl h4) s.vo::ownT 89 prL 2 (sl h5) s.me::ownT 91 rqL 2 (sl h6) s.pa::(R++G))):=M1.perms permsA
  obtain ⟨z,M3⟩:=Mem.exo (f:=fun z:RH=>refL b z c s []) M2
  exact⟨z,M3⟩) fun z v L' ⟨e,e2⟩=>⟨_,⟨e,rfl⟩,fun G w M=>by
  subst e2
  have M2:Mem w (refL b z c s []++(R++G)):=M.perms permsA
  exact Mem.exc (f:=fun z:RH=>refL b z c s []) z M2⟩
end
theorem configB (b:Nat) (c:Cfg) (s:St) (R:List Asn):Spec 42 [ptr b] (engB b c s::R) fun u L'=>u=cfgV c∧L'=engB b c s::R :=
 Spec.conv (fun H=>config_spec b H c s R) (fun G w M=>Mem.exo (f:=fun H:EH=>engL b H c s []) M) fun H v L' ⟨e,e2⟩=>⟨_,⟨e,rfl⟩,fun G w M=>by subst e2;exact Mem.exc (f:=fun H:EH=>engL b H c s []) H M⟩
end
section
open Go.RowKit
section
variable {x y:Rc} {sx px sy py:SlH} {L:List Asn}
theorem rsame_reads (hx:RcG L x sx px) (hy:RcG L y sy py):Reads 44 [rcV x sx px,rcV y sy py] (.bool (decide (x=y))) L:=by
 generalize hR:decide (x=y)=R
 (intro K hK w M;refine sx_enter (vs:=[rcV x sx px,rcV y sy py]) Tryz.func44 (n:=108) rfl rfl rfl rfl ?_;intro a F)
 have h1:=hx.a.imp hK
 have h2:=hx.p.imp hK
 have h3:=hy.a.imp hK
 have h4:=hy.p.imp hK
 have hl1:=h1.len_le M
 have hl2:=h2.len_le M
 have hl3:=h3.len_le M
 have hl4:=h4.len_le M
 (try refine zI F M ?_;clear F M a;try clear w);(repeat'(first|refine zV (h:=⟨_,by(first|(apply(rt_neqT (f:=asgL));(exact rfl);(exact rfl);(exact rfl);(exact inferInstance);(exact inferInstance))|(apply(rt_neqT (f:=pmL));(exact rfl);(exact rfl);(exact rfl);(exact inferInstance);(exact inferInstance))),?_⟩)|refine zA1 zk44 ?_;repeat intro(b:Nat)|refine zB ?_ ?_<;>intro hc<;>try exact no hc|refine zH ?_ ?_<;>(intro hg;rw[hg];try exact no hg)));all_goals try refine⟨fun a w F M=>?_⟩
 all_goals try((first|(refine svEnd F M ?_)|(refine svRet F M ?_));refine⟨?_,M.perms permsA⟩;(have hne:R=false:=by(rw[← hR];simp only[decide_eq_false_iff_not];intro he;subst he;simp at *));(rw[hne];rfl);done)
 have hla:x.asg.length=y.asg.length:=by simp_all;omega
 have hlp:x.pms.length=y.pms.length:=by omega
 have hR':R=(decide (x.asg.drop 0=y.asg.drop 0) && decide (x.pms=y.pms)):=by rw[← hR,rc_eq];simp_all
 refine svLoop F M (0:Nat) (fun i=>[(5,.int .i64 i)]) (fun _=>[]) (fun i=>i≤x.asg.length∧R=(decide (x.asg.drop i=y.asg.drop i) && decide (x.pms=y.pms))) (fun i=>x.asg.length - i) [] ⟨by omega,hR'⟩ ?_
 (rintro k ⟨q1,q2⟩ a w F M;(try simp only[zc,zn] at F M q1 q2 ⊢))
 by_cases hlt:k<x.asg.length
 ·obtain ⟨u,hu⟩:∃ u,x.asg[k]? = some u:=⟨x.asg[k],by simp[hlt]⟩
  obtain ⟨v,hv⟩:∃ v,y.asg[k]? = some v:=⟨y.asg[k]'(by omega),by rw[List.getElem?_eq_getElem (by omega)]⟩
  rw[drop_cons hu,drop_cons hv] at q2
  by_cases he:u=v
  ·subst he
   (try refine zI F M ?_;clear F M a;try clear w);(repeat'(first|refine zV (h:=⟨_,by(first|(apply(rt_neqT (f:=asgL));(exact rfl);(exact rfl);(exact rfl);(exact inferInstance);(exact inferInstance))|(apply(rt_neqT (f:=pmL));(exact rfl);(exact rfl);(exact rfl);(exact inferInstance);(exact inferInstance))),?_⟩)|refine zA1 zk44 ?_;repeat intro(b:Nat)|refine zB ?_ ?_<;>intro hc<;>try exact no hc|refine zH ?_ ?_<;>(intro hg;rw[hg];try exact no hg)));all_goals try refine⟨fun a w F M=>?_⟩
   (refine sv_again F M (k+1) kpA permsA ?_ ?_)
   ·exact⟨by omega,by rw[q2];simp⟩
   ·omega
  ·(try refine zI F M ?_;clear F M a;try clear w);(repeat'(first|refine zV (h:=⟨_,by(first|(apply(rt_neqT (f:=asgL));(exact rfl);(exact rfl);(exact rfl);(exact inferInstance);(exact inferInstance))|(apply(rt_neqT (f:=pmL));(exact rfl);(exact rfl);(exact rfl);(exact inferInstance);(exact inferInstance))),?_⟩)|refine zA1 zk44 ?_;repeat intro(b:Nat)|refine zB ?_ ?_<;>intro hc<;>try exact no hc|refine zH ?_ ?_<;>(intro hg;rw[hg];try exact no hg)));all_goals try refine⟨fun a w F M=>?_⟩
   (all_goals((first|(refine svEnd F M ?_)|(refine svRet F M ?_));refine⟨?_,M.perms permsA⟩))
   rw[q2];simp[tupOf,he]
 ·rw[List.drop_of_length_le (by omega),List.drop_of_length_le (by omega)] at q2
  have q3:R=decide (x.pms.drop 0=y.pms.drop 0):=by rw[q2];simp
  (try refine zI F M ?_;clear F M a;try clear w);(repeat'(first|refine zV (h:=⟨_,by(first|(apply(rt_neqT (f:=asgL));(exact rfl);(exact rfl);(exact rfl);(exact inferInstance);(exact inferInstance))|(apply(rt_neqT (f:=pmL));(exact rfl);(exact rfl);(exact rfl);(exact inferInstance);(exact inferInstance))),?_⟩)|refine zA1 zk44 ?_;repeat intro(b:Nat)|refine zB ?_ ?_<;>intro hc<;>try exact no hc|refine zH ?_ ?_<;>(intro hg;rw[hg];try exact no hg)));all_goals try refine⟨fun a w F M=>?_⟩
  refine svLoop F M (0:Nat) (fun i=>[(6,.int .i64 i)]) (fun _=>[]) (fun i=>i≤x.pms.length∧R=decide (x.pms.drop i=y.pms.drop i)) (fun i=>x.pms.length - i) [] ⟨by omega,q3⟩ ?_
  (rintro k ⟨q1,q2⟩ a w F M;(try simp only[zc,zn] at F M q1 q2 ⊢))
  by_cases hlt:k<x.pms.length
  ·obtain ⟨u,hu⟩:∃ u,x.pms[k]? = some u:=⟨x.pms[k],by simp[hlt]⟩
   obtain ⟨v,hv⟩:∃ v,y.pms[k]? = some v:=⟨y.pms[k]'(by omega),by rw[List.getElem?_eq_getElem (by omega)]⟩
   rw[drop_cons hu,drop_cons hv] at q2
   by_cases he:u=v
   ·subst he
    (try refine zI F M ?_;clear F M a;try clear w);(repeat'(first|refine zV (h:=⟨_,by(first|(apply(rt_neqT (f:=asgL));(exact rfl);(exact rfl);(exact rfl);(exact inferInstance);(exact inferInstance))|(apply(rt_neqT (f:=pmL));(exact rfl);(exact rfl);(exact rfl);(exact inferInstance);(exact inferInstance))),?_⟩)|refine zA1 zk44 ?_;repeat intro(b:Nat)|refine zB ?_ ?_<;>intro hc<;>try exact no hc|refine zH ?_ ?_<;>(intro hg;rw[hg];try exact no hg)));all_goals try refine⟨fun a w F M=>?_⟩
    (refine sv_again F M (k+1) kpA permsA ?_ ?_)
    ·exact⟨by omega,by rw[q2];simp⟩
    ·omega
   ·(try refine zI F M ?_;clear F M a;try clear w);(repeat'(first|refine zV (h:=⟨_,by(first|(apply(rt_neqT (f:=asgL));(exact rfl);(exact rfl);(exact rfl);(exact inferInstance);(exact inferInstance))|(apply(rt_neqT (f:=pmL));(exact rfl);(exact rfl);(exact rfl);(exact inferInstance);(exact inferInstance))),?_⟩)|refine zA1 zk44 ?_;repeat intro(b:Nat)|refine zB ?_ ?_<;>intro hc<;>try exact no hc|refine zH ?_ ?_<;>(intro hg;rw[hg];try exact no hg)));all_goals try refine⟨fun a w F M=>?_⟩
    (all_goals((first|(refine svEnd F M ?_)|(refine svRet F M ?_));refine⟨?_,M.perms permsA⟩))
    rw[q2];simp[tupOf,he]
  ·(try refine zI F M ?_;clear F M a;try clear w);(repeat'(first|refine zV (h:=⟨_,by(first|(apply(rt_neqT (f:=asgL));(exact rfl);(exact rfl);(exact rfl);(exact inferInstance);(exact inferInstance))|(apply(rt_neqT (f:=pmL));(exact rfl);(exact rfl);(exact rfl);(exact inferInstance);(exact inferInstance))),?_⟩)|refine zA1 zk44 ?_;repeat intro(b:Nat)|refine zB ?_ ?_<;>intro hc<;>try exact no hc|refine zH ?_ ?_<;>(intro hg;rw[hg];try exact no hg)));all_goals try refine⟨fun a w F M=>?_⟩
   (all_goals((first|(refine svEnd F M ?_)|(refine svRet F M ?_));refine⟨?_,M.perms permsA⟩))
   rw[q2,List.drop_of_length_le (by omega),List.drop_of_length_le (by omega)];rfl
end
end
section
open Go.RowKit
theorem rsame_self {L:List Asn} {x:Rc} {sx px sy py:SlH} (hx:RcG L x sx px) (hy:RcG L x sy py):Reads 44 [rcV x sx px,rcV x sy py] (.bool true) L:=by
 have:=rsame_reads hx hy
 simpa using this
section
variable (c:Cfg) (v:Value) (l:List Opn) (R:List Asn) (hg:GS R 4 v l.length (l.flatMap opL)) (h0:0≤c.forcedCap) (h1:0≤c.penNum) (hwf:∀ o∈l,I64 o.k∧U64 o.am)
include hg h0 h1 hwf
theorem matches22_law:Spec 11 [cfgV c,v] R fun u L'=>u=.bool true∧L'=R:=by
 have hal:=fun R=>alive22_spec R
 have hrc:=fun R=>rcheck_spec c R
 by_cases hck:checkF c=0
 ·have hcf:CfOk c:=cfOk_of hck h0 h1
  have hnw:=fun R=>newB c R hcf hck
  have hcg:=fun (b:Nat) (s:St) R=>configB b c s R
  rw[hck] at hrc
  by_cases hF:Fit c l.length
  ·have hnl:=hF.n
   have hft:=fun (R:List Asn) hg=>fits_yes c v l R hg hF
   have hrn:=fun R=>rnewB c hcf R
   refine zGo Tryz.func11 ?_;intro G w M a F
   have hG:GS (R++G) 4 v l.length (l.flatMap opL):=Gives.app hg
   (try refine zI F M ?_;clear F M a;try clear w);(repeat'(first|refine zA zk11 ?_;repeat intro nb|refine zC ?_;(first|refine kpW (k:=30) (hal _) ?_|refine kpW (k:=16) (hrc _) ?_|refine acW (k:=28) (hnw _) ?_;rintro u L' ⟨eb,rfl,rfl⟩|refine acK (L1:=engB eb c St.ini::_) (k:=42) (hcg eb _ _) ?_;rintro u L' ⟨rfl,rfl⟩|refine acW (k:=29) (hft _ ?_) ?_;exact gsA;rintro u L' ⟨rfl,rfl⟩|refine acW (k:=43) (hrn _) ?_;rintro u L' ⟨rb,rfl,rfl⟩)|refine zB ?_ ?_<;>intro hc<;>try exact no hc|refine zH ?_ ?_<;>(intro hg;rw[hg];try exact no hg)));all_goals try refine⟨fun a w F M=>?_⟩
   refine svLoop F M ((0,St.ini):Nat × St) (fun y=>[(48,.int .i64 y.1)]) (fun y=>[engB eb c y.2,refB rb c y.2]) (fun y=>y.1≤l.length∧Inv c y.2∧y.2.bk≤y.1) (fun y=>l.length - y.1) [] ⟨Nat.zero_le _,Inv.ini hcf,Nat.le_refl _⟩ ?_
   (rintro⟨k,s⟩ ⟨q1,q2,q3⟩ a w F M;(try simp only[zc,zn] at F M q1 q2 q3 ⊢))
   by_cases hk:k<l.length
   ·obtain ⟨o,ho⟩:∃ o,l[k]? = some o:=⟨l[k],by simp[hk]⟩
    obtain ⟨ho1,ho2⟩:=hwf o (List.mem_of_getElem? ho)
    have hap:=fun R=>applyB eb c s hcf R q2 (by omega) o ho1 ho2
    have hrp:=fun R=>rapplyB rb c s hcf R q2 (by omega) o ho2
    obtain ⟨n1,n2⟩:=stepM_inv hcf q2 (by omega) o ho2
    generalize stepM c s o=Y at *
    obtain ⟨⟨y1,y2,y3,y4,y5,y6,y7,y8,y9⟩,s2⟩:=Y
    simp only at hap hrp n1 n2
    have hsn:=fun R=>snapB eb c s2 R hcf n1
    have hsm:=fun (a1 a2 a3 a4 a5 a6:SlH) R=>same22B rb c s2 hcf n1 a1 a2 a3 a4 a5 a6 R
    obtain ⟨ok,oi,ot,oa⟩:=o
    (try refine zI F M ?_;clear F M a;try clear w);(repeat'(first|refine zA zk11 ?_;repeat intro nb|refine zC ?_;(first|refine acK (L1:=engB eb c s::_) (k:=31) (hap _) ?_;rintro u L' ⟨ha,hp,rfl,rfl⟩|refine acK (L1:=refB rb c s::_) (k:=45) (hrp _) ?_;rintro u L' ⟨ha2,hp2,rfl,rfl⟩|refine acCall (k:=44) ?_;refine Spec.of_reads (rsame_self (x:=⟨y1,y2,y3,y4,y5,y6,y7,y8,y9⟩) (sx:=ha) (px:=hp) (sy:=ha2) (py:=hp2) ⟨gsA,gsA⟩ ⟨gsA,gsA⟩) rfl ?_|refine acK (L1:=engB eb c s2::_) (k:=33) (hsn _) ?_;rintro u L' ⟨a1,a2,a3,a4,a5,a6,rfl,rfl⟩|refine acK (L1:=snA s2 a1 a2 a3 a4 a5 a6::refB rb c s2::_) (k:=46) (hsm a1 a2 a3 a4 a5 a6 _) ?_;rintro u L' ⟨rfl,rfl⟩)|refine zB ?_ ?_<;>intro hc<;>try exact no hc|refine zH ?_ ?_<;>(intro hg;rw[hg];try exact no hg)));all_goals try refine⟨fun a w F M=>?_⟩
    all_goals first|(exfalso;simp_all;done)|exact sv_again F M (k+1,s2) kpA permsA ⟨by simp only;omega,n1,by simp only;omega⟩ (by simp only;omega)
   obtain rfl:k=l.length:=by omega
   (try refine zI F M ?_;clear F M a;try clear w);(repeat'(first|refine zA zk11 ?_;repeat intro nb|refine zC ?_;(first|refine kpW (k:=30) (hal _) ?_|refine kpW (k:=16) (hrc _) ?_)|refine zB ?_ ?_<;>intro hc<;>try exact no hc|refine zH ?_ ?_<;>(intro hg;rw[hg];try exact no hg)));all_goals try refine⟨fun a w F M=>?_⟩
   all_goals refine zE F M ?_
   exact⟨_,_,rfl,⟨rfl,rfl⟩,M.perms permsA⟩
  ·have hft:=fun (R:List Asn) hg=>fits_no c v l R hg hF
   refine zGo Tryz.func11 ?_;intro G w M a F
   have hG:GS (R++G) 4 v l.length (l.flatMap opL):=Gives.app hg
   (try refine zI F M ?_;clear F M a;try clear w);(repeat'(first|refine zA zk11 ?_;repeat intro nb|refine zC ?_;(first|refine kpW (k:=30) (hal _) ?_|refine kpW (k:=16) (hrc _) ?_|refine acW (k:=28) (hnw _) ?_;rintro u L' ⟨eb,rfl,rfl⟩|refine acK (L1:=engB eb c St.ini::_) (k:=42) (hcg eb _ _) ?_;rintro u L' ⟨rfl,rfl⟩|refine acW (k:=29) (hft _ ?_) ?_;exact gsA;rintro u L' ⟨rfl,rfl⟩)|refine zB ?_ ?_<;>intro hc<;>try exact no hc|refine zH ?_ ?_<;>(intro hg;rw[hg];try exact no hg)));all_goals try refine⟨fun a w F M=>?_⟩
   all_goals refine zE F M ?_
   all_goals exact⟨_,_,rfl,⟨rfl,rfl⟩,M.perms permsA⟩
 ·have hnw:=fun R=>eng_newN c hck R
  obtain ⟨X,hX⟩:∃ X:Int,(checkF c:Int)=X:=⟨_,rfl⟩
  have hX0:X≠0:=by rw[← hX];intro h;exact hck (by omega)
  simp only[hX] at hrc
  have hd:decide (X≠0)=true:=by simpa using hX0
  refine zGz Tryz.func11 ?_;intro G;(repeat'(first|refine zA zk11 ?_;repeat intro nb|refine zC ?_;(first|refine kpW (k:=30) (hal _) ?_|refine kpW (k:=16) (hrc _) ?_|refine kpW (k:=28) (hnw _) ?_)|refine zB ?_ ?_<;>intro hc<;>try exact no hc|refine zH ?_ ?_<;>(intro hg;rw[hg];try exact no hg)));all_goals try refine⟨fun a w F M=>?_⟩
  all_goals first|(exfalso;simp_all;done)|skip
  all_goals refine zE F M ?_
  all_goals exact⟨_,_,rfl,⟨rfl,rfl⟩,M.perms permsA⟩
end
end
section
open Go.RowKit
theorem start_EngineMatches (w:World) (ks:Array Value) (hk:HasSh w cfgSh ks.toList) (v:Value) (hv:HasSh w (.slice 4 oprSh) [v]):Calls Tryz.prog 11 #[.agg ks,v] w fun e w'=>e=.returned (.bool true)∧Below w.heap.size w w':=by
 obtain ⟨c,rfl,h0,h1⟩:=cfg_ops hk
 obtain ⟨l,gl,hl⟩:=ops_sh hv
 exact law_old (us:=[cfgV c,v]) (matches22_law c v l [Old w] gl h0 h1 hl)
end
end Go.Proofs.YtopbohbkhljjgaaGreat
