import Derived.Test.YtjbfcacmdahnhaaGreatZrv
set_option linter.unusedVariables false
set_option linter.unusedSimpArgs false
set_option linter.unusedSectionVars false
set_option maxRecDepth 100000
set_option maxHeartbeats 8000000
namespace Go.Proofs.YtjbfcacmdahnhaaGreat
section
open Go.RowKit
theorem rready_spec (b:Nat) (z:RH) (c:Cfg) (bk ep at':Int) (V:List Val) (hl:V.length≤4096) (R:List Asn) (hg:GS R 7 (sl z.hV) V.length (V.flatMap valL)):Spec 155 [ptr b] (pt b (rfC z c bk ep at') 85::R) fun u L'=>∃ h,u=sl h∧L'=ownT 4 boL 1 (sl h) (rdy V)::pt b (rfC z c bk ep at') 85::R:=by
 have hrl:(rdy V).length=V.length:=by simp[rdy]
 refine zGo Tryz.func155 ?_;intro G w M a F
 have hG:GS (R++G) 7 (sl z.hV) V.length (V.flatMap valL):=Gives.app hg
 have M:=M.own_nil 4 1
 (try refine zI zk155 F M ?_;clear F M a;try clear w);(repeat'(first|refine zA ?_;repeat intro nb|refine zB ?_ ?_<;>intro hc<;>try exact no hc|refine zH ?_ ?_<;>(intro hg;rw[hg];try exact no hg)));all_goals try refine zO fun a w F M=>?_
 refine svLoop F M ((0,nilH):Nat × SlH) (fun y=>[(4,.int .i64 y.1),(3,sl y.2)]) (fun y=>[ownT 4 boL 1 (sl y.2) ((rdy V).take y.1)]) (fun y=>y.1≤V.length) (fun y=>V.length - y.1) [] (Nat.zero_le _) ?_ (hR:=by simp only[List.take_zero];(repeat (first|exact Pulls.nil|(apply Pulls.cons;(focus ((repeat (first|exact Pull.here|apply Pull.there));done))))))
 (rintro⟨k,h⟩ q1 a w F M;(try simp only[zc,zn] at F M q1 ⊢))
 by_cases hk:k<V.length
 ·obtain ⟨v,hv⟩:∃ v,V[k]? = some v:=⟨V[k],by simp[hk]⟩
  have e:(rdy V).take (k+1)=(rdy V).take k++[decide (v.st=5)]:=by rw[List.take_add_one];simp[rdy,hv]
  have htl:((rdy V).take k).length≤4096:=by rw[List.length_take];omega
  obtain ⟨bal,st,slz,rq,ex,wd,dl⟩:=v
  simp only at e
  (try refine zI zk155 F M ?_;clear F M a;try clear w);(repeat'(first|refine zA ?_;repeat intro nb|refine zC ?_;refine ac_appendH (f:=boL) (xs:=(rdy V).take k) (ys:=[decide (st=5)]) rfl rfl inferInstance rfl rfl pullA inferInstance gsA rfl rfl (by simp;omega) ?_;intro nv|refine zB ?_ ?_<;>intro hc<;>try exact no hc|refine zH ?_ ?_<;>(intro hg;rw[hg];try exact no hg)));all_goals try refine zO fun a w F M=>?_
  rw[← e] at M
  exact sv_again F M (k+1,nv) kpA permsA (by simp only;omega) (by simp only;omega)
 obtain rfl:k=V.length:=by omega
 rw[List.take_of_length_le (by omega)] at M
 (try refine zI zk155 F M ?_;clear F M a;try clear w);(repeat'(first|refine zA ?_;repeat intro nb|refine zB ?_ ?_<;>intro hc<;>try exact no hc|refine zH ?_ ?_<;>(intro hg;rw[hg];try exact no hg)));all_goals try refine zO fun a w F M=>?_
 (all_goals(refine zE F M ?_;exact⟨_,_,rfl,⟨h,rfl,rfl⟩,M.perms permsA⟩))
section
variable (b:Nat) (z:RH) (c:Cfg) (s:St) (R:List Asn)
theorem rtick_spec (hc:CfOk c) (h:Inv c s) (hb:s.bk<1000000000):Spec 92 [ptr b] (refL b z c s R) fun u L'=>∃ ha hp z',u=rcV (tickM c s).1 ha hp∧L'=ownT 75 asgL 3 (sl ha) (tickM c s).1.asg::ownT 57 pmL 3 (sl hp) (tickM c s).1.pms::refL b z' c (tickM c s).2 R:=by
 have hel:=hc.el
 have hep:=epo_range hc (s:=s) (by omega)
 obtain ⟨S1,AG,m,hT,h1,hbk,hm,hcs⟩:∃ S1 AG,∃ m:Int,tickM c s=(⟨7,0,-1,((s.bk+1:Nat):Int),epo c S1,-1,(payM c S1).vi,AG,(payM c S1).pm⟩,(payM c S1).s)∧Inv c S1∧S1.bk=s.bk+1∧((s.bk+1:Nat):Int) % c.epochLen=m ∧
   (m=0∧epo c s+1=epo c {s with bk:=s.bk+1}∧epo c S1=epo c {s with bk:=s.bk+1}∧(∀ z R,Spec 152 [ptr b] (refL b z c {s with bk:=s.bk+1} R) fun u L'=>∃ ha z',u=sl ha∧L'=ownT 75 asgL 3 (sl ha) AG::refL b z' c S1 R)∨m≠0∧epo c s=epo c S1∧S1={s with bk:=s.bk+1}∧AG=[]):=by
  by_cases hz:((s.bk+1:Nat):Int) % c.epochLen=0
  ·have e1:=epo_next hc hz
   refine⟨(boundM c {s with bk:=s.bk+1}).s,(boundM c {s with bk:=s.bk+1}).ag,0,?_,boundM_inv hc h hb hz,rfl,hz,.inl ⟨rfl,?_,rfl,fun z R=>rboundary_spec b z c R s hc h hb hz ?_⟩⟩
   ·unfold tickM;simp only[if_pos hz];rfl
   ·omega
   ·omega
  ·refine⟨{s with bk:=s.bk+1},[],_,?_,Inv.same hc h hb hz,rfl,rfl,.inr ⟨hz,(epo_same hc hz).symm,rfl,rfl⟩⟩
   unfold tickM;simp only[if_neg hz];rfl
 rw[hT]
 obtain ⟨B,hB⟩:∃ B:Int,((s.bk+1:Nat):Int)=B:=⟨_,rfl⟩
 have hB2:(s.bk:Int)+1=B:=by rw[← hB];rfl
 have hSB:(S1.bk:Int)=B:=by rw[hbk];exact hB
 rw[hB] at hm ⊢
 simp only
 have hep1:=epo_range hc (s:=S1) (by omega)
 have hsc:=hc.sc;have hmd:=hc.md
 have hpa:=hc.pa;have hvi:=hc.vi;have hpy:=hc.py
 obtain ⟨e,q,U,vi,py,k,mm,at2,f⟩:=pyF_of hc h1
 have hat1:=h1.at'
 obtain ⟨he,hpe,hb1,g0,pal,hq,hql,hqr,hU,gU,lU,hvi2,hpy2,py1,vi1,atl,fpl,hsw,hk4,ml,mn,m5,led,tot,am0,ams,key⟩:=f
 obtain rfl:epo c S1=e:=hpe
 rw[key]
 simp only
 have hus:∀ x∈S1.V,U64 x.bal:=g0.u64v
 have hZ:q.foldl (parV c) (S1.V,[])=(U.1,fP U.2):=by
  have:=pars_eq c hc q (S1.V,[]) g0.wf fun r hr=>(hqr r hr).2.1
  rw[hU] at this
  exact this
 have hdr:S1.pa.drop c.partials.toNat=S1.pa.drop q.length:=by
  rw[← hq,List.length_take]
  by_cases hh:c.partials.toNat≤S1.pa.length
  ·rw[Nat.min_eq_left hh]
  ·rw[List.drop_eq_nil_of_le (by omega),List.drop_eq_nil_of_le (by omega)]
 rw[hdr]
 have hqp:q.length≤S1.pa.length:=by rw[← hq,List.length_take];omega
 have hvl:=g0.len
 have hps:=fun (z:RH) (R:List Asn) hg hgq=>rpstep_spec S1.V (sl z.hV) R hg hvl c hc (sl z.hQ) S1.pa hgq pal hus fun r hr=>⟨(h1.pa r hr).1,by have:=(h1.pa r hr).2;exact⟨by omega,by omega⟩⟩
 simp only[hq,hZ] at hps
 obtain ⟨U1,U2⟩:=U
 simp only at *
 obtain ⟨P,hP⟩:∃ P,fP U2=P:=⟨_,rfl⟩
 simp only[hP] at *
 have hrl:(rdy U1).length=U1.length:=by simp[rdy]
 have hrd:=fun (z:RH) (R:List Asn) hg=>rready_spec b z c B (epo c S1) S1.at' U1 (by omega) R hg
 have hwp:=fun (v:Value) (R:List Asn) hg=>rsweep_spec v (rdy U1) vi py S1.at' R hg (by omega) (by rw[hrl,lU];exact hat1) ⟨by omega,vi1⟩ py1
 rw[hsw,hvi2,hpy2] at hwp
 simp only at hwp
 refine zGz zk92 Tryz.func92 ?_;intro G;(repeat'(first|refine zJ1 ?_;repeat intro(nb:Nat)|fail));all_goals try refine zO fun a w F M=>?_
 rw[hB2] at M
 obtain ⟨n3,hn3⟩:∃ x,x=nb:=⟨nb,rfl⟩
 subst hn3
 refine svJoin F M ((z,nilH):RH × SlH) (fun _=>[]) (pt n3 (rcL ⟨7,0,-1,0,0,-1,0,[],[]⟩ nilH nilH) 39::rlnA z.ln (qS c) s.fo s.vo::pt b (rfC z c B (epo c s) s.at') 85::rldC z.ld c.supplyCap s.dep s.pd s.bu::rmtA z.mt s.ca::roT valL 7 (sl z.hV) s.V::roT natL 1 (sl z.hP) s.pe::roT prL 2 (sl z.hM) s.me::roT rqL 2 (sl z.hQ) s.pa::[]) (fun y=>ownT 75 asgL 3 (sl y.2) AG::pt n3 (rcL ⟨7,0,-1,0,0,-1,0,[],[]⟩ y.2 nilH) 39::refL b y.1 c S1 []) (fun _=>True) [] ?_ ?_
 ·clear F M;intro F M
  rcases hcs with⟨rfl,x1,x2,hbo⟩|⟨x1,x2,x3,x4⟩
  ·replace hbo:=hbo z
   simp only[refL,← x1,hB] at hbo
   (try refine zI zk92 F M ?_;clear F M a;try clear w);(repeat'(first|refine zV (h:=⟨_,by((apply rt_rem' (r:=0);(exact rfl);(exact rfl);(exact rfl);omega;omega;(exact hm))),?_⟩)|refine zA1 ?_;repeat intro(nb:Nat)|refine zC ?_;refine acK (k:=152) (hbo _) ?_;rintro u L' ⟨ha,z1,rfl,rfl⟩|refine zB ?_ ?_<;>intro hc<;>try exact no hc|refine zH ?_ ?_<;>(intro hg;rw[hg];try exact no hg)));all_goals try refine zO fun a w F M=>?_
   exact svMeet F M (z1,ha) kpA permsA trivial
  ·subst x3;subst x4
   have M:=M.own_nil 75 3
   rw[x2] at M
   (try refine zI zk92 F M ?_;clear F M a;try clear w);(repeat'(first|refine zV (h:=⟨_,by((apply rt_rem' (r:=m);(exact rfl);(exact rfl);(exact rfl);omega;omega;(exact hm))),?_⟩)|refine zA1 ?_;repeat intro(nb:Nat)|refine zB ?_ ?_<;>intro hc<;>try exact no hc|refine zH ?_ ?_<;>(intro hg;rw[hg];try exact no hg)));all_goals try refine zO fun a w F M=>?_
   rw[← hSB] at M
   exact svMeet F M (z,nilH) kpA permsA trivial
 rintro⟨z1,ha⟩ - a w F M
 (try simp only[zc,zn] at F M)
 clear hcs
 rw[hSB] at M
 have hhQ:=ro_h (M.pull (pullA:Pull _ (roT rqL 2 (sl z1.hQ) S1.pa) _))
 (try refine zI zk92 F M ?_;clear F M a;try clear w);(repeat'(first|refine zV (h:=⟨_,by((exact rt_from (h:=z1.hQ) (k:=.i64) (j:=q.length) rfl rfl rfl inferInstance (by omega))),?_⟩)|refine zA1 ?_;repeat intro(nb:Nat)|refine zC ?_;(first|refine acW (k:=153) (hps z1 _ ?_ ?_) ?_;exact gsA;exact gsA;rintro u L' ⟨h3,h4,rfl,rfl⟩|refine acK (L1:=pt b (rfC {z1 with hV:=h3,hQ:=fromH z1.hQ q.length 2} c B (epo c S1) S1.at') 85::_) (k:=155) (hrd {z1 with hV:=h3,hQ:=fromH z1.hQ q.length 2} _ ?_) ?_;exact gsA;rintro u L' ⟨h5,rfl,rfl⟩|refine acW (k:=154) (hwp _ _ ?_) ?_;exact gsA;rintro u L' ⟨h6,rfl,rfl⟩)|refine zB ?_ ?_<;>intro hc<;>try exact no hc|refine zH ?_ ?_<;>(intro hg;rw[hg];try exact no hg)));all_goals try refine zO fun a w F M=>?_
 have M:=M.roP (v:=sl h3) pullA
 refine svLoop F M ((0,h3,h4):Nat × SlH × SlH) (fun y=>[(7,.int .i64 y.1)]) (fun y=>[pt b (rfC {z1 with hV:=y.2.1,hQ:=fromH z1.hQ q.length 2} c B (epo c S1) at2) 85,roT valL 7 (sl y.2.1) (mods payV U1 (mm.take y.1)),pt n3 (rcL ⟨7,0,-1,0,0,-1,0,[],[]⟩ ha y.2.2) 39,ownT 57 pmL 3 (sl y.2.2) (P++(mm.take y.1).map (pmE U1))]) (fun y=>y.1≤mm.length) (fun y=>mm.length - y.1) [8,9,10] (Nat.zero_le _) ?_ (hR:=by simp only[List.take_zero,mods,List.foldl_nil,List.map_nil,List.append_nil];(repeat (first|exact Pulls.nil|(apply Pulls.cons;(focus ((repeat (first|exact Pull.here|apply Pull.there));done))))))
 (rintro⟨j,h1',hj⟩ q2 a w F M;(try simp only[zc,zn] at F M q2 ⊢))
 by_cases hk:j<mm.length
 ·obtain ⟨i,hi⟩:∃ i,mm[j]? = some i:=⟨mm[j],by simp[hk]⟩
  obtain ⟨v,hv,hs5,hwd⟩:=m5 i (List.mem_of_getElem? hi)
  obtain ⟨k1,k2⟩:=mods_step payV mn hi hv
  have hpn:∀ R,Spec 156 [valV v,.int .i64 (epo c S1)] R fun u L'=>u=.tuple [valV (payV v),.int .u64 v.bal,.int .i64 0].toArray∧L'=R:=fun R=>rpayv_spec v (epo c S1) (by omega) R hs5 hwd
  have hml:(mods payV U1 (mm.take j)).length=U1.length:=mods_len ..
  have hpt:=fun (R:List Asn) hg=>rput_spec (mods payV U1 (mm.take j)) (sl h1') R hg (by omega) i (payV v) v k1
  rw[← k2] at hpt
  have hil:i<U1.length:=(List.getElem?_eq_some_iff.1 hv).1
  have hpm:(mm.take (j+1)).map (pmE U1)=(mm.take j).map (pmE U1)++[⟨i,v.bal,true⟩]:=by
   rw[List.take_add_one,hi,List.map_append]
   simp only[Option.toList_some,List.map_cons,List.map_nil,pmE,getD_some hv]
  have hll:(P++(mm.take j).map (pmE U1)).length≤8192:=by rw[List.length_append,List.length_map,List.length_take];omega
  clear hv hs5 hwd k2
  generalize payV v=u at *
  obtain ⟨bal,st,slz,rq,ex,wd,dl⟩:=u
  obtain ⟨bal2,st2,slz2,rq2,ex2,wd2,dl2⟩:=v
  (try refine zI zk92 F M ?_;clear F M a;try clear w);(repeat'(first|refine zA ?_;repeat intro nb|refine zC ?_;(first|refine kpW (k:=156) (hpn _) ?_|refine acW (k:=146) (hpt _ ?_) ?_;exact gsA;rintro u L' ⟨h2',rfl,rfl⟩|refine ac_appendH (f:=pmL) (xs:=P++(mm.take j).map (pmE U1)) (ys:=[⟨(i:Int),bal2,true⟩]) rfl rfl inferInstance rfl rfl pullA inferInstance gsA rfl rfl (by simp at hll ⊢;omega) ?_;intro nv)|refine zB ?_ ?_<;>intro hc<;>try exact no hc|refine zH ?_ ?_<;>(intro hg;rw[hg];try exact no hg)));all_goals try refine zO fun a w F M=>?_
  rw[List.append_assoc,← hpm] at M
  have M2:=M.roP (v:=sl h2') pullA
  exact sv_again F M2 (j+1,h2',nv) kpA permsA (by simp only;omega) (by simp only;omega)
 obtain rfl:j=mm.length:=by omega
 rw[List.take_length] at M
 obtain ⟨Q,hQ⟩:∃ Q,P++mm.map (pmE U1)=Q:=⟨_,rfl⟩
 have hQl:Q.length≤8192:=by rw[← hQ,List.length_append,List.length_map];omega
 rw[hQ] at M am0 ams ⊢
 (try refine zI zk92 F M ?_;clear F M a;try clear w);(repeat'(first|refine zA ?_;repeat intro nb|refine zB ?_ ?_<;>intro hc<;>try exact no hc|refine zH ?_ ?_<;>(intro hg;rw[hg];try exact no hg)));all_goals try refine zO fun a w F M=>?_
 refine svLoop F M (0:Nat) (fun j=>[(11,.int .i64 j)]) (fun j=>[rldC z1.ld c.supplyCap S1.dep (S1.pd+((Q.take j).map (·.am)).sum) S1.bu]) (fun j=>j≤Q.length) (fun j=>Q.length - j) [] (Nat.zero_le _) ?_ (hR:=by simp only[List.take_zero,List.map_nil,List.sum_nil,Int.add_zero];(repeat (first|exact Pulls.nil|(apply Pulls.cons;(focus ((repeat (first|exact Pull.here|apply Pull.there));done))))))
 (rintro j q3 a w F M;(try simp only[zc,zn] at F M q3 ⊢))
 by_cases hk:j<Q.length
 ·obtain ⟨x,hx⟩:∃ x,Q[j]? = some x:=⟨Q[j],by simp[hk]⟩
  have hx0:=am0 x (List.mem_of_getElem? hx)
  have hst2:=sum_take_le (Q.map (·.am)) j x.am (fun y hy=>by obtain ⟨p,hp,rfl⟩:=List.mem_map.1 hy;exact am0 p hp) (by simp[hx])
  rw[← List.map_take,← List.map_take] at hst2
  have hs0:0≤((Q.take j).map (·.am)).sum:=sum_nonneg _ fun y hy=>by obtain ⟨p,hp,rfl⟩:=List.mem_map.1 hy;exact am0 p (List.mem_of_mem_take hp)
  have hld:=fun R=>rlpay_spec z1.ld R c.supplyCap S1.dep (S1.pd+((Q.take j).map (·.am)).sum) S1.bu ⟨by omega,by omega,by omega,by omega,by omega,by omega⟩ x.am ⟨hx0,by omega⟩
  rw[show S1.pd+((Q.take j).map (·.am)).sum+x.am=S1.pd+((Q.take (j+1)).map (·.am)).sum by omega] at hld
  obtain ⟨xi,xa,xf⟩:=x
  simp only at hld
  (try refine zI zk92 F M ?_;clear F M a;try clear w);(repeat'(first|refine zA ?_;repeat intro nb|refine zC ?_;refine kp (k:=157) (hld _) ?_|refine zB ?_ ?_<;>intro hc<;>try exact no hc|refine zH ?_ ?_<;>(intro hg;rw[hg];try exact no hg)));all_goals try refine zO fun a w F M=>?_
  exact sv_again F M (j+1) kpA permsA (by omega) (by omega)
 obtain rfl:j=Q.length:=by omega
 rw[List.take_length] at M
 (try refine zI zk92 F M ?_;clear F M a;try clear w);(repeat'(first|refine zA ?_;repeat intro nb|refine zB ?_ ?_<;>intro hc<;>try exact no hc|refine zH ?_ ?_<;>(intro hg;rw[hg];try exact no hg)));all_goals try refine zO fun a w F M=>?_
 subst hSB
 all_goals refine zE F M ?_
 have M2:=Mem.roFrom (f:=rqL) (k:=2) (h:=z1.hQ) (xs:=S1.pa) inferInstance (M.pull pullA) (j:=q.length) hqp
 exact⟨_,_,rfl,⟨ha,hj,{z1 with hV:=h1',hQ:=fromH z1.hQ q.length 2},rfl,rfl⟩,M2.perms permsA⟩
end
end
section
open Go.RowKit
section
variable (b:Nat) (z:RH) (c:Cfg) (s:St) (hc:CfOk c) (hi:Inv c s) (R:List Asn)
include hc hi
theorem rdep_spec (o:Opn) (ho:U64 o.am):Spec 88 [ptr b,opV o] (refL b z c s R) fun u L'=>∃ z',u=rcV (rcR c s o.k (opDep c s o.am)) nilH nilH∧L'=refL b z' c (opDep c s o.am).s R:=by
 obtain ⟨k1,k2,k3,k4,k5,k6⟩:=inv_sum c s hc hi
 have hl3:s.V.length≤4096:=by omega
 obtain ⟨t1,t2,t3⟩:=hi.tot
 have hsum:=hi.sum
 have o1:=ho.1;have o2:=ho.2
 have q1:=hi.ql.1
 have hqs:=hc.qs
 have hcap:=hi.cap
 have hmd:=hc.md;have hsc:=hc.sc;have hca:=hc.ca
 have hld:=fun R=>rldep_spec z.ld R c.supplyCap s.dep s.pd s.bu ⟨t1,t2,by omega,t3,by omega,by omega⟩ o.am ho
 obtain ⟨ok,oi,ot,x⟩:=o
 simp only at o1 o2 hld ⊢
 unfold opDep
 by_cases h1:x<c.minDeposit
 ·rw[if_pos (.inl h1)]
  have d1:decide (x<c.minDeposit)=true:=by simpa using h1
  ((refine zGo Tryz.func88 ?_;intro G w M a F))
  (try refine zI zk88 F M ?_;clear F M a;try clear w);(repeat'(first|refine zA ?_;repeat intro nb|with_reducible refine And.intro ?_ ?_<;>repeat intro nb|refine zC ?_;refine kp (k:=93) (rrej_spec b z c _ _ _ _ _ _) ?_|refine zB ?_ ?_<;>intro hc<;>try exact no hc|refine zH ?_ ?_<;>(intro hg;rw[hg];try exact no hg)));all_goals try refine zO fun a w F M=>?_
  try rw[d1]
  (try refine zI zk88 F M ?_;clear F M a;try clear w);(repeat'(first|refine zA ?_;repeat intro nb|with_reducible refine And.intro ?_ ?_<;>repeat intro nb|refine zC ?_;refine kp (k:=93) (rrej_spec b z c _ _ _ _ _ _) ?_|refine zB ?_ ?_<;>intro hc<;>try exact no hc|refine zH ?_ ?_<;>(intro hg;rw[hg];try exact no hg)));all_goals try refine zO fun a w F M=>?_
  (all_goals(refine zE F M ?_;exact⟨_,_,rfl,⟨z,rfl,rfl⟩,M.perms permsA⟩))
 have d1:decide (x<c.minDeposit)=false:=by simpa using h1
 by_cases h2:c.maxDeposit<x
 ·rw[if_pos (.inr h2)]
  ((refine zGo Tryz.func88 ?_;intro G w M a F))
  (try refine zI zk88 F M ?_;clear F M a;try clear w);(repeat'(first|refine zA ?_;repeat intro nb|with_reducible refine And.intro ?_ ?_<;>repeat intro nb|refine zC ?_;refine kp (k:=93) (rrej_spec b z c _ _ _ _ _ _) ?_|refine zB ?_ ?_<;>intro hc<;>try exact no hc|refine zH ?_ ?_<;>(intro hg;rw[hg];try exact no hg)));all_goals try refine zO fun a w F M=>?_
  try rw[d1]
  (try refine zI zk88 F M ?_;clear F M a;try clear w);(repeat'(first|refine zA ?_;repeat intro nb|with_reducible refine And.intro ?_ ?_<;>repeat intro nb|refine zC ?_;refine kp (k:=93) (rrej_spec b z c _ _ _ _ _ _) ?_|refine zB ?_ ?_<;>intro hc<;>try exact no hc|refine zH ?_ ?_<;>(intro hg;rw[hg];try exact no hg)));all_goals try refine zO fun a w F M=>?_
  (all_goals(refine zE F M ?_;exact⟨_,_,rfl,⟨z,rfl,rfl⟩,M.perms permsA⟩))
 rw[if_neg (by omega)]
 by_cases h3:c.capacity≤s.V.length
 ·rw[if_pos h3]
  ((refine zGo Tryz.func88 ?_;intro G w M a F))
  (try refine zI zk88 F M ?_;clear F M a;try clear w);(repeat'(first|refine zA ?_;repeat intro nb|with_reducible refine And.intro ?_ ?_<;>repeat intro nb|refine zC ?_;refine kp (k:=93) (rrej_spec b z c _ _ _ _ _ _) ?_|refine zB ?_ ?_<;>intro hc<;>try exact no hc|refine zH ?_ ?_<;>(intro hg;rw[hg];try exact no hg)));all_goals try refine zO fun a w F M=>?_
  try rw[d1]
  (try refine zI zk88 F M ?_;clear F M a;try clear w);(repeat'(first|refine zA ?_;repeat intro nb|with_reducible refine And.intro ?_ ?_<;>repeat intro nb|refine zC ?_;refine kp (k:=93) (rrej_spec b z c _ _ _ _ _ _) ?_|refine zB ?_ ?_<;>intro hc<;>try exact no hc|refine zH ?_ ?_<;>(intro hg;rw[hg];try exact no hg)));all_goals try refine zO fun a w F M=>?_
  (all_goals(refine zE F M ?_;exact⟨_,_,rfl,⟨z,rfl,rfl⟩,M.perms permsA⟩))
 rw[if_neg h3]
 by_cases h4:c.queueSize≤s.pe.length
 ·rw[if_pos h4]
  ((refine zGo Tryz.func88 ?_;intro G w M a F))
  (try refine zI zk88 F M ?_;clear F M a;try clear w);(repeat'(first|refine zA ?_;repeat intro nb|with_reducible refine And.intro ?_ ?_<;>repeat intro nb|refine zC ?_;refine kp (k:=93) (rrej_spec b z c _ _ _ _ _ _) ?_|refine zB ?_ ?_<;>intro hc<;>try exact no hc|refine zH ?_ ?_<;>(intro hg;rw[hg];try exact no hg)));all_goals try refine zO fun a w F M=>?_
  try rw[d1]
  (try refine zI zk88 F M ?_;clear F M a;try clear w);(repeat'(first|refine zA ?_;repeat intro nb|with_reducible refine And.intro ?_ ?_<;>repeat intro nb|refine zC ?_;refine kp (k:=93) (rrej_spec b z c _ _ _ _ _ _) ?_|refine zB ?_ ?_<;>intro hc<;>try exact no hc|refine zH ?_ ?_<;>(intro hg;rw[hg];try exact no hg)));all_goals try refine zO fun a w F M=>?_
  (all_goals(refine zE F M ?_;exact⟨_,_,rfl,⟨z,rfl,rfl⟩,M.perms permsA⟩))
 rw[if_neg h4]
 by_cases h5:c.supplyCap<x+(s.dep - s.pd - s.bu)
 ·rw[if_pos h5]
  simp only[h5,if_true] at hld
  ((refine zGo Tryz.func88 ?_;intro G w M a F))
  (try refine zI zk88 F M ?_;clear F M a;try clear w);(repeat'(first|refine zA ?_;repeat intro nb|with_reducible refine And.intro ?_ ?_<;>repeat intro nb|refine zC ?_;(first|refine kp (k:=141) (hld _) ?_|refine kp (k:=93) (rrej_spec b z c _ _ _ _ _ _) ?_)|refine zB ?_ ?_<;>intro hc<;>try exact no hc|refine zH ?_ ?_<;>(intro hg;rw[hg];try exact no hg)));all_goals try refine zO fun a w F M=>?_
  try rw[d1]
  (try refine zI zk88 F M ?_;clear F M a;try clear w);(repeat'(first|refine zA ?_;repeat intro nb|with_reducible refine And.intro ?_ ?_<;>repeat intro nb|refine zC ?_;(first|refine kp (k:=141) (hld _) ?_|refine kp (k:=93) (rrej_spec b z c _ _ _ _ _ _) ?_)|refine zB ?_ ?_<;>intro hc<;>try exact no hc|refine zH ?_ ?_<;>(intro hg;rw[hg];try exact no hg)));all_goals try refine zO fun a w F M=>?_
  (all_goals(refine zE F M ?_;exact⟨_,_,rfl,⟨z,rfl,rfl⟩,M.perms permsA⟩))
 rw[if_neg h5]
 simp only[h5,if_false] at hld
 by_cases h6:18446744073709551615<s.dep+x
 ·rw[if_pos h6]
  simp only[h6,if_true] at hld
  ((refine zGo Tryz.func88 ?_;intro G w M a F))
  (try refine zI zk88 F M ?_;clear F M a;try clear w);(repeat'(first|refine zA ?_;repeat intro nb|with_reducible refine And.intro ?_ ?_<;>repeat intro nb|refine zC ?_;(first|refine kp (k:=141) (hld _) ?_|refine kp (k:=93) (rrej_spec b z c _ _ _ _ _ _) ?_)|refine zB ?_ ?_<;>intro hc<;>try exact no hc|refine zH ?_ ?_<;>(intro hg;rw[hg];try exact no hg)));all_goals try refine zO fun a w F M=>?_
  try rw[d1]
  (try refine zI zk88 F M ?_;clear F M a;try clear w);(repeat'(first|refine zA ?_;repeat intro nb|with_reducible refine And.intro ?_ ?_<;>repeat intro nb|refine zC ?_;(first|refine kp (k:=141) (hld _) ?_|refine kp (k:=93) (rrej_spec b z c _ _ _ _ _ _) ?_)|refine zB ?_ ?_<;>intro hc<;>try exact no hc|refine zH ?_ ?_<;>(intro hg;rw[hg];try exact no hg)));all_goals try refine zO fun a w F M=>?_
  (all_goals(refine zE F M ?_;exact⟨_,_,rfl,⟨z,rfl,rfl⟩,M.perms permsA⟩))
 rw[if_neg h6]
 simp only[h6,if_false] at hld
 have hln:(((s.V++[newV x]).length:Nat):Int) - 1=(s.V.length:Int):=by simp
 have hcs2:cellsL [.int .i64 ((((s.V++[newV x]).length:Nat):Int) - 1)]=[s.V.length].flatMap natL:=by rw[hln];rfl
 ((refine zGo Tryz.func88 ?_;intro G w M a F))
 (try refine zI zk88 F M ?_;clear F M a;try clear w);(repeat'(first|refine zA ?_;repeat intro nb|with_reducible refine And.intro ?_ ?_<;>repeat intro nb|refine zC ?_;(first|refine kp (k:=141) (hld _) ?_|refine kp (k:=142) (racp_spec b {z with hV:=n2,hP:=n4} c _ _ _ _ _ _ _) ?_|refine ac_appendE (f:=valL) (ys:=s.V) rfl rfl inferInstance rfl rfl pullA inferInstance gsA rfl rfl (by omega) ?_;intro n1|refine ac_appendH (f:=valL) (xs:=s.V) (ys:=[newV x]) rfl rfl inferInstance rfl rfl pullA inferInstance gsA rfl rfl (by simp;omega) ?_;intro n2|refine ac_appendE (f:=natL) (ys:=s.pe) rfl rfl inferInstance rfl rfl pullA inferInstance gsA rfl rfl (by omega) ?_;intro n3|refine ac_appendH (f:=natL) (xs:=s.pe) (ys:=[s.V.length]) rfl rfl inferInstance rfl rfl pullA inferInstance gsA rfl (by first|exact rfl|exact hcs2) (by simp;omega) ?_;intro n4)|refine zB ?_ ?_<;>intro hc<;>try exact no hc|refine zH ?_ ?_<;>(intro hg;rw[hg];try exact no hg)));all_goals try refine zO fun a w F M=>?_
 try rw[d1]
 (try refine zI zk88 F M ?_;clear F M a;try clear w);(repeat'(first|refine zA ?_;repeat intro nb|with_reducible refine And.intro ?_ ?_<;>repeat intro nb|refine zC ?_;(first|refine kp (k:=141) (hld _) ?_|refine kp (k:=142) (racp_spec b {z with hV:=n2,hP:=n4} c _ _ _ _ _ _ _) ?_|refine ac_appendE (f:=valL) (ys:=s.V) rfl rfl inferInstance rfl rfl pullA inferInstance gsA rfl rfl (by omega) ?_;intro n1|refine ac_appendH (f:=valL) (xs:=s.V) (ys:=[newV x]) rfl rfl inferInstance rfl rfl pullA inferInstance gsA rfl rfl (by simp;omega) ?_;intro n2|refine ac_appendE (f:=natL) (ys:=s.pe) rfl rfl inferInstance rfl rfl pullA inferInstance gsA rfl rfl (by omega) ?_;intro n3|refine ac_appendH (f:=natL) (xs:=s.pe) (ys:=[s.V.length]) rfl rfl inferInstance rfl rfl pullA inferInstance gsA rfl (by first|exact rfl|exact hcs2) (by simp;omega) ?_;intro n4)|refine zB ?_ ?_<;>intro hc<;>try exact no hc|refine zH ?_ ?_<;>(intro hg;rw[hg];try exact no hg)));all_goals try refine zO fun a w F M=>?_
 all_goals refine zE F M ?_
 all_goals have M2:=M.roP (v:=sl n2) pullA
 all_goals have M3:=M2.roP (v:=sl n4) pullA
 all_goals exact⟨_,_,rfl,⟨{z with hV:=n2,hP:=n4},by rw[hln];rfl,rfl⟩,M3.perms permsA⟩
end
end
section
open Go.RowKit
section
variable (b:Nat) (z:RH) (c:Cfg) (s:St) (hc:CfOk c) (hi:Inv c s) (R:List Asn)
include hc hi
theorem ahead_ok (cl:Nat) (hcl:cl≤1):addR ((if cl=0 then s.fo else s.fo++s.vo).map (wAt (bals s.V)))=(aheadW s cl,true)∧0≤aheadW s cl∧aheadW s cl≤18446744073709551615:=by
 obtain ⟨k1,k2,k3,k4,k5,k6⟩:=inv_sum c s hc hi
 have hahead:aheadW s cl=((if cl=0 then s.fo else s.fo++s.vo).map (wAt (bals s.V))).sum:=by
  unfold aheadW
  simp only[Int.natCast_eq_zero]
 have hnd:(if cl=0 then s.fo else s.fo++s.vo).Nodup:=by
  split
  ·exact(List.nodup_append.1 hi.ex.nd).1
  ·exact hi.ex.nd
 have hah:=sum_sub _ (bals s.V) hnd hi.bal0
 have hW:∀ x∈bals s.V,U64 x:=fun x hx=>⟨hi.bal0 x hx,by have:=sum_mem_le _ hi.bal0 x hx;omega⟩
 have haR:=wt_spec c s hc hi (bals s.V) hW (if cl=0 then s.fo else s.fo++s.vo) (by omega)
 rw[haR,← hahead]
 rw[← hahead] at hah
 refine⟨rfl,?_,by omega⟩
 rw[hahead]
 refine sum_nonneg _ fun z hz=>?_
 obtain ⟨j,_,rfl⟩:=List.mem_map.1 hz
 exact(wAt_u64 hW j).1
theorem rbd22_spec (cl:Nat) (hcl:cl≤1) (i:Nat) (v:Val) (hv:s.V[i]? = some v):Spec 145 [ptr b,.int .i64 cl,.int .i64 i] (refL b z c s R) fun u L'=>u=payT (payD c (epo c s) (aheadW s cl) v.bal)∧L'=refL b z c s R:=by
 obtain ⟨k1,k2,k3,k4,k5,k6⟩:=inv_sum c s hc hi
 have hl3:s.V.length≤4096:=by omega
 obtain ⟨l1,l2,l3,l4,l5⟩:=hi.ql
 have hep:=epo_range hc (s:=s) (by have:=hi.bk;omega)
 obtain ⟨hwf,hb0,hble,hvo⟩:=vwf c s hc hi hv
 have hil:i<s.V.length:=(List.getElem?_eq_some_iff.1 hv).1
 have hW:∀ x∈bals s.V,U64 x:=fun x hx=>⟨hi.bal0 x hx,by have:=sum_mem_le _ hi.bal0 x hx;omega⟩
 obtain ⟨haR,hah0,hah1⟩:=ahead_ok c s hc hi cl hcl
 have hll:(if cl=0 then s.fo else s.fo++s.vo).length≤100000:=by
  split
  ·omega
  ·rw[List.length_append];omega
 have hbb:=fun (R:List Asn) hg=>rbals_spec s.V (sl z.hV) R hg (by omega)
 have hla:=fun R=>rlaheadC z.ln R (qS c) s.fo s.vo cl hcl (by omega) (by omega)
 have hws:=fun (R:List Asn) (v vi:Value) hg hgi=>rweight_spec (bals s.V) v R hg hW (if cl=0 then s.fo else s.fo++s.vo) vi hgi hll
 rw[haR] at hws
 have hdp:=fun R=>rdpay_spec R c hc (epo c s) (aheadW s cl) v.bal ⟨hep.1,by omega⟩ ⟨hah0,hah1⟩ ⟨hb0,by omega⟩
 generalize aheadW s cl=A at *
 generalize (if cl=0 then s.fo else s.fo++s.vo)=AH at *
 obtain ⟨t,f,ht⟩:=payT_form c hc (payD c (epo c s) A v.bal)
 rw[ht] at hdp ⊢
 obtain ⟨bal,st,slz,rq,ex,wd,dl⟩:=v
 simp only at hdp hb0 hble
 refine zGz zk145 Tryz.func145 ?_;intro G;(repeat'(first|refine zA ?_;repeat intro nb|refine zC ?_;(first|refine acW (k:=212) (hbb _ ?_) ?_;exact gsA;rintro u L' ⟨hw,rfl,rfl⟩|refine acK (k:=213) (hla _) ?_;rintro u L' ⟨hd,rfl,rfl⟩|refine acW (k:=211) (hws _ _ _ ?_ ?_) ?_;exact gs_own pullA;exact gs_own pullA;rintro u L' ⟨rfl,rfl⟩|refine kpW (k:=214) (hdp _) ?_)|refine zB ?_ ?_<;>intro hc<;>try exact no hc|refine zH ?_ ?_<;>(intro hg;rw[hg];try exact no hg)));all_goals try refine zO fun a w F M=>?_
 all_goals refine zE F M ?_
 all_goals exact⟨_,_,rfl,⟨rfl,rfl⟩,M.perms permsA⟩
theorem rexit_spec (o:Opn) (cl:Nat) (hcl:cl≤1):Spec 89 [ptr b,opV o,.int .i64 cl] (refL b z c s R) fun u L'=>∃ z',u=rcV (rcR c s o.k (opLeave c s cl o.ix)) nilH nilH∧L'=refL b z' c (opLeave c s cl o.ix).s R:=by
 obtain ⟨k1,k2,k3,k4,k5,k6⟩:=inv_sum c s hc hi
 have hl3:s.V.length≤4096:=by omega
 have hsz:qS c≤4096:=k6
 obtain ⟨l1,l2,l3,l4,l5⟩:=hi.ql
 have hbk:=hi.bk
 have hep:=epo_range hc (s:=s) (by omega)
 obtain ⟨ok,ix,oj,x⟩:=o
 simp only
 by_cases hix:ix<0∨(s.V.length:Int)≤ix
 ·have e:opLeave c s cl ix=no' s 7:=by
   unfold opLeave
   by_cases h0:ix<0
   ·rw[if_pos h0]
   ·rw[if_neg h0,List.getElem?_eq_none (by omega)]
  rw[e]
  by_cases h0:ix<0
  ·have d0:decide (ix<0)=true:=by simpa using h0
   ((refine zGo Tryz.func89 ?_;intro G w M a F))
   (try refine zI zk89 F M ?_;clear F M a;try clear w);(repeat'(first|refine zA ?_;repeat intro nb|refine zC ?_;refine kp (k:=93) (rrej_spec b z c _ _ _ _ _ _) ?_|refine zB ?_ ?_<;>intro hc<;>try exact no hc|refine zH ?_ ?_<;>(intro hg;rw[hg];try exact no hg)));all_goals try refine zO fun a w F M=>?_
   try rw[d0]
   (try refine zI zk89 F M ?_;clear F M a;try clear w);(repeat'(first|refine zA ?_;repeat intro nb|refine zC ?_;refine kp (k:=93) (rrej_spec b z c _ _ _ _ _ _) ?_|refine zB ?_ ?_<;>intro hc<;>try exact no hc|refine zH ?_ ?_<;>(intro hg;rw[hg];try exact no hg)));all_goals try refine zO fun a w F M=>?_
   (all_goals(refine zE F M ?_;exact⟨_,_,rfl,⟨z,rfl,rfl⟩,M.perms permsA⟩))
  ·have d0:decide (ix<0)=false:=by simpa using h0
   ((refine zGo Tryz.func89 ?_;intro G w M a F))
   (try refine zI zk89 F M ?_;clear F M a;try clear w);(repeat'(first|refine zA ?_;repeat intro nb|refine zC ?_;refine kp (k:=93) (rrej_spec b z c _ _ _ _ _ _) ?_|refine zB ?_ ?_<;>intro hc<;>try exact no hc|refine zH ?_ ?_<;>(intro hg;rw[hg];try exact no hg)));all_goals try refine zO fun a w F M=>?_
   try rw[d0]
   (try refine zI zk89 F M ?_;clear F M a;try clear w);(repeat'(first|refine zA ?_;repeat intro nb|refine zC ?_;refine kp (k:=93) (rrej_spec b z c _ _ _ _ _ _) ?_|refine zB ?_ ?_<;>intro hc<;>try exact no hc|refine zH ?_ ?_<;>(intro hg;rw[hg];try exact no hg)));all_goals try refine zO fun a w F M=>?_
   (all_goals(refine zE F M ?_;exact⟨_,_,rfl,⟨z,rfl,rfl⟩,M.perms permsA⟩))
 obtain ⟨i,rfl⟩:∃ i:Nat,ix=i:=⟨ix.toNat,by omega⟩
 have d0:decide ((i:Int)<0)=false:=by simp
 have hil:i<s.V.length:=by omega
 obtain ⟨v,hv⟩:∃ v,s.V[i]? = some v:=⟨s.V[i]'(by omega),by rw[List.getElem?_eq_getElem]⟩
 obtain ⟨hwf,hb0,hble,hvo⟩:=vwf c s hc hi hv
 have hac:=fun R=>racc_spec v (epo c s) hep.1 R (by omega)
 have hX:opLeave c s cl i=if (accR v (epo c s)).1≠0 then no' s (accR v (epo c s)).1 else if c.queueSize≤(if cl=0 then s.fo else s.vo).length then no' s 6 else match payD c (epo c s) (aheadW s cl) v.bal with
   | none=>no' s 10
   | some t=>⟨0,i,t,if cl=0 then {s with V:=s.V.set i {(accR v (epo c s)).2.1 with dl:=t},fo:=s.fo++[i]} else {s with V:=s.V.set i {(accR v (epo c s)).2.1 with dl:=t},vo:=s.vo++[i]}⟩:=by
  unfold opLeave
  rw[if_neg (by omega)]
  rcases (by omega:cl=0∨cl=1) with rfl|rfl
  ·simp only[Int.toNat_natCast,hv];rfl
  ·simp only[Int.toNat_natCast,hv];rfl
 have hacc:=accR_eq v hep.1 (by omega)
 rw[hX]
 clear hX
 have hbd:=fun R=>rbd22_spec b z c s hc hi R cl hcl i v hv
 by_cases hs:v.st=2
 ·rw[if_pos hs] at hacc
  rw[hacc] at hac ⊢
  simp only[ne_eq,not_true_eq_false,if_false] at hac ⊢
  have hln:=fun R=>rlenC z.ln R (qS c) s.fo s.vo cl hcl
  by_cases hq:c.queueSize≤(if cl=0 then s.fo else s.vo).length
  ·rw[if_pos hq]
   generalize (if cl=0 then s.fo else s.vo).length=Q at *
   obtain ⟨bal,st,slz,rq,ex,wd,dl⟩:=v
   simp only at hac
   ((refine zGo Tryz.func89 ?_;intro G w M a F))
   (try refine zI zk89 F M ?_;clear F M a;try clear w);(repeat'(first|refine zA ?_;repeat intro nb|refine zC ?_;(first|refine kpW (k:=143) (hac _) ?_|refine acK (k:=144) (hln _) ?_;rintro u L' ⟨lp,lc,rfl,rfl⟩|refine kp (k:=93) (rrej_spec b z c _ _ _ _ _ _) ?_)|refine zB ?_ ?_<;>intro hc<;>try exact no hc|refine zH ?_ ?_<;>(intro hg;rw[hg];try exact no hg)));all_goals try refine zO fun a w F M=>?_
   try rw[d0]
   (try refine zI zk89 F M ?_;clear F M a;try clear w);(repeat'(first|refine zA ?_;repeat intro nb|refine zC ?_;(first|refine kpW (k:=143) (hac _) ?_|refine acK (k:=144) (hln _) ?_;rintro u L' ⟨lp,lc,rfl,rfl⟩|refine kp (k:=93) (rrej_spec b z c _ _ _ _ _ _) ?_)|refine zB ?_ ?_<;>intro hc<;>try exact no hc|refine zH ?_ ?_<;>(intro hg;rw[hg];try exact no hg)));all_goals try refine zO fun a w F M=>?_
   (all_goals(refine zE F M ?_;exact⟨_,_,rfl,⟨z,rfl,rfl⟩,M.perms permsA⟩))
  ·rw[if_neg hq]
   have hqq:(if cl=0 then s.fo else s.vo).length<qS c:=by omega
   have hpu:=fun R=>rlpushC z.ln R (qS c) s.fo s.vo cl hcl i hqq hsz
   generalize (if cl=0 then s.fo else s.vo).length=Q at *
   have hq9:Q≤4096:=by omega
   obtain ⟨A,hA⟩:∃ A,aheadW s cl=A:=⟨_,rfl⟩
   have hprg:∀ t,payD c (epo c s) A v.bal=some t→0≤t∧t≤1099511627776:=fun t ht=>payD_range hc ht hep.1 (by have:=(ahead_ok c s hc hi cl hcl).2.1;omega) hb0
   rw[hA] at hbd ⊢
   generalize hPD:payD c (epo c s) A v.bal=PD at *
   cases PD with
   | none =>
    simp only[payT] at hbd ⊢
    obtain ⟨bal,st,slz,rq,ex,wd,dl⟩:=v
    simp only at hac hb0 hble
    ((refine zGo Tryz.func89 ?_;intro G w M a F))
    (try refine zI zk89 F M ?_;clear F M a;try clear w);(repeat'(first|refine zA ?_;repeat intro nb|refine zC ?_;(first|refine kpW (k:=143) (hac _) ?_|refine acK (k:=144) (hln _) ?_;rintro u L' ⟨lp,lc,rfl,rfl⟩|refine kp (k:=93) (rrej_spec b z c _ _ _ _ _ _) ?_|refine acK (L1:=refL b z c s _) (k:=145) (hbd _) ?_;rintro u L' ⟨rfl,rfl⟩)|refine zB ?_ ?_<;>intro hc<;>try exact no hc|refine zH ?_ ?_<;>(intro hg;rw[hg];try exact no hg)));all_goals try refine zO fun a w F M=>?_
    try rw[d0]
    (try refine zI zk89 F M ?_;clear F M a;try clear w);(repeat'(first|refine zA ?_;repeat intro nb|refine zC ?_;(first|refine kpW (k:=143) (hac _) ?_|refine acK (k:=144) (hln _) ?_;rintro u L' ⟨lp,lc,rfl,rfl⟩|refine kp (k:=93) (rrej_spec b z c _ _ _ _ _ _) ?_|refine acK (L1:=refL b z c s _) (k:=145) (hbd _) ?_;rintro u L' ⟨rfl,rfl⟩)|refine zB ?_ ?_<;>intro hc<;>try exact no hc|refine zH ?_ ?_<;>(intro hg;rw[hg];try exact no hg)));all_goals try refine zO fun a w F M=>?_
    (all_goals(refine zE F M ?_;exact⟨_,_,rfl,⟨z,rfl,rfl⟩,M.perms permsA⟩))
   | some t =>
    have ht:=hprg t rfl
    simp only[payT] at hbd ⊢
    have hpt:=fun (R:List Asn) hg=>rput_spec s.V (sl z.hV) R hg (by omega) i {v with rq:=epo c s,st:=3,dl:=t} v hv
    obtain ⟨bal,st,slz,rq,ex,wd,dl⟩:=v
    simp only at hac hb0 hble hpt
    ((refine zGo Tryz.func89 ?_;intro G w M a F))
    (try refine zI zk89 F M ?_;clear F M a;try clear w);(repeat'(first|refine zA ?_;repeat intro nb|refine zC ?_;(first|refine kpW (k:=143) (hac _) ?_|refine acK (k:=144) (hln _) ?_;rintro u L' ⟨lp,lc,rfl,rfl⟩|refine kp (k:=93) (rrej_spec b z c _ _ _ _ _ _) ?_|refine acK (L1:=refL b z c s _) (k:=145) (hbd _) ?_;rintro u L' ⟨rfl,rfl⟩|refine acW (k:=146) (hpt _ ?_) ?_;exact gsA;rintro u L' ⟨h1,rfl,rfl⟩|refine kp (k:=147) (hpu _) ?_|refine kp (k:=142) (racp_spec b {z with hV:=h1} c _ _ _ _ _ _ _) ?_)|refine zB ?_ ?_<;>intro hc<;>try exact no hc|refine zH ?_ ?_<;>(intro hg;rw[hg];try exact no hg)));all_goals try refine zO fun a w F M=>?_
    try rw[d0]
    (try refine zI zk89 F M ?_;clear F M a;try clear w);(repeat'(first|refine zA ?_;repeat intro nb|refine zC ?_;(first|refine kpW (k:=143) (hac _) ?_|refine acK (k:=144) (hln _) ?_;rintro u L' ⟨lp,lc,rfl,rfl⟩|refine kp (k:=93) (rrej_spec b z c _ _ _ _ _ _) ?_|refine acK (L1:=refL b z c s _) (k:=145) (hbd _) ?_;rintro u L' ⟨rfl,rfl⟩|refine acW (k:=146) (hpt _ ?_) ?_;exact gsA;rintro u L' ⟨h1,rfl,rfl⟩|refine kp (k:=147) (hpu _) ?_|refine kp (k:=142) (racp_spec b {z with hV:=h1} c _ _ _ _ _ _ _) ?_)|refine zB ?_ ?_<;>intro hc<;>try exact no hc|refine zH ?_ ?_<;>(intro hg;rw[hg];try exact no hg)));all_goals try refine zO fun a w F M=>?_
    all_goals refine zE F M ?_
    have M2:=M.roP (v:=sl h1) pullA
    have e:refL b {z with hV:=h1} c (if cl=0 then {s with V:=s.V.set i ⟨bal,3,slz,epo c s,ex,wd,t⟩,fo:=s.fo++[i]} else {s with V:=s.V.set i ⟨bal,3,slz,epo c s,ex,wd,t⟩,vo:=s.vo++[i]}) R=refL b {z with hV:=h1} c {s with V:=s.V.set i ⟨bal,3,slz,epo c s,ex,wd,t⟩,fo:=if cl=0 then s.fo++[i] else s.fo,vo:=if cl=0 then s.vo else s.vo++[i]} R:=by
     rcases (by omega:cl=0∨cl=1) with rfl|rfl<;>rfl
    refine⟨_,_,rfl,⟨{z with hV:=h1},rfl,rfl⟩,?_⟩
    rw[e]
    exact M2.perms permsA
 ·rw[if_neg hs] at hacc
  rw[hacc] at hac ⊢
  simp only[ne_eq,show ¬((8:Int)=0) by decide,not_false_eq_true,if_true] at hac ⊢
  obtain ⟨bal,st,slz,rq,ex,wd,dl⟩:=v
  try simp only at hac
  ((refine zGo Tryz.func89 ?_;intro G w M a F))
  (try refine zI zk89 F M ?_;clear F M a;try clear w);(repeat'(first|refine zA ?_;repeat intro nb|refine zC ?_;(first|refine kpW (k:=143) (hac _) ?_|refine kp (k:=93) (rrej_spec b z c _ _ _ _ _ _) ?_)|refine zB ?_ ?_<;>intro hc<;>try exact no hc|refine zH ?_ ?_<;>(intro hg;rw[hg];try exact no hg)));all_goals try refine zO fun a w F M=>?_
  try rw[d0]
  (try refine zI zk89 F M ?_;clear F M a;try clear w);(repeat'(first|refine zA ?_;repeat intro nb|refine zC ?_;(first|refine kpW (k:=143) (hac _) ?_|refine kp (k:=93) (rrej_spec b z c _ _ _ _ _ _) ?_)|refine zB ?_ ?_<;>intro hc<;>try exact no hc|refine zH ?_ ?_<;>(intro hg;rw[hg];try exact no hg)));all_goals try refine zO fun a w F M=>?_
  (all_goals(refine zE F M ?_;exact⟨_,_,rfl,⟨z,rfl,rfl⟩,M.perms permsA⟩))
end
end
section
open Go.RowKit
section
variable (b:Nat) (z:RH) (c:Cfg) (s:St) (hc:CfOk c) (hi:Inv c s) (R:List Asn)
include hc hi
theorem rslash_spec (o:Opn):Spec 90 [ptr b,opV o] (refL b z c s R) fun u L'=>∃ z',u=rcV (rcR c s o.k (opSlash c s o.ix)) nilH nilH∧L'=refL b z' c (opSlash c s o.ix).s R:=by
 obtain ⟨k1,k2,k3,k4,k5,k6⟩:=inv_sum c s hc hi
 have hl3:s.V.length≤4096:=by omega
 have hsz:qS c≤4096:=k6
 obtain ⟨l1,l2,l3,l4,l5⟩:=hi.ql
 have hbk:=hi.bk
 have hep:=epo_range hc (s:=s) (by omega)
 obtain ⟨ok,ix,oj,x⟩:=o
 simp only
 by_cases hix:ix<0∨(s.V.length:Int)≤ix
 ·have e:opSlash c s ix=no' s 7:=by
   unfold opSlash
   by_cases h0:ix<0
   ·rw[if_pos h0]
   ·rw[if_neg h0,List.getElem?_eq_none (by omega)]
  rw[e]
  by_cases h0:ix<0
  ·have d0:decide (ix<0)=true:=by simpa using h0
   ((intro G w M;(obtain ⟨f1,f2,M2,fe1,fe2⟩:=rln_open z.ln M);(clear M;have M:=M2;clear M2));(refine zGe Tryz.func90 ?_;intro a F;(try simp only[zc,zn] at M)))
   (try refine zI zk90 F M ?_;clear F M a;try clear w);(repeat'(first|refine zA ?_;repeat intro nb|refine zC ?_;refine kp (k:=93) (rrej_spec b z c _ _ _ _ _ _) ?_|refine zB ?_ ?_<;>intro hc<;>try exact no hc|refine zH ?_ ?_<;>(intro hg;rw[hg];try exact no hg)));all_goals try refine zO fun a w F M=>?_
   try rw[d0]
   (try refine zI zk90 F M ?_;clear F M a;try clear w);(repeat'(first|refine zA ?_;repeat intro nb|refine zC ?_;refine kp (k:=93) (rrej_spec b z c _ _ _ _ _ _) ?_|refine zB ?_ ?_<;>intro hc<;>try exact no hc|refine zH ?_ ?_<;>(intro hg;rw[hg];try exact no hg)));all_goals try refine zO fun a w F M=>?_
   (all_goals refine zE F M ?_;exact⟨_,_,rfl,⟨z,rfl,rfl⟩,rln_close z.ln (h1:=f1) (h2:=f2) (M.perms permsA)⟩)
  ·have d0:decide (ix<0)=false:=by simpa using h0
   ((intro G w M;(obtain ⟨f1,f2,M2,fe1,fe2⟩:=rln_open z.ln M);(clear M;have M:=M2;clear M2));(refine zGe Tryz.func90 ?_;intro a F;(try simp only[zc,zn] at M)))
   (try refine zI zk90 F M ?_;clear F M a;try clear w);(repeat'(first|refine zA ?_;repeat intro nb|refine zC ?_;refine kp (k:=93) (rrej_spec b z c _ _ _ _ _ _) ?_|refine zB ?_ ?_<;>intro hc<;>try exact no hc|refine zH ?_ ?_<;>(intro hg;rw[hg];try exact no hg)));all_goals try refine zO fun a w F M=>?_
   try rw[d0]
   (try refine zI zk90 F M ?_;clear F M a;try clear w);(repeat'(first|refine zA ?_;repeat intro nb|refine zC ?_;refine kp (k:=93) (rrej_spec b z c _ _ _ _ _ _) ?_|refine zB ?_ ?_<;>intro hc<;>try exact no hc|refine zH ?_ ?_<;>(intro hg;rw[hg];try exact no hg)));all_goals try refine zO fun a w F M=>?_
   (all_goals refine zE F M ?_;exact⟨_,_,rfl,⟨z,rfl,rfl⟩,rln_close z.ln (h1:=f1) (h2:=f2) (M.perms permsA)⟩)
 obtain ⟨i,rfl⟩:∃ i:Nat,ix=i:=⟨ix.toNat,by omega⟩
 have d0:decide ((i:Int)<0)=false:=by simp
 have hil:i<s.V.length:=by omega
 obtain ⟨v,hv⟩:∃ v,s.V[i]? = some v:=⟨s.V[i]'(by omega),by rw[List.getElem?_eq_getElem]⟩
 obtain ⟨hwf,hb0,hble,hvo⟩:=vwf c s hc hi hv
 have hsd:=hc.sd;have hun:=hc.un;have hpn:=hc.pn;have hpd:=hc.pd
 have hsl:=fun R=>rsla_spec v (epo c s) hep.1 R c ⟨hb0,by omega⟩ (by omega) (by omega) hpn hpd
 have hX:opSlash c s i=if (slaR v (epo c s) c.slashDelay c.penNum c.penDen).1≠0 then no' s (slaR v (epo c s) c.slashDelay c.penNum c.penDen).1 else if v.st=2∧c.queueSize≤s.fo.length then no' s 6 else
   ⟨0,i,-1,{s with V:=s.V.set i (slaR v (epo c s) c.slashDelay c.penNum c.penDen).2.1,bu:=s.bu+(slaR v (epo c s) c.slashDelay c.penNum c.penDen).2.2,fo:=if v.st=2 then s.fo++[i] else s.fo,bo:=if v.st=5 then s.bo++[((slaR v (epo c s) c.slashDelay c.penNum c.penDen).2.1.wd,i)] else s.bo}⟩:=by
  unfold opSlash
  rw[if_neg (by omega)]
  simp only[Int.toNat_natCast,hv]
 have hrr:=slaR_eq v (pn:=c.penNum) (pd:=c.penDen) hep.1 (show 0≤c.slashDelay by omega) (by omega)
 have hpen:=penF_range hb0 hpn.1 hpn.2 (by omega)
 rw[hX]
 clear hX
 have hst7:=hvo.st
 by_cases h1:v.sl=true
 ·rw[if_pos h1] at hrr
  rw[hrr] at hsl ⊢
  simp only[ne_eq,show ¬((9:Int)=0) by decide,not_false_eq_true,if_true] at hsl ⊢
  obtain ⟨bal,st,slz,rq,ex,wd,dl⟩:=v
  try simp only at hsl
  ((intro G w M;(obtain ⟨f1,f2,M2,fe1,fe2⟩:=rln_open z.ln M);(clear M;have M:=M2;clear M2));(refine zGe Tryz.func90 ?_;intro a F;(try simp only[zc,zn] at M)))
  (try refine zI zk90 F M ?_;clear F M a;try clear w);(repeat'(first|refine zA ?_;repeat intro nb|refine zC ?_;(first|refine kpW (k:=148) (hsl _) ?_|refine kp (k:=93) (rrej_spec b z c _ _ _ _ _ _) ?_)|refine zB ?_ ?_<;>intro hc<;>try exact no hc|refine zH ?_ ?_<;>(intro hg;rw[hg];try exact no hg)));all_goals try refine zO fun a w F M=>?_
  try rw[d0]
  (try refine zI zk90 F M ?_;clear F M a;try clear w);(repeat'(first|refine zA ?_;repeat intro nb|refine zC ?_;(first|refine kpW (k:=148) (hsl _) ?_|refine kp (k:=93) (rrej_spec b z c _ _ _ _ _ _) ?_)|refine zB ?_ ?_<;>intro hc<;>try exact no hc|refine zH ?_ ?_<;>(intro hg;rw[hg];try exact no hg)));all_goals try refine zO fun a w F M=>?_
  (all_goals refine zE F M ?_;exact⟨_,_,rfl,⟨z,rfl,rfl⟩,rln_close z.ln (h1:=f1) (h2:=f2) (M.perms permsA)⟩)
 rw[if_neg h1] at hrr
 by_cases h2:v.st=2∨v.st=3∨v.st=4∨v.st=5
 ·rw[if_pos h2] at hrr
  rw[hrr] at hsl ⊢
  simp only[ne_eq,not_true_eq_false,if_false] at hsl ⊢
  obtain ⟨P,hP⟩:∃ P,penF v.bal c.penNum c.penDen=P:=⟨_,rfl⟩
  obtain ⟨D,hD⟩:∃ D,max v.wd (epo c s+c.slashDelay)=D:=⟨_,rfl⟩
  rw[hP] at hpen
  have hsum:=hi.sum
  have hsc:=hc.sc;have hmd:=hc.md
  obtain ⟨t1,t2,t3⟩:=hi.tot
  have hbu:=fun R=>rlburn_spec z.ld R c.supplyCap s.dep s.pd s.bu ⟨t1,t2,by omega,t3,by omega,by omega⟩ P ⟨hpen.1,by omega⟩
  have hpt:=fun (R:List Asn) hg=>rput_spec s.V (sl z.hV) R hg (by omega) i ⟨v.bal - P,slaS v.st,true,if v.st=2 then epo c s else v.rq,v.ex,D,-1⟩ v hv
  simp only[hP,hD] at hsl ⊢
  obtain ⟨bal,st,slz,rq,ex,wd,dl⟩:=v
  simp only at h1 h2 hsl hpt hpen hst7 ⊢
  rcases h2 with rfl|rfl|rfl|rfl
  ·simp only[if_true,true_and,show ¬((2:Int)=5) by decide,if_false] at hsl hpt ⊢
   by_cases hq:c.queueSize≤s.fo.length
   ·rw[if_pos hq]
    ((intro G w M;(obtain ⟨f1,f2,M2,fe1,fe2⟩:=rln_open z.ln M);(clear M;have M:=M2;clear M2));(refine zGe Tryz.func90 ?_;intro a F;(try simp only[zc,zn] at M)))
    (try refine zI zk90 F M ?_;clear F M a;try clear w);(repeat'(first|refine zA ?_;repeat intro nb|refine zC ?_;(first|refine kpW (k:=148) (hsl _) ?_|refine kp (k:=93) (rrej_spec b z c _ _ _ _ _ _) ?_|refine acW (k:=146) (hpt _ ?_) ?_;exact gsA;rintro u L' ⟨h1,rfl,rfl⟩|refine kp (k:=149) (hbu _) ?_|refine kp (k:=142) (racp_spec b {z with hV:=h1} c _ _ _ _ _ _ _) ?_)|refine zB ?_ ?_<;>intro hc<;>try exact no hc|refine zH ?_ ?_<;>(intro hg;rw[hg];try exact no hg)));all_goals try refine zO fun a w F M=>?_
    try rw[d0]
    (try refine zI zk90 F M ?_;clear F M a;try clear w);(repeat'(first|refine zA ?_;repeat intro nb|refine zC ?_;(first|refine kpW (k:=148) (hsl _) ?_|refine kp (k:=93) (rrej_spec b z c _ _ _ _ _ _) ?_|refine acW (k:=146) (hpt _ ?_) ?_;exact gsA;rintro u L' ⟨h1,rfl,rfl⟩|refine kp (k:=149) (hbu _) ?_|refine kp (k:=142) (racp_spec b {z with hV:=h1} c _ _ _ _ _ _ _) ?_)|refine zB ?_ ?_<;>intro hc<;>try exact no hc|refine zH ?_ ?_<;>(intro hg;rw[hg];try exact no hg)));all_goals try refine zO fun a w F M=>?_
    (all_goals refine zE F M ?_;exact⟨_,_,rfl,⟨z,rfl,rfl⟩,rln_close z.ln (h1:=f1) (h2:=f2) (M.perms permsA)⟩)
   ·rw[if_neg hq]
    have hqq:s.fo.length<qS c:=by omega
    have hpu:=fun (f1 f2:SlH) R=>rlpush0O z.ln R (qS c) s.fo s.vo f1 f2 i hqq hsz
    ((intro G w M;(obtain ⟨f1,f2,M2,fe1,fe2⟩:=rln_open z.ln M);(clear M;have M:=M2;clear M2));(refine zGe Tryz.func90 ?_;intro a F;(try simp only[zc,zn] at M)))
    (try refine zI zk90 F M ?_;clear F M a;try clear w);(repeat'(first|refine zA ?_;repeat intro nb|refine zC ?_;(first|refine kpW (k:=148) (hsl _) ?_|refine kp (k:=93) (rrej_spec b z c _ _ _ _ _ _) ?_|refine acW (k:=146) (hpt _ ?_) ?_;exact gsA;rintro u L' ⟨h1,rfl,rfl⟩|refine kp (k:=149) (hbu _) ?_|refine kp (k:=142) (racp_spec b {z with hV:=h1} c _ _ _ _ _ _ _) ?_|refine acK (k:=147) (hpu f1 f2 _) ?_;rintro u L' ⟨f3,rfl,rfl⟩)|refine zB ?_ ?_<;>intro hc<;>try exact no hc|refine zH ?_ ?_<;>(intro hg;rw[hg];try exact no hg)));all_goals try refine zO fun a w F M=>?_
    try rw[d0]
    (try refine zI zk90 F M ?_;clear F M a;try clear w);(repeat'(first|refine zA ?_;repeat intro nb|refine zC ?_;(first|refine kpW (k:=148) (hsl _) ?_|refine kp (k:=93) (rrej_spec b z c _ _ _ _ _ _) ?_|refine acW (k:=146) (hpt _ ?_) ?_;exact gsA;rintro u L' ⟨h1,rfl,rfl⟩|refine kp (k:=149) (hbu _) ?_|refine kp (k:=142) (racp_spec b {z with hV:=h1} c _ _ _ _ _ _ _) ?_|refine acK (k:=147) (hpu f1 f2 _) ?_;rintro u L' ⟨f3,rfl,rfl⟩)|refine zB ?_ ?_<;>intro hc<;>try exact no hc|refine zH ?_ ?_<;>(intro hg;rw[hg];try exact no hg)));all_goals try refine zO fun a w F M=>?_
    all_goals(refine zE F M ?_;(have M2:=M.roP (v:=sl h1) pullA);exact⟨_,_,rfl,⟨{z with hV:=h1},rfl,rfl⟩,rln_close z.ln (h1:=f3) (h2:=f2) (M2.perms permsA)⟩)
  ·simp only[show ¬((3:Int)=2) by decide,show ¬((3:Int)=5) by decide,if_false,false_and] at hsl hpt ⊢
   ((intro G w M;(obtain ⟨f1,f2,M2,fe1,fe2⟩:=rln_open z.ln M);(clear M;have M:=M2;clear M2));(refine zGe Tryz.func90 ?_;intro a F;(try simp only[zc,zn] at M)))
   (try refine zI zk90 F M ?_;clear F M a;try clear w);(repeat'(first|refine zA ?_;repeat intro nb|refine zC ?_;(first|refine kpW (k:=148) (hsl _) ?_|refine kp (k:=93) (rrej_spec b z c _ _ _ _ _ _) ?_|refine acW (k:=146) (hpt _ ?_) ?_;exact gsA;rintro u L' ⟨h1,rfl,rfl⟩|refine kp (k:=149) (hbu _) ?_|refine kp (k:=142) (racp_spec b {z with hV:=h1} c _ _ _ _ _ _ _) ?_)|refine zB ?_ ?_<;>intro hc<;>try exact no hc|refine zH ?_ ?_<;>(intro hg;rw[hg];try exact no hg)));all_goals try refine zO fun a w F M=>?_
   try rw[d0]
   (try refine zI zk90 F M ?_;clear F M a;try clear w);(repeat'(first|refine zA ?_;repeat intro nb|refine zC ?_;(first|refine kpW (k:=148) (hsl _) ?_|refine kp (k:=93) (rrej_spec b z c _ _ _ _ _ _) ?_|refine acW (k:=146) (hpt _ ?_) ?_;exact gsA;rintro u L' ⟨h1,rfl,rfl⟩|refine kp (k:=149) (hbu _) ?_|refine kp (k:=142) (racp_spec b {z with hV:=h1} c _ _ _ _ _ _ _) ?_)|refine zB ?_ ?_<;>intro hc<;>try exact no hc|refine zH ?_ ?_<;>(intro hg;rw[hg];try exact no hg)));all_goals try refine zO fun a w F M=>?_
   (all_goals refine zE F M ?_;(have M2:=M.roP (v:=sl h1) pullA);exact⟨_,_,rfl,⟨{z with hV:=h1},rfl,rfl⟩,rln_close z.ln (h1:=f1) (h2:=f2) (M2.perms permsA)⟩)
  ·simp only[show ¬((4:Int)=2) by decide,show ¬((4:Int)=5) by decide,if_false,false_and] at hsl hpt ⊢
   ((intro G w M;(obtain ⟨f1,f2,M2,fe1,fe2⟩:=rln_open z.ln M);(clear M;have M:=M2;clear M2));(refine zGe Tryz.func90 ?_;intro a F;(try simp only[zc,zn] at M)))
   (try refine zI zk90 F M ?_;clear F M a;try clear w);(repeat'(first|refine zA ?_;repeat intro nb|refine zC ?_;(first|refine kpW (k:=148) (hsl _) ?_|refine kp (k:=93) (rrej_spec b z c _ _ _ _ _ _) ?_|refine acW (k:=146) (hpt _ ?_) ?_;exact gsA;rintro u L' ⟨h1,rfl,rfl⟩|refine kp (k:=149) (hbu _) ?_|refine kp (k:=142) (racp_spec b {z with hV:=h1} c _ _ _ _ _ _ _) ?_)|refine zB ?_ ?_<;>intro hc<;>try exact no hc|refine zH ?_ ?_<;>(intro hg;rw[hg];try exact no hg)));all_goals try refine zO fun a w F M=>?_
   try rw[d0]
   (try refine zI zk90 F M ?_;clear F M a;try clear w);(repeat'(first|refine zA ?_;repeat intro nb|refine zC ?_;(first|refine kpW (k:=148) (hsl _) ?_|refine kp (k:=93) (rrej_spec b z c _ _ _ _ _ _) ?_|refine acW (k:=146) (hpt _ ?_) ?_;exact gsA;rintro u L' ⟨h1,rfl,rfl⟩|refine kp (k:=149) (hbu _) ?_|refine kp (k:=142) (racp_spec b {z with hV:=h1} c _ _ _ _ _ _ _) ?_)|refine zB ?_ ?_<;>intro hc<;>try exact no hc|refine zH ?_ ?_<;>(intro hg;rw[hg];try exact no hg)));all_goals try refine zO fun a w F M=>?_
   (all_goals refine zE F M ?_;(have M2:=M.roP (v:=sl h1) pullA);exact⟨_,_,rfl,⟨{z with hV:=h1},rfl,rfl⟩,rln_close z.ln (h1:=f1) (h2:=f2) (M2.perms permsA)⟩)
  ·simp only[show ¬((5:Int)=2) by decide,if_true,if_false,false_and] at hsl hpt ⊢
   ((intro G w M;(obtain ⟨f1,f2,M2,fe1,fe2⟩:=rln_open z.ln M);(clear M;have M:=M2;clear M2));(refine zGe Tryz.func90 ?_;intro a F;(try simp only[zc,zn] at M)))
   (try refine zI zk90 F M ?_;clear F M a;try clear w);(repeat'(first|refine zA ?_;repeat intro nb|refine zC ?_;(first|refine kpW (k:=148) (hsl _) ?_|refine kp (k:=93) (rrej_spec b z c _ _ _ _ _ _) ?_|refine acW (k:=146) (hpt _ ?_) ?_;exact gsA;rintro u L' ⟨h1,rfl,rfl⟩|refine kp (k:=149) (hbu _) ?_|refine kp (k:=142) (racp_spec b {z with hV:=h1} c _ _ _ _ _ _ _) ?_)|refine zB ?_ ?_<;>intro hc<;>try exact no hc|refine zH ?_ ?_<;>(intro hg;rw[hg];try exact no hg)));all_goals try refine zO fun a w F M=>?_
   try rw[d0]
   (try refine zI zk90 F M ?_;clear F M a;try clear w);(repeat'(first|refine zA ?_;repeat intro nb|refine zC ?_;(first|refine kpW (k:=148) (hsl _) ?_|refine kp (k:=93) (rrej_spec b z c _ _ _ _ _ _) ?_|refine acW (k:=146) (hpt _ ?_) ?_;exact gsA;rintro u L' ⟨h1,rfl,rfl⟩|refine kp (k:=149) (hbu _) ?_|refine kp (k:=142) (racp_spec b {z with hV:=h1} c _ _ _ _ _ _ _) ?_)|refine zB ?_ ?_<;>intro hc<;>try exact no hc|refine zH ?_ ?_<;>(intro hg;rw[hg];try exact no hg)));all_goals try refine zO fun a w F M=>?_
   (all_goals refine zE F M ?_;(have M2:=M.roP (v:=sl h1) pullA);exact⟨_,_,rfl,⟨{z with hV:=h1},rfl,rfl⟩,rln_close z.ln (h1:=f1) (h2:=f2) (M2.perms permsA)⟩)
 ·rw[if_neg h2] at hrr
  rw[hrr] at hsl ⊢
  simp only[ne_eq,show ¬((8:Int)=0) by decide,not_false_eq_true,if_true] at hsl ⊢
  obtain ⟨bal,st,slz,rq,ex,wd,dl⟩:=v
  try simp only at hsl
  ((intro G w M;(obtain ⟨f1,f2,M2,fe1,fe2⟩:=rln_open z.ln M);(clear M;have M:=M2;clear M2));(refine zGe Tryz.func90 ?_;intro a F;(try simp only[zc,zn] at M)))
  (try refine zI zk90 F M ?_;clear F M a;try clear w);(repeat'(first|refine zA ?_;repeat intro nb|refine zC ?_;(first|refine kpW (k:=148) (hsl _) ?_|refine kp (k:=93) (rrej_spec b z c _ _ _ _ _ _) ?_)|refine zB ?_ ?_<;>intro hc<;>try exact no hc|refine zH ?_ ?_<;>(intro hg;rw[hg];try exact no hg)));all_goals try refine zO fun a w F M=>?_
  try rw[d0]
  (try refine zI zk90 F M ?_;clear F M a;try clear w);(repeat'(first|refine zA ?_;repeat intro nb|refine zC ?_;(first|refine kpW (k:=148) (hsl _) ?_|refine kp (k:=93) (rrej_spec b z c _ _ _ _ _ _) ?_)|refine zB ?_ ?_<;>intro hc<;>try exact no hc|refine zH ?_ ?_<;>(intro hg;rw[hg];try exact no hg)));all_goals try refine zO fun a w F M=>?_
  (all_goals refine zE F M ?_;exact⟨_,_,rfl,⟨z,rfl,rfl⟩,rln_close z.ln (h1:=f1) (h2:=f2) (M.perms permsA)⟩)
end
end
end Go.Proofs.YtjbfcacmdahnhaaGreat
