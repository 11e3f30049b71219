import Derived.Test.YtjbfcacmdahnhaaGreatZrq
set_option linter.unusedVariables false
set_option linter.unusedSimpArgs false
set_option linter.unusedSectionVars false
set_option maxRecDepth 100000
set_option maxHeartbeats 8000000
namespace Go.Proofs.YtjbfcacmdahnhaaGreat
section
open Go.RowKit
theorem VG.st {V:List Val} (h:VG V):StOk V:=fun x hx=>by
 obtain ⟨i,hi,he⟩:=List.getElem_of_mem hx
 have g:=h.ok i x (by rw[List.getElem?_eq_getElem hi,he])
 exact⟨g.b.1,i64_wf g.wf.2.1⟩
theorem VG.u64v {V:List Val} (h:VG V):∀ x∈V,U64 x.bal:=fun x hx=>h.u64 _ (List.mem_map.2 ⟨x,hx,rfl⟩)
section
variable (b:Nat) (H:EH) (c:Cfg) (s:St) (R:List Asn)
variable {e:Int} {V1 V2 V3 V4 V5:List Val} {ch:Int} {T:Nat × Int} {n:Nat} {E2:List En}
theorem bwalk (hc:CfOk c) (f:BdF c s e V1 V2 V3 V4 V5 ch T n E2) :
  Spec 123 [ptr b] (engL b H c s R) fun u L'=>∃ ha H',u=sl ha∧L'=ownT 75 asgL 3 (sl ha) (boundM c s).ag::engL b H' c (boundM c s).s R:=by
 rw[f.bd]
 simp only
 have hqs:=hc.qs
 have hel:=hc.el
 have hme:=hc.me
 have hqu:=hc.qu
 obtain ⟨he0,hepo,hb,g0,g1,g2,g3,g4,g5,lvn,lvl,lv3,m1,bl,dn,ds,m2,e2,e2l,hch,ch0,hT,hca,xn,x3,xl,m3,hn,pn,pl,p1,m4,ml,m5,l5,bd⟩:=f
 clear bd
 have hck:=fun R=>clk_epoch H.ck s.bk c.epochLen hel (by omega) R
 rw[hepo] at hck
 have hri:=fun (hl:SlH) (R:List Asn)=>ripen_spec b {H with lv:=hl} c R hc V1 g1 s.bo e he0 bl dn ds
 rw[m2,e2] at hri
 have hav:=actv_le V2 g2.bal0
 have hsm2:=g2.sum
 have hac:=fun R=>reg_active H.rg c.capacity V2 R ⟨hav.1,by omega⟩
 have hcn:=fun R=>churn_spec R (actv V2) c.minChurn c.quotient ⟨hav.1,by omega⟩ hqu
 rw[show max c.minChurn (actv V2 / c.quotient)=ch from hch] at hcn
 have hfl:s.fo.length+s.vo.length≤4096:=by rw[← List.length_append];exact xl
 have hea:=fun (hl:SlH) (R:List Asn)=>eassign_spec b {H with lv:=hl} c R hc V2 g2 s.fo s.vo (by omega) (by omega) s.ca ch e hca ch0 he0 E2 e2l xn x3 xl
 rw[hT,m3] at hea
 have hbl:=fun R=>tbals_spec H.rg c.capacity V3 R g3.len
 have hat:=fun (h:SlH) (R:List Asn) hg=>act_spec H.pe (qS c) (bals V3) h R hg g3.u64 s.pe pl ch
 rw[hn] at hat
 have hra:=fun R=>reg_all H.rg c.capacity V4 g4.len R
 have htk:=fun R=>take_rgp_spec H.me (qS c) (q:=s.me) c.merges hme.1 ml R
 have hms:=fun (h1 h2:SlH) (R:List Asn) hg1 hg2 hq=>mstep_spec h1 h2 V4 (s.me.take c.merges.toNat) c hc R hg1 hg2 g4.len (by rw[List.length_take];omega) hq g4.u64v
 simp only[List.take_take,Nat.min_self,m5] at hms
 have hs4:=g4.sum;have hs5:=g5.sum
 have hst:=fun (hl h:SlH) (R:List Asn) hg=>store_spec b {H with lv:=hl} c V4 V5 h R hg l5 g4.len g4.st g5.st (by omega) (by omega)
 refine zGz zk123 Tryz.func123 ?_;intro G;(repeat'(first|refine zA ?_;repeat intro nb|refine zC ?_;refine kp (k:=43) (hck _) ?_|refine zB ?_ ?_<;>intro hc<;>try exact no hc|refine zH ?_ ?_<;>(intro hg;rw[hg];try exact no hg)));all_goals try refine zO fun a w F M=>?_
 refine svLoop F M (0:Nat) (fun k=>[(22,.int .i64 k)]) (fun k=>[regA H.rg c.capacity (mods set4 s.V (s.lv.take k))]) (fun k=>k≤s.lv.length) (fun k=>s.lv.length - k) [5] (Nat.zero_le _) ?_ (hR:=by simp only[List.take_zero,mods,List.foldl_nil];(repeat (first|exact Pulls.nil|(apply Pulls.cons;(focus ((repeat (first|exact Pull.here|apply Pull.there));done))))))
 (rintro k q1 a w F M;(try simp only[zc,zn] at F M q1 ⊢))
 by_cases hk:k<s.lv.length
 ·obtain ⟨i,hi⟩:∃ i,s.lv[k]? = some i:=⟨s.lv[k],by simp[hk]⟩
  obtain ⟨v,hv,hs3⟩:=lv3 i (List.mem_of_getElem? hi)
  obtain ⟨k1,k2⟩:=mods_step set4 lvn hi hv
  have hVk:=g0.mods set4 (fun _=>rfl) (fun v h=>⟨h.b,⟨by simp[set4],by simp[set4]⟩,h.rq,h.ex,h.wd,h.dl⟩) (s.lv.take k)
  have hgv:=g0.ok i v hv
  have hev:=fun R=>tevent_spec H.rg c.capacity (mods set4 s.V (s.lv.take k)) R i v 3 k1 hVk.len hgv.st ⟨by omega,by omega⟩ (by rw[hs3];decide) hVk.bal0 (by have:=hVk.sum;omega)
  rw[show nextF v.st 3=4 by rw[hs3];rfl,show({v with st:=4}:Val)=set4 v from rfl,← k2] at hev
  (try refine zI zk123 F M ?_;clear F M a;try clear w);(repeat'(first|refine zA ?_;repeat intro nb|refine zC ?_;refine kp (k:=170) (hev _) ?_|refine zB ?_ ?_<;>intro hc<;>try exact no hc|refine zH ?_ ?_<;>(intro hg;rw[hg];try exact no hg)));all_goals try refine zO fun a w F M=>?_
  exact sv_again F M (k+1) kpA permsA (by omega) (by omega)
 ·obtain rfl:k=s.lv.length:=by omega
  rw[List.take_length,m1] at M
  have M:=M.own_nil 3 1
  (try refine zI zk123 F M ?_;clear F M a;try clear w);(repeat'(first|refine zA ?_;repeat intro nb|refine zC ?_;(first|refine kp (k:=171) (hri nilH _) ?_|refine kp (k:=45) (hac _) ?_|refine kpW (k:=172) (hcn _) ?_|refine acK (L1:=pt b (engC {H with lv:=nilH} c) 122::regA H.rg c.capacity V2::bkA H.bo c.ringLen.toNat E2::ownT 3 natL 1 (sl nilH) []::mtA H.mt s.ca::lnP H.ln H.r0 H.r1 (qS c) s.fo s.vo _) (k:=173) (hea nilH _) ?_;rintro u L' ⟨ha,hl,rfl,rfl⟩|refine acK (k:=175) (hbl _) ?_;rintro u L' ⟨hw,rfl,rfl⟩|refine acK (k:=174) (hat _ _ ?_) ?_;exact gsA;rintro u L' ⟨hp,rfl,rfl⟩)|refine zB ?_ ?_<;>intro hc<;>try exact no hc|refine zH ?_ ?_<;>(intro hg;rw[hg];try exact no hg)));all_goals try refine zO fun a w F M=>?_
  refine svLoop F M (0:Nat) (fun k=>[(72,.int .i64 k)]) (fun k=>[regA H.rg c.capacity (mods actV V3 ((s.pe.take n).take k))]) (fun k=>k≤(s.pe.take n).length) (fun k=>(s.pe.take n).length - k) [9] (Nat.zero_le _) ?_ (hR:=by simp only[List.take_zero,mods,List.foldl_nil];(repeat (first|exact Pulls.nil|(apply Pulls.cons;(focus ((repeat (first|exact Pull.here|apply Pull.there));done))))))
  have pn2:(s.pe.take n).Nodup:=pn.sublist (List.take_sublist _ _)
  have pl2:(s.pe.take n).length≤4096:=by rw[List.length_take];omega
  have p12:∀ i∈s.pe.take n,∃ v,V3[i]? = some v∧v.st=1:=fun i hi=>p1 i (List.mem_of_mem_take hi)
  clear pn p1
  generalize s.pe.take n=px at *
  (rintro k q1 a w F M;(try simp only[zc,zn] at F M q1 ⊢))
  by_cases hk:k<px.length
  ·obtain ⟨i,hi⟩:∃ i,px[k]? = some i:=⟨px[k],by simp[hk]⟩
   obtain ⟨v,hv,hs3⟩:=p12 i (List.mem_of_getElem? hi)
   obtain ⟨k1,k2⟩:=mods_step actV pn2 hi hv
   have hVk:=g3.mods actV (fun _=>rfl) (fun v h=>⟨h.b,⟨by simp[actV],by simp[actV]⟩,h.rq,h.ex,h.wd,h.dl⟩) (px.take k)
   have hgv:=g3.ok i v hv
   have hev:=fun R=>tevent_spec H.rg c.capacity (mods actV V3 (px.take k)) R i v 1 k1 hVk.len hgv.st ⟨by omega,by omega⟩ (by rw[hs3];decide) hVk.bal0 (by have:=hVk.sum;omega)
   rw[show nextF v.st 1=2 by rw[hs3];rfl,show({v with st:=2}:Val)=actV v from rfl,← k2] at hev
   (try refine zI zk123 F M ?_;clear F M a;try clear w);(repeat'(first|refine zA ?_;repeat intro nb|refine zC ?_;refine kp (k:=170) (hev _) ?_|refine zB ?_ ?_<;>intro hc<;>try exact no hc|refine zH ?_ ?_<;>(intro hg;rw[hg];try exact no hg)));all_goals try refine zO fun a w F M=>?_
   exact sv_again F M (k+1) kpA permsA (by omega) (by omega)
  ·obtain rfl:k=px.length:=by omega
   rw[List.take_length,m4] at M
   (try refine zI zk123 F M ?_;clear F M a;try clear w);(repeat'(first|refine zA ?_;repeat intro nb|refine zC ?_;(first|refine acK (k:=44) (hra _) ?_;rintro u L' ⟨h1,rfl,rfl⟩|refine acK (k:=177) (htk _) ?_;rintro u L' ⟨h2,rfl,hq2,rfl⟩|refine acW (k:=176) (hms h1 h2 _ ?_ ?_ hq2) ?_;exact gsA;exact gsA;rintro u L' ⟨h3,vv,rfl,rfl⟩|refine acK (k:=178) (hst hl h3 _ ?_) ?_;exact gsA;rintro u L' ⟨rfl,rfl⟩)|refine zB ?_ ?_<;>intro hc<;>try exact no hc|refine zH ?_ ?_<;>(intro hg;rw[hg];try exact no hg)));all_goals try refine zO fun a w F M=>?_
   all_goals refine zE F M ?_
   exact⟨_,_,rfl,⟨ha,{H with lv:=hl},rfl,rfl⟩,M.perms permsA⟩
theorem boundary_spec (hc:CfOk c) (h:Inv c s) (hb:s.bk<1000000000) (hz:((s.bk+1:Nat):Int) % c.epochLen=0) :
  Spec 123 [ptr b] (engL b H c {s with bk:=s.bk+1} R) fun u L'=>∃ ha H',u=sl ha∧L'=ownT 75 asgL 3 (sl ha) (boundM c {s with bk:=s.bk+1}).ag::engL b H' c (boundM c {s with bk:=s.bk+1}).s R:=by
 obtain ⟨e,V1,V2,V3,V4,V5,ch,T,n,E2,f⟩:=bdF_of hc h hb hz
 exact bwalk b H c _ R hc f
end
end
section
open Go.RowKit
def parU (c:Cfg) (Z:List Val × List Pm) (r:Nat × Int):List Val × List Pm :=
 match Z.1[r.1]? with
 | none=>Z
 | some v=>(Z.1.set r.1 (parVal v (min r.2 (availV c v))),Z.2++[⟨r.1,min r.2 (availV c v),false⟩])
theorem parU_some {c:Cfg} {Z:List Val × List Pm} {r:Nat × Int} {v:Val} (h:Z.1[r.1]? = some v):parU c Z r=(Z.1.set r.1 (parVal v (min r.2 (availV c v))),Z.2++[⟨r.1,min r.2 (availV c v),false⟩]):=by
 unfold parU;rw[h]
theorem parU_len (c:Cfg) (Z:List Val × List Pm) (r:Nat × Int):(parU c Z r).1.length=Z.1.length∧(parU c Z r).2.length≤Z.2.length+1:=by
 unfold parU
 split
 ·exact⟨rfl,by omega⟩
 ·exact⟨by rw[List.length_set],by simp⟩
def fP (P:List Pm):List Pm:=P.filter fun p=>!decide (p.am=0)
theorem parU_parV (c:Cfg) (hc:CfOk c) (Z:List Val × List Pm) (hZ:∀ v∈Z.1,v.wf) (r:Nat × Int) (hr:0≤r.2):(parV c (Z.1,fP Z.2) r).1=(parU c Z r).1∧(parV c (Z.1,fP Z.2) r).2=fP (parU c Z r).2:=by
 unfold parV parU
 cases h:Z.1[r.1]? with
 | none=>exact⟨rfl,rfl⟩
 | some v =>
  have ha:=avail_le c hc v (hZ v (List.mem_of_getElem? h)).1
  simp only
  refine⟨rfl,?_⟩
  unfold fP
  rw[List.filter_append]
  by_cases h0:0<min r.2 (availV c v)
  ·rw[if_pos h0]
   have:¬(min r.2 (availV c v)=0):=by omega
   simp[this]
  ·rw[if_neg h0]
   have:min r.2 (availV c v)=0:=by omega
   simp[this]
theorem parU_wf (c:Cfg) (hc:CfOk c) (Z:List Val × List Pm) (hZ:∀ v∈Z.1,v.wf) (r:Nat × Int) (hr:0≤r.2):∀ v∈(parU c Z r).1,v.wf:=by
 unfold parU
 cases h:Z.1[r.1]? with
 | none=>exact hZ
 | some v =>
  intro x hx
  have hv:=hZ v (List.mem_of_getElem? h)
  have ha:=avail_le c hc v hv.1
  rcases List.mem_or_eq_of_mem_set hx with hx|rfl
  ·exact hZ x hx
  ·obtain ⟨⟨k1,k1'⟩,k2,k3,k4,k5,k6⟩:=hv
   exact⟨⟨by simp only[parVal];omega,by simp only[parVal];omega⟩,k2,k3,k4,k5,k6⟩
theorem pars_eq (c:Cfg) (hc:CfOk c):∀ (q:List (Nat × Int)) (Z:List Val × List Pm),(∀ v∈Z.1,v.wf)→(∀ r∈q,0≤r.2)→q.foldl (parV c) (Z.1,fP Z.2)=((q.foldl (parU c) Z).1,fP (q.foldl (parU c) Z).2)
 | [],Z,_,_=>rfl
 | r::q,Z,hZ,hr=>by
  have h1:=parU_parV c hc Z hZ r (hr r (by simp))
  have h2:parV c (Z.1,fP Z.2) r=((parU c Z r).1,fP (parU c Z r).2):=Prod.ext h1.1 h1.2
  rw[List.foldl_cons,List.foldl_cons,h2]
  exact pars_eq c hc q _ (parU_wf c hc Z hZ r (hr r (by simp))) fun r h=>hr r (by simp[h])
section
variable (c:Cfg) (hc:CfOk c) (b9 b5 b10:Nat) (R:List Asn)
def pxA (h1:SlH) (Z:List Val × List Pm):Asn:=exA fun hp:SlH=>[pt b10 [sl hp] 37,ownT 57 pmL 3 (sl hp) Z.2,pt b9 [sl h1] 43,ownT 62 valL 7 (sl h1) Z.1,pt b5 (cfgL c) 24]
theorem px_open {w:World} {L:List Asn} {h1:SlH} {Z:List Val × List Pm} (M:Mem w (pxA c b9 b5 b10 h1 Z::L)):∃ hp,Mem w (pt b10 [sl hp] 37::ownT 57 pmL 3 (sl hp) Z.2::pt b9 [sl h1] 43::ownT 62 valL 7 (sl h1) Z.1::pt b5 (cfgL c) 24::L):=by
 obtain ⟨h,M⟩:=M.exo
 exact⟨h,M⟩
theorem px_close {w:World} {L:List Asn} {h1 hp:SlH} {Z:List Val × List Pm} (M:Mem w (pt b10 [sl hp] 37::ownT 57 pmL 3 (sl hp) Z.2::pt b9 [sl h1] 43::ownT 62 valL 7 (sl h1) Z.1::pt b5 (cfgL c) 24::L)):Mem w (pxA c b9 b5 b10 h1 Z::L):=Mem.exc (f:=fun hp:SlH=>[pt b10 [sl hp] 37,ownT 57 pmL 3 (sl hp) Z.2,pt b9 [sl h1] 43,ownT 62 valL 7 (sl h1) Z.1,pt b5 (cfgL c) 24]) hp M
include hc in
theorem pxs1_spec (h1:SlH) (Z:List Val × List Pm) (i:Nat) (x:Int) (v:Val) (hv:Z.1[i]? = some v) (hw:v.wf) (hx:U64 x) (hl:Z.1.length≤4096) (hp:Z.2.length≤100000):Spec 271 [rqW i x,ptr b9,ptr b5,ptr b10] (pxA c b9 b5 b10 h1 Z::R) fun u L'=>u=.tuple #[]∧L'=pxA c b9 b5 b10 h1 (parU c Z (i,x))::R:=by
 have hi:i<Z.1.length:=(List.getElem?_eq_some_iff.1 hv).1
 have hap:=fun R=>papply_spec R c hc v hw.1 x hx
 rw[parU_some (r:=(i,x)) hv]
 simp only
 obtain ⟨u,hu⟩:∃ u,parVal v (min x (availV c v))=u:=⟨_,rfl⟩
 simp only[hu] at hap ⊢
 intro G w M
 obtain ⟨h2,M2⟩:=px_open c b9 b5 b10 M
 clear M;have M:=M2;clear M2
 (refine zGe Tryz.func271 ?_;intro a F;(try simp only[zc,zn] at M))
 (try refine zI zk271 F M ?_;clear F M a;try clear w);(repeat'(first|refine zA ?_;repeat intro nb|refine zC ?_;(first|refine kpW (k:=272) (hap _) ?_|refine ac_storeEA (f:=valL) (v:=sl h1) (j:=i) (k:=7) rfl rfl inferInstance u rfl hv inferInstance (by(focus ((repeat (first|exact Rep.here|apply Rep.there));done))) ?_|refine ac_appendH (f:=pmL) (xs:=Z.2) (ys:=[⟨(i:Int),min x (availV c v),false⟩]) rfl rfl inferInstance rfl rfl pullA inferInstance gsA rfl rfl (by simp;omega) ?_;intro nv)|refine zB ?_ ?_<;>intro hc<;>try exact no hc|refine zH ?_ ?_<;>(intro hg;rw[hg];try exact no hg)));all_goals try refine zO fun a w F M=>?_
 all_goals refine zE F M ?_
 exact⟨_,_,rfl,⟨rfl,rfl⟩,px_close c b9 b5 b10 (M.perms permsA)⟩
theorem parsU_len (c:Cfg):∀ (q:List (Nat × Int)) (Z:List Val × List Pm),(q.foldl (parU c) Z).1.length=Z.1.length∧(q.foldl (parU c) Z).2.length≤Z.2.length+q.length
 | [],Z=>⟨rfl,by simp⟩
 | r::q,Z=>by
  have h1:=parU_len c Z r
  have h2:=parsU_len c q (parU c Z r)
  rw[List.foldl_cons,List.length_cons];omega
theorem parsU_wf (c:Cfg) (hc:CfOk c):∀ (q:List (Nat × Int)) (Z:List Val × List Pm),(∀ v∈Z.1,v.wf)→(∀ r∈q,0≤r.2)→∀ v∈(q.foldl (parU c) Z).1,v.wf
 | [],Z,h,_=>h
 | r::q,Z,h,hr=>by
  rw[List.foldl_cons]
  exact parsU_wf c hc q _ (parU_wf c hc Z h r (hr r (by simp))) fun x hx=>hr x (by simp[hx])
include hc in
theorem pstep_spec (hv hq:SlH) (V:List Val) (q:List (Nat × Int)) (R:List Asn) (hg:GS R 7 (sl hv) V.length (V.flatMap valL)) (hgq:GS R 2 (sl hq) q.length (q.flatMap rqL)) (hl:V.length≤4096) (hql:(q.length:Int)≤c.partials) (hqc:q.length≤hq.c) (hV:∀ x∈V,x.wf) (hr:∀ r∈q,r.1<V.length∧U64 r.2) :
  Spec 179 [sl hv,sl hq,cfgV c] R fun u L'=>∃ h h',u=.tuple [sl h,sl h',.int .i64 (q.length:Int)].toArray∧L'=ownT 62 valL 7 (sl h) (q.foldl (parU c) (V,[])).1::ownT 57 pmL 3 (sl h') (fP (q.foldl (parU c) (V,[])).2)::R:=by
 have hpa:=hc.pa
 have hpy:=hc.py
 have hmin:(if c.partials<(q.length:Int) then c.partials else (q.length:Int))=(q.length:Int):=by split<;>omega
 have hgt:=gs_toT (f:=rqL) inferInstance hgq (j:=q.length) (Nat.le_refl _)
 rw[List.take_length] at hgt
 refine zGo Tryz.func179 ?_;intro G w M a F
 have hG:GS (R++G) 7 (sl hv) V.length (V.flatMap valL):=Gives.app hg
 have hH:GS (R++G) 2 (sl hq) q.length (q.flatMap rqL):=Gives.app hgq
 have hI:GS (R++G) 2 (sl ⟨hq.a,q.length,hq.c⟩) q.length (q.flatMap rqL):=Gives.app hgt
 (try refine zI zk179 F M ?_;clear F M a;try clear w);(repeat'(first|refine zV (h:=⟨_,by((first|(apply rt_min2;(exact rfl);(exact rfl);(exact hmin))|(apply rt_to;(exact rfl);(exact rfl);(exact rfl);(exact inferInstance);omega))),?_⟩)|refine zA1 ?_;repeat intro(nb:Nat)|refine zC ?_;refine acW (k:=109) (clone_val hv V gsA (by omega)) ?_;rintro u L' ⟨h1,rfl,rfl⟩|refine zB ?_ ?_<;>intro hc<;>try exact no hc|refine zH ?_ ?_<;>(intro hg;rw[hg];try exact no hg)));all_goals try refine zO fun a w F M=>?_
 rename_i b5 b9
 obtain ⟨b10,rfl⟩:∃ x,x=nb:=⟨_,rfl⟩
 have M0:=M.own_nil 57 3
 have M1:Mem w (pxA c b9 b5 b10 h1 (V,[])::(R++G)):=px_close c b9 b5 b10 (hp:=nilH) (M0.perms permsA)
 clear M M0;have M:=M1;clear M1
 refine svLoop F M (0:Nat) (fun k=>[(27,.int .i64 k)]) (fun k=>[pxA c b9 b5 b10 h1 ((q.take k).foldl (parU c) (V,[]))]) (fun k=>k≤q.length) (fun k=>q.length - k) [14] (Nat.zero_le _) ?_ (hR:=by simp only[List.take_zero,List.foldl_nil];(repeat (first|exact Pulls.nil|(apply Pulls.cons;(focus ((repeat (first|exact Pull.here|apply Pull.there));done))))))
 (rintro k q1 a w F M;(try simp only[zc,zn] at F M q1 ⊢))
 obtain ⟨Z,hZ⟩:∃ Z,(q.take k).foldl (parU c) (V,[])=Z:=⟨_,rfl⟩
 have hZl:=parsU_len c (q.take k) (V,[])
 have hZw:=parsU_wf c hc (q.take k) (V,[]) hV fun r h=>(hr r (List.mem_of_mem_take h)).2.1
 rw[hZ] at hZl hZw
 rw[List.length_take] at hZl
 simp only[List.length_nil] at hZl
 by_cases hk:k<q.length
 ·obtain ⟨⟨i,x⟩,hi⟩:∃ r,q[k]? = some r:=⟨q[k],by simp[hk]⟩
  obtain ⟨hi1,hi2⟩:=hr _ (List.mem_of_getElem? hi)
  simp only at hi1 hi2
  obtain ⟨v,hv2⟩:∃ v,Z.1[i]? = some v:=⟨Z.1[i]'(by omega),by rw[List.getElem?_eq_getElem]⟩
  have hfk:(q.take (k+1)).foldl (parU c) (V,[])=parU c Z (i,x):=by rw[List.take_add_one,hi,List.foldl_append,hZ];rfl
  rw[hZ] at M
  have hps:=fun R=>pxs1_spec c hc b9 b5 b10 R h1 Z i x v hv2 (hZw v (List.mem_of_getElem? hv2)) hi2 (by omega) (by omega)
  rw[← hfk] at hps
  (try refine zI zk179 F M ?_;clear F M a;try clear w);(repeat'(first|refine zA ?_;repeat intro nb|refine zC ?_;refine acF (L1:=pxA c b9 b5 b10 h1 Z::_) (hps _) ?_;rintro u L' ⟨rfl,rfl⟩|refine zB ?_ ?_<;>intro hc<;>try exact no hc|refine zH ?_ ?_<;>(intro hg;rw[hg];try exact no hg)));all_goals try refine zO fun a w F M=>?_
  exact sv_again F M (k+1) kpA permsA (by omega) (by omega)
 ·obtain rfl:k=q.length:=by omega
  rw[List.take_length] at M hZ
  rw[hZ] at M
  obtain ⟨hp,M2⟩:=px_open c b9 b5 b10 M
  clear M;have M:=M2;clear M2
  have hpp:=fun R=>ppos_spec hp Z.2 R
  (try refine zI zk179 F M ?_;clear F M a;try clear w);(repeat'(first|refine zA ?_;repeat intro nb|refine zC ?_;refine acK (k:=273) (hpp _) ?_;rintro u L' ⟨h',rfl,rfl⟩|refine zB ?_ ?_<;>intro hc<;>try exact no hc|refine zH ?_ ?_<;>(intro hg;rw[hg];try exact no hg)));all_goals try refine zO fun a w F M=>?_
  subst hZ
  all_goals refine zE F M ?_
  exact⟨_,_,rfl,⟨h1,h',rfl,rfl⟩,M.perms permsA⟩
end
end
section
open Go.RowKit
theorem rt_rem' {o:Oper} {nn:Nat} {l:List (Nat × Value)} {L:List Asn} {t ty:TypeId} {x y:Operand} {r:Int} (ho:o.op=.binOp .rem t x y ty) {k:IntKind} {m p:Int} (hx:evl l x=some (.int k m)) (hy:evl l y=some (.int k p)) (h0:0≤m) (h1:0<p) (hr:m % p=r):RT o l L nn (.int k r):=hr ▸ rt_rem ho hx hy h0 h1
section
variable (b:Nat) (R:List Asn)
abbrev cyL (b b2 b3:Nat) (n:Nat) (at':Nat) (R:List Asn):List Asn:=pt b2 [ptr b] 115::pt b3 [.int .i64 (n:Int)] 3::cuC b at'::R
theorem cycle_spec (n at':Nat):Spec 275 [ptr b,.int .i64 n] (cuC b at'::R) fun u L'=>∃ b2 b3,u=.func (.func 326) #[] #[ptr b2,ptr b3]∧L'=cyL b b2 b3 n at' R:=by
 refine zGz zk275 Tryz.func275 ?_;intro G;(repeat'(first|refine zA ?_;repeat intro nb|refine zB ?_ ?_<;>intro hc<;>try exact no hc|refine zH ?_ ?_<;>(intro hg;rw[hg];try exact no hg)));all_goals try refine zO fun a w F M=>?_
 (all_goals(refine zE F M ?_;exact⟨_,_,rfl,⟨_,_,rfl,rfl⟩,M.perms permsA⟩))
theorem cycle1_spec (b2 b3 n at':Nat) (hn:1≤n∧n≤4096) (ha:at'≤100000):Spec 326 [ptr b2,ptr b3] (cyL b b2 b3 n at' R) fun u L'=>u=.int .i64 ((at' % n:Nat):Int)∧L'=cyL b b2 b3 n ((at' % n+1) % n) R:=by
 have h1:=Nat.mod_lt at' hn.1
 have e1:(at':Int) % (n:Int)=((at' % n:Nat):Int):=(Int.natCast_emod at' n).symm
 have e2:(((at' % n:Nat):Int)+1) % (n:Int)=(((at' % n+1) % n:Nat):Int):=by rw[Int.natCast_emod (at' % n+1) n,Int.natCast_add];rfl
 generalize at' % n=i at *
 generalize (i+1) % n=j at *
 obtain ⟨n1,n2⟩:=hn
 refine zGz zk326 Tryz.func326 ?_;intro G;(repeat'(first|refine zA ?_;repeat intro nb|refine zB ?_ ?_<;>intro hc<;>try exact no hc|refine zH ?_ ?_<;>(intro hg;rw[hg];try exact no hg)));all_goals try refine zO fun a w F M=>?_
 all_goals refine zE F M ?_
 rw[e1,e2] at M
 exact⟨_,_,rfl,⟨by rw[e1];rfl,rfl⟩,M.perms permsA⟩
def swGo (rd:List Bool) (pays:Nat):Nat→Nat→List Nat→List Nat × Nat × Nat
 | 0,at',l=>(l,0,at')
 | k+1,at',l =>
  if l.length=pays then (l,0,at')
  else
   let i:=at' % rd.length
   let r:=swGo rd pays k ((i+1) % rd.length) (if (rd.getD i false)=true then l++[i] else l)
   (r.1,r.2.1+1,r.2.2)
theorem sweep_spec (v:Value) (rd:List Bool) (vi py at':Nat) (hg:GS R 1 v rd.length (rd.flatMap boL)) (hl:rd.length≤4096) (ha:at'≤4096) (hv:vi≤4096) (hp:1≤py∧py≤4096):Spec 181 [ptr b,v,.int .i64 vi,.int .i64 py] (cuC b at'::R) fun u L'=>∃ h,u=.tuple [sl h,.int .i64 (swGo rd py (min vi rd.length) at' []).2.1].toArray∧L'=ownT 3 natL 1 (sl h) (swGo rd py (min vi rd.length) at' []).1::cuC b (swGo rd py (min vi rd.length) at' []).2.2::R:=by
 obtain ⟨p1,p2⟩:=hp
 by_cases h0:rd.length=0
 ·rw[h0,Nat.min_zero]
  simp only[swGo]
  rw[h0] at hg
  refine zGo Tryz.func181 ?_;intro G w M a F
  have hG:GS (R++G) 1 v 0 (rd.flatMap boL):=Gives.app hg
  have M:=M.own_nil 3 1
  (try refine zI zk181 F M ?_;clear F M a;try clear w);(repeat'(first|refine zA ?_;repeat intro nb|refine zB ?_ ?_<;>intro hc<;>try exact no hc|refine zH ?_ ?_<;>(intro hg;rw[hg];try exact no hg)));all_goals try refine zO fun a w F M=>?_
  all_goals skip
  all_goals refine zE F M ?_
  exact⟨_,_,rfl,⟨nilH,rfl,rfl⟩,M.perms permsA⟩
 ·obtain ⟨m,hm⟩:∃ m,min vi rd.length=m:=⟨_,rfl⟩
  have hmin:(if (rd.length:Int)<(vi:Int) then (rd.length:Int) else (vi:Int))=((m:Nat):Int):=by split<;>omega
  obtain ⟨n,hn⟩:∃ n,rd.length=n:=⟨_,rfl⟩
  rw[hm]
  have hX:∃ X,swGo rd py m at' []=X∧swGo rd py (m - 0) at' []=(X.1,X.2.1 - 0,X.2.2):=⟨_,rfl,rfl⟩
  obtain ⟨⟨X1,X2,X3⟩,hX1,hX⟩:=hX
  rw[hX1]
  simp only at hX ⊢
  have hXm:0≤X2:=Nat.zero_le _
  have hn1:1≤n:=by omega
  have hn2:n≤4096:=by omega
  have hmn:m≤n:=by omega
  rw[hn] at hmin hg
  have hcy:=fun R=>cycle_spec b R n at'
  clear h0 hm
  refine zGo Tryz.func181 ?_;intro G w M a F
  have hG:GS (R++G) 1 v n (rd.flatMap boL):=Gives.app hg
  have M:=M.own_nil 3 1
  (try refine zI zk181 F M ?_;clear F M a;try clear w);(repeat'(first|refine zA ?_;repeat intro nb|refine zC ?_;refine acK (k:=275) (hcy _) ?_;rintro u L' ⟨b2,b3,rfl,rfl⟩|refine zB ?_ ?_<;>intro hc<;>try exact no hc|refine zH ?_ ?_<;>(intro hg;rw[hg];try exact no hg)));all_goals try refine zO fun a w F M=>?_
  refine svLoop F M ((0,at',nilH,[]):Nat × Nat × SlH × List Nat) (fun s=>[(13,.int .i64 s.1),(12,sl s.2.2.1)]) (fun s=>[ownT 3 natL 1 (sl s.2.2.1) s.2.2.2,cuC b s.2.1]) (fun s=>s.1≤m∧s.2.1≤4096∧s.2.2.2.length≤s.1∧swGo rd py (m - s.1) s.2.1 s.2.2.2=(X1,X2 - s.1,X3)∧s.1≤X2) (fun s=>m - s.1) [14] ⟨Nat.zero_le _,ha,Nat.zero_le _,hX,Nat.zero_le _⟩ ?_ (hR:=by(repeat (first|exact Pulls.nil|(apply Pulls.cons;(focus ((repeat (first|exact Pull.here|apply Pull.there));done))))))
  (rintro⟨k,c,h,l⟩ ⟨q1,q2,q3,q4,q5⟩ a w F M;(try simp only[zc,zn] at F M q1 q2 q3 q4 q5 ⊢))
  by_cases hk:k<m
  ·have hk2:m - k=(m - (k+1))+1:=by omega
   rw[hk2,swGo] at q4
   by_cases hlp:l.length=py
   ·rw[if_pos hlp] at q4
    simp only[Prod.mk.injEq] at q4
    obtain ⟨e1,e2,e3⟩:=q4
    have e4:X2=k:=by omega
    (try refine zI zk181 F M ?_;clear F M a;try clear w);(repeat'(first|refine zV (h:=⟨_,by((apply rt_min2;(exact rfl);(exact rfl);(exact hmin))),?_⟩)|refine zA1 ?_;repeat intro(nb:Nat)|refine zC ?_;refine acK (k:=275) (hcy _) ?_;rintro u L' ⟨b2,b3,rfl,rfl⟩|refine zB ?_ ?_<;>intro hc<;>try exact no hc|refine zH ?_ ?_<;>(intro hg;rw[hg];try exact no hg)));all_goals try refine zO fun a w F M=>?_
    all_goals skip
    all_goals refine zE F M ?_
    subst e1;subst e3;subst e4
    exact⟨_,_,rfl,⟨h,rfl,rfl⟩,M.perms permsA⟩
   ·rw[if_neg hlp] at q4
    simp only[hn] at q4
    have hcc:=fun R=>cycle1_spec b R b2 b3 n c ⟨hn1,hn2⟩ (by omega)
    have hi:=Nat.mod_lt c hn1
    have hj:=Nat.mod_lt (c % n+1) hn1
    generalize c % n=i at *
    generalize (i+1) % n=j at *
    obtain ⟨y,hy⟩:∃ y,rd[i]? = some y:=⟨rd[i]'(by omega),by rw[List.getElem?_eq_getElem (by omega)]⟩
    have hgd:rd.getD i false=y:=by rw[List.getD_eq_getElem?_getD,hy];rfl
    rw[hgd] at q4
    have hlp2:¬((l.length:Int)=(py:Int)):=by omega
    cases y
    ·simp only[Bool.false_eq_true,if_false,Prod.mk.injEq] at q4
     obtain ⟨e1,e2,e3⟩:=q4
     (try refine zI zk181 F M ?_;clear F M a;try clear w);(repeat'(first|refine zV (h:=⟨_,by((apply rt_min2;(exact rfl);(exact rfl);(exact hmin))),?_⟩)|refine zA1 ?_;repeat intro(nb:Nat)|refine zC ?_;(first|refine kp (k:=326) (hcc _) ?_|refine ac_appendH (f:=natL) (xs:=l) (ys:=[i]) rfl rfl inferInstance rfl rfl pullA inferInstance gsA rfl rfl (by simp;omega) ?_;intro nv)|refine zB ?_ ?_<;>intro hc<;>try exact no hc|refine zH ?_ ?_<;>(intro hg;rw[hg];try exact no hg)));all_goals try refine zO fun a w F M=>?_
     refine sv_again F M (k+1,j,h,l) kpA permsA ⟨by simp only;omega,by simp only;omega,by simp only;omega,?_,by simp only;omega⟩ (by simp only;omega)
     exact Prod.ext e1 (Prod.ext (by simp only;omega) e3)
    ·simp only[if_true,Prod.mk.injEq] at q4
     obtain ⟨e1,e2,e3⟩:=q4
     (try refine zI zk181 F M ?_;clear F M a;try clear w);(repeat'(first|refine zV (h:=⟨_,by((apply rt_min2;(exact rfl);(exact rfl);(exact hmin))),?_⟩)|refine zA1 ?_;repeat intro(nb:Nat)|refine zC ?_;(first|refine kp (k:=326) (hcc _) ?_|refine ac_appendH (f:=natL) (xs:=l) (ys:=[i]) rfl rfl inferInstance rfl rfl pullA inferInstance gsA rfl rfl (by simp;omega) ?_;intro nv)|refine zB ?_ ?_<;>intro hc<;>try exact no hc|refine zH ?_ ?_<;>(intro hg;rw[hg];try exact no hg)));all_goals try refine zO fun a w F M=>?_
     refine sv_again F M (k+1,j,nv,l++[i]) kpA permsA ⟨by simp only;omega,by simp only;omega,by simp;omega,?_,by simp only;omega⟩ (by simp only;omega)
     exact Prod.ext e1 (Prod.ext (by simp only;omega) e3)
  ·obtain rfl:k=m:=by omega
   rw[Nat.sub_self] at q4
   simp only[swGo,Prod.mk.injEq] at q4
   obtain ⟨e1,e2,e3⟩:=q4
   have e4:X2=k:=by omega
   (try refine zI zk181 F M ?_;clear F M a;try clear w);(repeat'(first|refine zV (h:=⟨_,by((apply rt_min2;(exact rfl);(exact rfl);(exact hmin))),?_⟩)|refine zA1 ?_;repeat intro(nb:Nat)|refine zC ?_;(first|refine kp (k:=326) (hcc _) ?_|refine ac_appendH (f:=natL) (xs:=l) (ys:=[i]) rfl rfl inferInstance rfl rfl pullA inferInstance gsA rfl rfl (by simp;omega) ?_;intro nv)|refine zB ?_ ?_<;>intro hc<;>try exact no hc|refine zH ?_ ?_<;>(intro hg;rw[hg];try exact no hg)));all_goals try refine zO fun a w F M=>?_
   all_goals skip
   all_goals refine zE F M ?_
   subst e1;subst e3;subst e4
   exact⟨_,_,rfl,⟨h,rfl,rfl⟩,M.perms permsA⟩
end
end
section
open Go.RowKit
theorem VG.of_val {c:Cfg} (hc:CfOk c) {e:Int} (he:0≤e∧e≤1000000001) {V:List Val} (hl:V.length≤4096) (hv:∀ (i:Nat) v,V[i]? = some v→VOk c e v) (hs:(bals V).sum≤1152921504606846976):VG V:=by
 have h5:=hc.un
 have hb0:∀ x∈bals V,0≤x:=fun x hx=>by
  obtain ⟨v,hv',rfl⟩:=List.mem_map.1 hx
  obtain ⟨i,hi,he'⟩:=List.getElem_of_mem hv'
  exact(hv i v (by rw[List.getElem?_eq_getElem hi,he'])).b
 refine⟨hl,fun i v hv'=>?_,hs⟩
 have o:=hv i v hv'
 have k1:=sum_mem_le _ hb0 _ (List.mem_of_getElem? (bals_get hv'))
 have k2:=o.b;have k3:=o.st;have k4:=o.rq;have k5:=o.wd;have k6:=o.dl
 refine⟨⟨k2,by omega⟩,k3,by omega,?_,by omega,by omega⟩
 rcases o.ex with h|h<;>omega
theorem VG.wf {V:List Val} (h:VG V):∀ x∈V,x.wf:=fun x hx=>by
 obtain ⟨i,hi,he⟩:=List.getElem_of_mem hx
 exact(h.ok i x (by rw[List.getElem?_eq_getElem hi,he])).wf
theorem payV_g {v:Val} (h:G1 v):G1 (payV v):=⟨⟨by simp[payV],by simp[payV]⟩,⟨by simp[payV],by simp[payV]⟩,h.rq,h.ex,h.wd,h.dl⟩
theorem VG.pay1 {V:List Val} (h:VG V) {i:Nat} {v:Val} (hv:V[i]? = some v):VG (V.set i (payV v)):=by
 refine⟨by rw[List.length_set];exact h.len,fun j u hu=>?_,?_⟩
 ·rcases getE_set hu with⟨_,rfl⟩|⟨_,hu⟩
  ·exact payV_g (h.ok i v hv)
  ·exact h.ok j u hu
 ·rw[bals_set,sum_set _ i v.bal (payV v).bal (bals_get hv)]
  have:=h.sum;have:=(h.ok i v hv).b
  simp only[payV];omega
theorem VG.pays {V:List Val} (h:VG V) (l:List Nat):VG (Go.Proofs.YtjbfcacmdahnhaaGreat.mods payV V l):=by
 induction l generalizing V with
 | nil=>exact h
 | cons i r ih =>
  rw[mods_cons]
  apply ih
  cases hv:V[i]? with
  | none=>rwa [List.modify_eq_self (List.getElem?_eq_none_iff.1 hv)]
  | some v=>rw[modify_eq_set payV hv];exact h.pay1 hv
def rdy (V:List Val):List Bool:=V.map fun v=>decide (v.st=5)
theorem rdy_get (V:List Val) (i:Nat):((rdy V).getD i false=true)↔(V.getD i Val.zero).st=5:=by
 unfold rdy
 rw[List.getD_eq_getElem?_getD,List.getD_eq_getElem?_getD,List.getElem?_map]
 cases V[i]? with
 | none=>simp[Val.zero]
 | some v=>simp
theorem sw_eq (V:List Val) (py:Nat):∀ (k a:Nat) (l:List Nat),swGo (rdy V) py k a l=sweepGo V py k a l
 | 0,a,l=>rfl
 | k+1,a,l=>by
  have hl:(rdy V).length=V.length:=by simp[rdy]
  have e:=rdy_get V (a % V.length)
  rw[swGo,sweepGo]
  by_cases h:l.length=py
  ·rw[if_pos h,if_pos h]
  ·rw[if_neg h,if_neg h]
   simp only[hl]
   by_cases h2:(rdy V).getD (a % V.length) false=true
   ·rw[if_pos h2,if_pos (e.1 h2),sw_eq V py k]
   ·rw[if_neg h2,if_neg (fun h=>h2 (e.2 h)),sw_eq V py k]
def pmE (V:List Val) (i:Nat):Pm:=⟨i,(V.getD i Val.zero).bal,true⟩
structure PyF (c:Cfg) (s:St) (e:Int) (q:List (Nat × Int)) (U:List Val × List Pm) (vi py k:Nat) (m:List Nat) (at2:Nat):Prop where
 he:0≤e∧e≤1000000001
 hep:(s.bk:Int) / c.epochLen=e
 hb:s.bk≤1000000000
 g0:VG s.V
 pal:s.pa.length≤4096
 hq:s.pa.take c.partials.toNat=q
 hql:(q.length:Int)≤c.partials
 hqr:∀ r∈q,r.1<s.V.length∧U64 r.2
 hU:q.foldl (parU c) (s.V,[])=U
 gU:VG U.1
 lU:U.1.length=s.V.length
 hvi:((vi:Nat):Int)=c.visits - q.length
 hpy:((py:Nat):Int)=c.payments - (fP U.2).length
 py1:1≤py∧py≤4096
 vi1:vi≤4096
 atl:s.at'≤4096
 fpl:(fP U.2).length≤4096
 hsw:swGo (rdy U.1) py (min vi (rdy U.1).length) s.at' []=(m,k,at2)
 hk:k≤4096
 ml:m.length≤4096
 mn:m.Nodup
 m5:∀ i∈m,∃ v,U.1[i]? = some v∧v.st=5∧v.wd≤e
 led:0≤s.dep - s.pd - s.bu
 tot:0≤s.pd∧0≤s.bu∧s.dep≤18446744073709551615
 am0:∀ p∈fP U.2++m.map (pmE U.1),0≤p.am
 ams:s.pd+((fP U.2++m.map (pmE U.1)).map (·.am)).sum≤s.dep - s.bu
 key:payM c s=⟨fP U.2++m.map (pmE U.1),q.length+k,{s with V:=mods payV U.1 m,pa:=s.pa.drop c.partials.toNat,at':=at2,pd:=s.pd+((fP U.2++m.map (pmE U.1)).map (·.am)).sum}⟩
theorem pyF_of {c:Cfg} (hc:CfOk c) {s:St} (h:Inv c s):∃ e q U vi py k m at2,PyF c s e q U vi py k m at2:=by
 have hpa:=hc.pa
 have hvi:=hc.vi
 have hpy:=hc.py
 have hqs:=hc.qs
 have he:=epo_range hc (s:=s) (by have:=h.bk;omega)
 have g0:=VG.of_inv hc h
 obtain ⟨hI,l,hP⟩:=payM_inv hc h
 obtain ⟨q,hq⟩:∃ q,s.pa.take c.partials.toNat=q:=⟨_,rfl⟩
 have hql:q.length≤c.partials.toNat:=by rw[← hq,List.length_take];omega
 have hqr:∀ r∈q,r.1<s.V.length∧1≤r.2∧r.2≤18446744073709551615:=fun r hr=>h.pa r (List.mem_of_mem_take (hq ▸ hr))
 obtain ⟨x,h0,h1,h2,h3,h3b,h4,h5⟩:=Vs.pars hc q (Z:=(s.V,[])) (m:=s.V.length) ⟨rfl,h.val,h.sum,h.pe,h.ex,h.lv,h.bo⟩ fun r hr=>⟨(hqr r hr).1,(hqr r hr).2.1⟩
 obtain ⟨U,hU⟩:∃ U,q.foldl (parU c) (s.V,[])=U:=⟨_,rfl⟩
 have hZ:q.foldl (parV c) (s.V,[])=(U.1,fP U.2):=by
  have:=pars_eq c hc q (s.V,[]) g0.wf fun r hr=>by have:=(hqr r hr).2.1;omega
  rw[hU] at this
  exact this
 rw[hZ] at h1 h2 h3 h3b h4 h5
 rw[hq,hZ] at hP
 simp only[List.length_nil,Nat.zero_add] at h3
 have hs2:=h1.sum
 have hS:=g0.sum
 have gU:VG U.1:=VG.of_val hc he (by rw[h1.len];exact g0.len) h1.val (by simp only at hs2;have:=h.sum;omega)
 obtain ⟨vi,hvi2⟩:∃ vi:Nat,c.visits.toNat - q.length=vi:=⟨_,rfl⟩
 obtain ⟨py,hpy2⟩:∃ py:Nat,c.payments.toNat - (fP U.2).length=py:=⟨_,rfl⟩
 obtain ⟨⟨m,k,at2⟩,hr⟩:∃ r,sweepGo U.1 py (min vi U.1.length) s.at' []=r:=⟨_,rfl⟩
 have hrl:(rdy U.1).length=U.1.length:=by simp[rdy]
 have hsp:=sweepGo_spec U.1 py (min vi U.1.length) s.at' []
 rw[hr] at hsp
 obtain ⟨m',k1,k2,k3,k4,k5,k6⟩:=hsp
 simp only[List.nil_append] at k1
 subst k1
 simp only at k4
 have hmn:m.Nodup:=(mods_nodup _ (Nat.min_le_right _ _)).sublist k2
 have hm5:∀ i∈m,∃ v,U.1[i]? = some v∧v.st=5∧v.wd≤epo c s:=fun i hi=>by
  have:=k3 i hi
  cases hv:U.1[i]? with
  | none=>rw[List.getD_eq_getElem?_getD,hv] at this;simp[Val.zero] at this
  | some v=>rw[getD_some hv] at this;exact⟨v,rfl,this,(h1.val i v hv).w5 this⟩
 have key:payM c s=⟨fP U.2++m.map (pmE U.1),q.length+k,{s with V:=mods payV U.1 m,pa:=s.pa.drop c.partials.toNat,at':=at2,pd:=s.pd+((fP U.2++m.map (pmE U.1)).map (·.am)).sum}⟩:=by
  simp only[payM,hq,hZ,hvi2,hpy2,hr];rfl
 rw[key] at hI
 have hI1:=hI.sum
 have hI2:=hI.bal0
 simp only at hI1 hI2
 have hI3:=sum_nonneg _ hI2
 have hb0:=sum_nonneg _ h.bal0
 have hS0:=h.sum
 have hml:m.length≤py:=by simpa using k5 (by simp)
 have ham:∀ p∈fP U.2++m.map (pmE U.1),0≤p.am:=fun p hp=>by
  rcases List.mem_append.1 hp with hp|hp
  ·have:=h3b (by simp) p hp;omega
  ·obtain ⟨i,hi,rfl⟩:=List.mem_map.1 hp
   obtain ⟨v,hv,_⟩:=hm5 i hi
   have:=(h1.val i v hv).b
   simp only[pmE,getD_some hv];exact this
 have hat:s.at'≤4096:=by have:=g0.len;rcases h.at' with h|h<;>omega
 have hlq:=h.ql
 have htot:=h.tot
 refine⟨epo c s,q,U,vi,py,k,m,at2,?_⟩
 constructor
 ·exact he
 ·rfl
 ·exact h.bk
 ·exact g0
 ·omega
 ·exact hq
 ·omega
 ·exact fun r hr=>⟨(hqr r hr).1,by have:=(hqr r hr).2.1;omega,(hqr r hr).2.2⟩
 ·exact hU
 ·exact gU
 ·exact h1.len
 ·omega
 ·omega
 ·omega
 ·omega
 ·exact hat
 ·omega
 ·rw[hrl,sw_eq,hr]
 ·have:=Nat.min_le_left vi U.1.length;omega
 ·omega
 ·exact hmn
 ·exact hm5
 ·omega
 ·exact htot
 ·exact ham
 ·omega
 ·exact key
end
section
open Go.RowKit
def fill (W:List Bool) (k:Nat):List Bool:=W.take k++List.replicate (W.length - k) false
theorem fill_step {W:List Bool} {k:Nat} {x:Bool} (h:W[k]? = some x):(fill W k)[k]? = some false∧(fill W k).set k x=fill W (k+1):=by
 obtain ⟨hk,_⟩:=List.getElem?_eq_some_iff.1 h
 have hl:(W.take k).length=k:=by rw[List.length_take];omega
 have hr:List.replicate (W.length - k) false=false::List.replicate (W.length - (k+1)) false:=by
  rw[show W.length - k=(W.length - (k+1))+1 by omega,List.replicate_succ]
 unfold fill
 rw[hr]
 refine⟨by rw[List.getElem?_append_right (by omega),hl];simp,?_⟩
 rw[List.set_append,if_neg (by omega),hl,Nat.sub_self,List.set_cons_zero,List.take_add_one,h]
 simp
theorem sum_take_le:∀ (l:List Int) (k:Nat) (x:Int),(∀ y∈l,0≤y)→l[k]? = some x→(l.take k).sum+x≤l.sum∧(l.take (k+1)).sum=(l.take k).sum+x
 | [],k,x,_,h=>by simp at h
 | a::l,0,x,h0,h=>by
  simp at h;subst h
  have:=sum_nonneg l fun y hy=>h0 y (by simp[hy])
  simp;omega
 | a::l,k+1,x,h0,h=>by
  have:=sum_take_le l k x (fun y hy=>h0 y (by simp[hy])) (by simpa using h)
  simp only[List.take_succ_cons,List.sum_cons];omega
section
variable (b:Nat) (H:EH) (c:Cfg) (s:St) (R:List Asn)
variable {e:Int} {q:List (Nat × Int)} {U:List Val × List Pm} {vi py k:Nat} {m:List Nat} {at2:Nat}
theorem pwalk (hc:CfOk c) (f:PyF c s e q U vi py k m at2) :
  Spec 124 [ptr b] (engL b H c s R) fun u L'=>∃ hp,u=.tuple [sl hp,.int .i64 (payM c s).vi].toArray∧L'=ownT 57 pmL 3 (sl hp) (payM c s).pm::engL b H c (payM c s).s R:=by
 rw[f.key]
 simp only
 have hpac:=hc.pa
 have hvic:=hc.vi
 have hpyc:=hc.py
 have hel:=hc.el
 obtain ⟨he,hep,hb,g0,pal,hq,hql,hqr,hU,gU,lU,hvi,hpy,py1,vi1,atl,fpl,hsw,hk4,ml,mn,m5,led,tot,am0,ams,key⟩:=f
 clear key
 have hul:=g0.len
 have hck:=fun R=>clk_epoch H.ck s.bk c.epochLen hel (by omega) R
 rw[hep] at hck
 have hra:=fun R=>reg_all H.rg c.capacity s.V g0.len R
 have htk:=fun R=>take_rgq_spec H.pa (qS c) (q:=s.pa) c.partials hpac.1 pal R
 rw[hq] at htk
 have hps:=fun (h1 h2:SlH) (R:List Asn) hg1 hg2 hq2=>pstep_spec c hc h1 h2 s.V q R hg1 hg2 g0.len hql hq2 g0.wf hqr
 rw[hU] at hps
 have hs4:=g0.sum;have hs5:=gU.sum
 have hst:=fun (h:SlH) (R:List Asn) hg=>store_spec b H c s.V U.1 h R hg lU g0.len g0.st gU.st (by omega) (by omega)
 have hrl:(rdy U.1).length=U.1.length:=by simp[rdy]
 have hwp:=fun (v:Value) (R:List Asn) hg=>sweep_spec H.cu R v (rdy U.1) vi py s.at' hg (by rw[hrl];omega) atl vi1 py1
 rw[hsw,hvi,hpy] at hwp
 obtain ⟨U1,U2⟩:=U
 simp only at *
 obtain ⟨P,hP⟩:∃ P,fP U2=P:=⟨_,rfl⟩
 simp only[hP] at *
 refine zGz zk124 Tryz.func124 ?_;intro G;(repeat'(first|refine zA ?_;repeat intro nb|refine zC ?_;(first|refine acK (k:=44) (hra _) ?_;rintro u L' ⟨h1,rfl,rfl⟩|refine acK (k:=180) (htk _) ?_;rintro u L' ⟨h2,rfl,hq2,rfl⟩|refine acW (k:=179) (hps h1 h2 _ ?_ ?_ hq2) ?_;exact gsA;exact gsA;rintro u L' ⟨h3,h4,rfl,rfl⟩|refine acK (k:=178) (hst h3 _ ?_) ?_;exact gsA;rintro u L' ⟨rfl,rfl⟩|refine ac_makeT (f:=boL) inferInstance false rfl rfl inferInstance rfl (m:=U1.length) rfl rfl (by omega) (by omega) ?_;intro nm)|refine zB ?_ ?_<;>intro hc<;>try exact no hc|refine zH ?_ ?_<;>(intro hg;rw[hg];try exact no hg)));all_goals try refine zO fun a w F M=>?_
 obtain ⟨hh,hhe⟩:∃ hh:SlH,(⟨some ⟨nm,0,none⟩,U1.length,U1.length⟩:SlH)=hh:=⟨_,rfl⟩
 rw[hhe] at M F
 rw[show List.replicate U1.length false=fill (rdy U1) 0 by unfold fill;rw[hrl];rfl] at M
 refine svLoop F M (0:Nat) (fun k=>[(52,.int .i64 k)]) (fun k=>[ownT 4 boL 1 (sl hh) (fill (rdy U1) k)]) (fun k=>k≤U1.length) (fun k=>U1.length - k) [8,9] (Nat.zero_le _) ?_ (hR:=by(repeat (first|exact Pulls.nil|(apply Pulls.cons;(focus ((repeat (first|exact Pull.here|apply Pull.there));done))))))
 (rintro k q1 a w F M;(try simp only[zc,zn] at F M q1 ⊢))
 by_cases hk:k<U1.length
 ·obtain ⟨v,hv⟩:∃ v,U1[k]? = some v:=⟨U1[k],by simp[hk]⟩
  obtain ⟨f1,f2⟩:=fill_step (W:=rdy U1) (k:=k) (x:=decide (v.st=5)) (by simp[rdy,hv])
  have hfl:(fill (rdy U1) k).length=U1.length:=by unfold fill;rw[List.length_append,List.length_take,List.length_replicate,hrl];omega
  obtain ⟨bal,st,slz,rq,ex,wd,dl⟩:=v
  simp only at f2
  (try refine zI zk124 F M ?_;clear F M a;try clear w);(repeat'(first|refine zA ?_;repeat intro nb|refine zC ?_;refine ac_storeE (f:=boL) (v:=sl hh) (j:=k) (k:=1) (i:=0) (xs:=fill (rdy U1) k) rfl rfl inferInstance rfl rfl f1 inferInstance rfl (decide (st=5)) rfl (by(focus ((repeat (first|exact Rep.here|apply Rep.there));done))) ?_|refine zB ?_ ?_<;>intro hc<;>try exact no hc|refine zH ?_ ?_<;>(intro hg;rw[hg];try exact no hg)));all_goals try refine zO fun a w F M=>?_
  rw[f2] at M
  exact sv_again F M (k+1) kpA permsA (by omega) (by omega)
 obtain rfl:k=U1.length:=by omega
 rw[show fill (rdy U1) U1.length=rdy U1 by unfold fill;rw[← hrl,List.take_length,Nat.sub_self];simp] at M
 (try refine zI zk124 F M ?_;clear F M a;try clear w);(repeat'(first|refine zA ?_;repeat intro nb|refine zC ?_;refine acK (k:=181) (hwp _ _ ?_) ?_;exact gsA;rintro u L' ⟨h5,rfl,rfl⟩|refine zB ?_ ?_<;>intro hc<;>try exact no hc|refine zH ?_ ?_<;>(intro hg;rw[hg];try exact no hg)));all_goals try refine zO fun a w F M=>?_
 refine svLoop F M ((0,h4):Nat × SlH) (fun z=>[(90,.int .i64 z.1),(5,sl z.2)]) (fun z=>[regA H.rg c.capacity (mods payV U1 (m.take z.1)),ownT 57 pmL 3 (sl z.2) (P++(m.take z.1).map (pmE U1))]) (fun z=>z.1≤m.length) (fun z=>m.length - z.1) [13,14,15,16] (Nat.zero_le _) ?_ (hR:=by simp only[List.take_zero,mods,List.foldl_nil,List.map_nil,List.append_nil];(repeat (first|exact Pulls.nil|(apply Pulls.cons;(focus ((repeat (first|exact Pull.here|apply Pull.there));done))))))
 (rintro⟨j,hj⟩ q2 a w F M;(try simp only[zc,zn] at F M q2 ⊢))
 by_cases hk:j<m.length
 ·obtain ⟨i,hi⟩:∃ i,m[j]? = some i:=⟨m[j],by simp[hk]⟩
  obtain ⟨v,hv,hs5,hwd⟩:=m5 i (List.mem_of_getElem? hi)
  obtain ⟨k1,k2⟩:=mods_step payV mn hi hv
  have hVk:=gU.pays (m.take j)
  have hgv:=gU.ok i v hv
  have hgs:=payV_g hgv
  have hil:i<U1.length:=(List.getElem?_eq_some_iff.1 hv).1
  have hbv:0≤v.bal:=hgv.b.1
  have hle:v.bal≤(bals (mods payV U1 (m.take j))).sum:=sum_mem_le _ hVk.bal0 _ (List.mem_of_getElem? (bals_get k1))
  have hsm:=hVk.sum
  have hpn:∀ R,Spec 182 [valV v,.int .i64 e] R fun u L'=>u=.tuple [valV (payV v),.int .u64 v.bal,.int .i64 0].toArray∧L'=R:=fun R=>pnPay_spec v e (by omega) R hs5 hwd
  have hch:=fun R=>tchange_spec H.rg c.capacity (mods payV U1 (m.take j)) R i v (payV v) k1 hVk.len ⟨i64_wf hgs.wf.2.1,i64_wf hgv.wf.2.1⟩ hbv (by simp[payV]) ⟨hle,by omega,by simp only[payV];omega⟩
  rw[← k2] at hch
  have hpm:(m.take (j+1)).map (pmE U1)=(m.take j).map (pmE U1)++[⟨i,v.bal,true⟩]:=by
   rw[List.take_add_one,hi,List.map_append]
   simp only[Option.toList_some,List.map_cons,List.map_nil,pmE,getD_some hv]
  have hll:(P++(m.take j).map (pmE U1)).length≤8192:=by rw[List.length_append,List.length_map,List.length_take];omega
  (try refine zI zk124 F M ?_;clear F M a;try clear w);(repeat'(first|refine zA ?_;repeat intro nb|refine zC ?_;(first|refine kp (k:=43) (hck _) ?_|refine kpW (k:=182) (hpn _) ?_|refine kp (k:=133) (hch _) ?_|refine ac_appendH (f:=pmL) (xs:=P++(m.take j).map (pmE U1)) (ys:=[⟨(i:Int),v.bal,true⟩]) rfl rfl inferInstance rfl rfl pullA inferInstance gsA rfl rfl (by simp at hll ⊢;omega) ?_;intro nv)|refine zB ?_ ?_<;>intro hc<;>try exact no hc|refine zH ?_ ?_<;>(intro hg;rw[hg];try exact no hg)));all_goals try refine zO fun a w F M=>?_
  rw[List.append_assoc,← hpm] at M
  exact sv_again F M (j+1,nv) kpA permsA (by simp only;omega) (by simp only;omega)
 obtain rfl:j=m.length:=by omega
 rw[List.take_length] at M
 obtain ⟨Q,hQ⟩:∃ Q,P++m.map (pmE U1)=Q:=⟨_,rfl⟩
 have hQl:Q.length≤8192:=by rw[← hQ,List.length_append,List.length_map];omega
 rw[hQ] at M am0 ams
 (try refine zI zk124 F M ?_;clear F M a;try clear w);(repeat'(first|refine zA ?_;repeat intro nb|refine zB ?_ ?_<;>intro hc<;>try exact no hc|refine zH ?_ ?_<;>(intro hg;rw[hg];try exact no hg)));all_goals try refine zO fun a w F M=>?_
 refine svLoop F M (0:Nat) (fun j=>[(124,.int .i64 j)]) (fun j=>[ldC H.ld s.dep (s.pd+((Q.take j).map (·.am)).sum) s.bu c.supplyCap]) (fun j=>j≤Q.length) (fun j=>Q.length - j) [18] (Nat.zero_le _) ?_ (hR:=by simp only[List.take_zero,List.map_nil,List.sum_nil,Int.add_zero];(repeat (first|exact Pulls.nil|(apply Pulls.cons;(focus ((repeat (first|exact Pull.here|apply Pull.there));done))))))
 (rintro j q3 a w F M;(try simp only[zc,zn] at F M q3 ⊢))
 by_cases hk:j<Q.length
 ·obtain ⟨x,hx⟩:∃ x,Q[j]? = some x:=⟨Q[j],by simp[hk]⟩
  have hx0:=am0 x (List.mem_of_getElem? hx)
  have hst2:=sum_take_le (Q.map (·.am)) j x.am (fun y hy=>by obtain ⟨p,hp,rfl⟩:=List.mem_map.1 hy;exact am0 p hp) (by simp[hx])
  rw[← List.map_take,← List.map_take] at hst2
  have hs0:0≤((Q.take j).map (·.am)).sum:=sum_nonneg _ fun y hy=>by obtain ⟨p,hp,rfl⟩:=List.mem_map.1 hy;exact am0 p (List.mem_of_mem_take hp)
  have hld:=fun R=>led_pay H.ld s.dep (s.pd+((Q.take j).map (·.am)).sum) s.bu c.supplyCap ⟨by omega,by omega,by omega,by omega⟩ R x.am ⟨hx0,by omega⟩
  rw[show s.pd+((Q.take j).map (·.am)).sum+x.am=s.pd+((Q.take (j+1)).map (·.am)).sum by omega] at hld
  obtain ⟨xi,xa,xf⟩:=x
  simp only at hld
  (try refine zI zk124 F M ?_;clear F M a;try clear w);(repeat'(first|refine zA ?_;repeat intro nb|refine zC ?_;refine kp (k:=183) (hld _) ?_|refine zB ?_ ?_<;>intro hc<;>try exact no hc|refine zH ?_ ?_<;>(intro hg;rw[hg];try exact no hg)));all_goals try refine zO fun a w F M=>?_
  exact sv_again F M (j+1) kpA permsA (by omega) (by omega)
 obtain rfl:j=Q.length:=by omega
 rw[List.take_length] at M
 (try refine zI zk124 F M ?_;clear F M a;try clear w);(repeat'(first|refine zA ?_;repeat intro nb|refine zB ?_ ?_<;>intro hc<;>try exact no hc|refine zH ?_ ?_<;>(intro hg;rw[hg];try exact no hg)));all_goals try refine zO fun a w F M=>?_
 subst hQ
 all_goals refine zE F M ?_
 exact⟨_,_,rfl,⟨hj,rfl,rfl⟩,M.perms permsA⟩
theorem pay_spec (hc:CfOk c) (h:Inv c s):Spec 124 [ptr b] (engL b H c s R) fun u L'=>∃ hp,u=.tuple [sl hp,.int .i64 (payM c s).vi].toArray∧L'=ownT 57 pmL 3 (sl hp) (payM c s).pm::engL b H c (payM c s).s R:=by
 obtain ⟨e,q,U,vi,py,k,m,at2,f⟩:=pyF_of hc h
 exact pwalk b H c s R hc f
end
end
section
open Go.RowKit
section
variable (b:Nat) (H:EH) (c:Cfg) (s:St) (hc:CfOk c) (hi:Inv c s) (R:List Asn)
include hc hi
theorem slash_spec (o:Opn):Spec 83 [ptr b,opV o] (engL b H c s R) fun u L'=>u=rsV (opSlash c s o.ix)∧L'=engL b H c (opSlash c s o.ix).s R:=by
 obtain ⟨k1,k2,k3,k4,k5,k6⟩:=inv_sum c s hc hi
 have hl3:s.V.length≤4096:=by omega
 have hsz:qS c≤4096:=k6
 obtain ⟨l1,l2,l3,l4,l5⟩:=hi.ql
 have hbk:=hi.bk
 have hep:=epo_range hc (s:=s) (by omega)
 have hepo:epo c s=(s.bk:Int) / c.epochLen:=rfl
 have hck:=fun R=>clk_epoch H.ck s.bk c.epochLen hc.el (by omega) R
 rw[← hepo] at hck
 obtain ⟨ok,ix,oj,x⟩:=o
 simp only
 by_cases hix:ix<0∨(s.V.length:Int)≤ix
 ·have e:opSlash c s ix=no' s 7:=by
   unfold opSlash
   by_cases h0:ix<0
   ·rw[if_pos h0]
   ·rw[if_neg h0,List.getElem?_eq_none (by omega)]
  rw[e]
  have hg:=fun R=>reg_getN H.rg c.capacity s.V R ix hix
  ((refine zGo Tryz.func83 ?_;intro G w M a F))
  (try refine zI zk83 F M ?_;clear F M a;try clear w);(repeat'(first|refine zA ?_;repeat intro nb|refine zC ?_;(first|refine kp (k:=43) (hck _) ?_|refine kpW (k:=86) (efail_spec _ _) ?_|refine kpW (k:=129) (edone_spec _ _ _) ?_|refine kp (k:=58) (hg _) ?_)|refine zB ?_ ?_<;>intro hc<;>try exact no hc|refine zH ?_ ?_<;>(intro hg;rw[hg];try exact no hg)));all_goals exact zXz
 obtain ⟨i,rfl⟩:∃ i:Nat,ix=i:=⟨ix.toNat,by omega⟩
 obtain ⟨v,hv⟩:∃ v,s.V[i]? = some v:=⟨s.V[i]'(by omega),by rw[List.getElem?_eq_getElem]⟩
 obtain ⟨hwf,hb0,hble,hvo⟩:=vwf c s hc hi hv
 have hg:=fun R=>reg_get H.rg c.capacity s.V R i v hv hl3
 have hwfe:(Lit.int .i64 (epo c s)).wf=true:=WalkArith.wf_i64 (by omega)
 have hsd:=hc.sd;have hun:=hc.un;have hpn:=hc.pn;have hpd:=hc.pd
 have hsl:=fun R=>pnSla_spec v (epo c s) hep.1 hwf.2.1 R c ⟨hb0,by omega⟩ (by omega) (by omega) hpn hpd
 have hX:opSlash c s i=if (slaR v (epo c s) c.slashDelay c.penNum c.penDen).1≠0 then no' s (slaR v (epo c s) c.slashDelay c.penNum c.penDen).1 else if v.st=2∧c.queueSize≤s.fo.length then no' s 6 else
   ⟨0,i,-1,{s with V:=s.V.set i (slaR v (epo c s) c.slashDelay c.penNum c.penDen).2.1,bu:=s.bu+(slaR v (epo c s) c.slashDelay c.penNum c.penDen).2.2,fo:=if v.st=2 then s.fo++[i] else s.fo,bo:=if v.st=5 then s.bo++[((slaR v (epo c s) c.slashDelay c.penNum c.penDen).2.1.wd,i)] else s.bo}⟩:=by
  unfold opSlash
  rw[if_neg (by omega)]
  simp only[Int.toNat_natCast,hv]
 have hrr:=slaR_eq v (pn:=c.penNum) (pd:=c.penDen) hep.1 (show 0≤c.slashDelay by omega) (by omega)
 have hpen:=penF_range hb0 hpn.1 hpn.2 (by omega)
 rw[hX]
 clear hX
 have hwd:=hvo.wd
 have hst7:=hvo.st
 have hbo:=hi.bo.len
 rw[List.length_map] at hbo
 by_cases h1:v.sl=true
 ·rw[if_pos h1] at hrr
  rw[hrr] at hsl ⊢
  simp only[ne_eq,show ¬((9:Int)=0) by decide,not_false_eq_true,if_true] at hsl ⊢
  ((refine zGo Tryz.func83 ?_;intro G w M a F))
  (try refine zI zk83 F M ?_;clear F M a;try clear w);(repeat'(first|refine zA ?_;repeat intro nb|refine zC ?_;(first|refine kp (k:=43) (hck _) ?_|refine kpW (k:=86) (efail_spec _ _) ?_|refine kpW (k:=129) (edone_spec _ _ _) ?_|refine kp (k:=58) (hg _) ?_|refine kpW (k:=131) (hsl _) ?_|refine kp (k:=132) (lfree0 H.ln H.r0 H.r1 (qS c) s.fo s.vo _) ?_)|refine zB ?_ ?_<;>intro hc<;>try exact no hc|refine zH ?_ ?_<;>(intro hg;rw[hg];try exact no hg)));all_goals exact zXz
 rw[if_neg h1] at hrr
 by_cases h2:v.st=2∨v.st=3∨v.st=4∨v.st=5
 ·rw[if_pos h2] at hrr
  rw[hrr] at hsl ⊢
  simp only[ne_eq,not_true_eq_false,if_false] at hsl ⊢
  obtain ⟨P,hP⟩:∃ P,penF v.bal c.penNum c.penDen=P:=⟨_,rfl⟩
  obtain ⟨D,hD⟩:∃ D,max v.wd (epo c s+c.slashDelay)=D:=⟨_,rfl⟩
  rw[hP] at hpen
  have hD1:0≤D∧D≤1099511627776:=by omega
  have hsum:=hi.sum
  obtain ⟨t1,t2,t3⟩:=hi.tot
  have hbu:=fun R=>led_burn H.ld s.dep s.pd s.bu c.supplyCap ⟨t1,t2,by omega,t3⟩ R P ⟨hpen.1,by omega⟩
  have hsS:I64 (slaS v.st):=by unfold slaS;split<;>exact⟨by decide,by decide⟩
  have hch:=fun R=>tchange_spec H.rg c.capacity s.V R i v ⟨v.bal - P,slaS v.st,true,if v.st=2 then epo c s else v.rq,v.ex,D,-1⟩ hv hl3 ⟨hsS,⟨by omega,by omega⟩⟩ hb0 (by simp only;omega) ⟨hble,by omega,by simp only;omega⟩
  simp only[hP,hD] at hsl ⊢
  have hput:=fun R=>bk_put H.bo c.ringLen.toNat s.bo R (D,i) hD1 (by omega)
  simp only at hput
  obtain ⟨bal,st,slz,rq,ex,wd,dl⟩:=v
  simp only at h1 h2 hsl hch hput hpen hst7 ⊢
  rcases h2 with rfl|rfl|rfl|rfl
  ·simp only[if_true,true_and,show ¬((2:Int)=5) by decide,if_false] at hsl hch ⊢
   by_cases hq:c.queueSize≤s.fo.length
   ·rw[if_pos hq]
    have hq':(qS c:Int) - s.fo.length=0:=by omega
    ((refine zGo Tryz.func83 ?_;intro G w M a F))
    (try refine zI zk83 F M ?_;clear F M a;try clear w);(repeat'(first|refine zA ?_;repeat intro nb|refine zC ?_;(first|refine kp (k:=43) (hck _) ?_|refine kpW (k:=86) (efail_spec _ _) ?_|refine kpW (k:=129) (edone_spec _ _ _) ?_|refine kp (k:=58) (hg _) ?_|refine kpW (k:=131) (hsl _) ?_|refine kp (k:=132) (lfree0 H.ln H.r0 H.r1 (qS c) s.fo s.vo _) ?_)|refine zB ?_ ?_<;>intro hc<;>try exact no hc|refine zH ?_ ?_<;>(intro hg;rw[hg];try exact no hg)));all_goals exact zXz
   ·rw[if_neg hq]
    have hq':¬(qS c:Int) - s.fo.length=0:=by omega
    have hqq:s.fo.length<qS c:=by omega
    ((refine zGo Tryz.func83 ?_;intro G w M a F))
    (try refine zI zk83 F M ?_;clear F M a;try clear w);(repeat'(first|refine zA ?_;repeat intro nb|refine zC ?_;(first|refine kp (k:=43) (hck _) ?_|refine kpW (k:=86) (efail_spec _ _) ?_|refine kpW (k:=129) (edone_spec _ _ _) ?_|refine kp (k:=58) (hg _) ?_|refine kpW (k:=131) (hsl _) ?_|refine kp (k:=132) (lfree0 H.ln H.r0 H.r1 (qS c) s.fo s.vo _) ?_|refine kp (k:=133) (hch _) ?_|refine kp (k:=134) (hbu _) ?_|refine kp (k:=135) (lpush0 H.ln H.r0 H.r1 (qS c) s.fo s.vo _ i hqq hsz) ?_)|refine zB ?_ ?_<;>intro hc<;>try exact no hc|refine zH ?_ ?_<;>(intro hg;rw[hg];try exact no hg)));all_goals exact zXz
  ·simp only[show ¬((3:Int)=2) by decide,show ¬((3:Int)=5) by decide,if_false,false_and] at hsl hch ⊢
   ((refine zGo Tryz.func83 ?_;intro G w M a F))
   (try refine zI zk83 F M ?_;clear F M a;try clear w);(repeat'(first|refine zA ?_;repeat intro nb|refine zC ?_;(first|refine kp (k:=43) (hck _) ?_|refine kpW (k:=86) (efail_spec _ _) ?_|refine kpW (k:=129) (edone_spec _ _ _) ?_|refine kp (k:=58) (hg _) ?_|refine kpW (k:=131) (hsl _) ?_|refine kp (k:=132) (lfree0 H.ln H.r0 H.r1 (qS c) s.fo s.vo _) ?_|refine kp (k:=133) (hch _) ?_|refine kp (k:=134) (hbu _) ?_|refine kp (k:=135) (lpush0 H.ln H.r0 H.r1 (qS c) s.fo s.vo _ i hqq hsz) ?_)|refine zB ?_ ?_<;>intro hc<;>try exact no hc|refine zH ?_ ?_<;>(intro hg;rw[hg];try exact no hg)));all_goals exact zXz
  ·simp only[show ¬((4:Int)=2) by decide,show ¬((4:Int)=5) by decide,if_false,false_and] at hsl hch ⊢
   ((refine zGo Tryz.func83 ?_;intro G w M a F))
   (try refine zI zk83 F M ?_;clear F M a;try clear w);(repeat'(first|refine zA ?_;repeat intro nb|refine zC ?_;(first|refine kp (k:=43) (hck _) ?_|refine kpW (k:=86) (efail_spec _ _) ?_|refine kpW (k:=129) (edone_spec _ _ _) ?_|refine kp (k:=58) (hg _) ?_|refine kpW (k:=131) (hsl _) ?_|refine kp (k:=132) (lfree0 H.ln H.r0 H.r1 (qS c) s.fo s.vo _) ?_|refine kp (k:=133) (hch _) ?_|refine kp (k:=134) (hbu _) ?_|refine kp (k:=135) (lpush0 H.ln H.r0 H.r1 (qS c) s.fo s.vo _ i hqq hsz) ?_)|refine zB ?_ ?_<;>intro hc<;>try exact no hc|refine zH ?_ ?_<;>(intro hg;rw[hg];try exact no hg)));all_goals exact zXz
  ·simp only[show ¬((5:Int)=2) by decide,if_true,if_false,false_and] at hsl hch ⊢
   ((refine zGo Tryz.func83 ?_;intro G w M a F))
   (try refine zI zk83 F M ?_;clear F M a;try clear w);(repeat'(first|refine zA ?_;repeat intro nb|refine zC ?_;(first|refine kp (k:=43) (hck _) ?_|refine kpW (k:=86) (efail_spec _ _) ?_|refine kpW (k:=129) (edone_spec _ _ _) ?_|refine kp (k:=58) (hg _) ?_|refine kpW (k:=131) (hsl _) ?_|refine kp (k:=132) (lfree0 H.ln H.r0 H.r1 (qS c) s.fo s.vo _) ?_|refine kp (k:=133) (hch _) ?_|refine kp (k:=134) (hbu _) ?_|refine kp (k:=136) (hput _) ?_)|refine zB ?_ ?_<;>intro hc<;>try exact no hc|refine zH ?_ ?_<;>(intro hg;rw[hg];try exact no hg)));all_goals exact zXz
 ·rw[if_neg h2] at hrr
  rw[hrr] at hsl ⊢
  simp only[ne_eq,show ¬((8:Int)=0) by decide,not_false_eq_true,if_true] at hsl ⊢
  ((refine zGo Tryz.func83 ?_;intro G w M a F))
  (try refine zI zk83 F M ?_;clear F M a;try clear w);(repeat'(first|refine zA ?_;repeat intro nb|refine zC ?_;(first|refine kp (k:=43) (hck _) ?_|refine kpW (k:=86) (efail_spec _ _) ?_|refine kpW (k:=129) (edone_spec _ _ _) ?_|refine kp (k:=58) (hg _) ?_|refine kpW (k:=131) (hsl _) ?_|refine kp (k:=132) (lfree0 H.ln H.r0 H.r1 (qS c) s.fo s.vo _) ?_)|refine zB ?_ ?_<;>intro hc<;>try exact no hc|refine zH ?_ ?_<;>(intro hg;rw[hg];try exact no hg)));all_goals exact zXz
end
end
section
open Go.RowKit Go.Maps
instance apMT:MT 170 3 169:=⟨by kernel_rfl,int_keyed (q:=.i64) (by kernel_rfl)⟩
instance apZV:ZV 169 (.nilFunc):=⟨by kernel_rfl⟩
section
variable {o:Oper} {n:Nat} {l:List (Nat × Value)} {L:List Asn} {C:Value→List Asn→Prop}
theorem ac_insNew {t:TypeId} {x y z:Operand} (ho:o.op=.insert t x y z) {b:Nat} (hx:evl l x=some (.map (some b))) {k v:Value} (hy:evl l y=some k) (hz:evl l z=some v) {K E:TypeId} (ht:MT t K E) {q:Lit} (hk:keyOf Tryz.prog K k=some q) {P:List (Value × Value)} {L2:List Asn} (hp:Rep L (mp b K P) (mp b K ((k,v)::P)) L2) (hno:∀ p∈P,p.1≠k) (h:C undef L2):AC o l L n C:=fun G a w F M=>by
 obtain ⟨L',h1,h2⟩:=hp.both
 obtain ⟨w',e,hm,ht'⟩:=run_mapUpdate_new (v:=v) ht.k ht.h hk (gives_mp (h1.app G) w M) hno
 have:(execOp a.eval o).run Tryz.prog w=.ok .skip w':=by
  unfold execOp
  rw[ho]
  simp[F.eval hx,F.eval hy,F.eval hz,e]
 rw[this]
 refine⟨L2,h,M.rep (hp.app G) fun s hs=>?_⟩
 obtain ⟨rfl,_⟩:=hs.now
 exact⟨ht'.chg,[b],ok_mp (hm.perm (List.Perm.refl _)),fun x hx=>.inl hx⟩
class FT (t:TypeId):Prop where
 k:(match Tryz.prog.underlying t with|some (.func _ _ _)=>true|_=>false)=true
theorem FT.ex {t:TypeId} (h:FT t):∃ a b c,Tryz.prog.underlying t=some (.func a b c):=by
 have:=h.k
 split at this
 ·rename_i a b c e;exact⟨a,b,c,e⟩
 ·cases this
theorem equalIn_fn (d:Nat) {t:TypeId} (h:FT t) (g:Fn) (fs cs:Array Value) (w:World):(Op.equalIn (d+1) t (.func g fs cs) .nilFunc).run Tryz.prog w=.ok false w:=by
 obtain ⟨a1,b1,c1,h⟩:=h.ex
 simp[Op.equalIn,run_underlying h]
theorem equalIn_nn (d:Nat) {t:TypeId} (h:FT t) (w:World):(Op.equalIn (d+1) t .nilFunc .nilFunc).run Tryz.prog w=.ok true w:=by
 obtain ⟨a1,b1,c1,h⟩:=h.ex
 simp[Op.equalIn,run_underlying h]
theorem rt_neF {t ty:TypeId} {x y:Operand} (ho:o.op=.binOp .neq t x y ty) {g:Fn} {fs cs:Array Value} (hx:evl l x=some (.func g fs cs)) (hy:evl l y=some .nilFunc) (ht:FT t):RT o l L n (.bool true):=fun a w F M=>by
 have h2:(Op.equal t (.func g fs cs) .nilFunc).run Tryz.prog w=.ok false w:=equalIn_fn 9999 ht g fs cs w
 have hr:(binOp .neq t (.func g fs cs) .nilFunc).run Tryz.prog w=.ok (.bool true) w:=by
  simp only[binOp]
  simp[h2]
 unfold execOp
 rw[ho]
 simp[F.eval hx,F.eval hy,eqGuard,hr]
theorem rt_neN {t ty:TypeId} {x y:Operand} (ho:o.op=.binOp .neq t x y ty) (hx:evl l x=some .nilFunc) (hy:evl l y=some .nilFunc) (ht:FT t):RT o l L n (.bool false):=fun a w F M=>by
 have h2:(Op.equal t .nilFunc .nilFunc).run Tryz.prog w=.ok true w:=equalIn_nn 9999 ht w
 have hr:(binOp .neq t .nilFunc .nilFunc).run Tryz.prog w=.ok (.bool false) w:=by
  simp only[binOp]
  simp[h2]
 unfold execOp
 rw[ho]
 simp[F.eval hx,F.eval hy,eqGuard,hr]
end
instance apFT:FT 169:=⟨by kernel_rfl⟩
theorem rej_spec (o:Opn) (e bk ep:Int) (R:List Asn):Spec 78 [opV o,.int .i64 e,.int .i64 bk,.int .i64 ep] R fun u L'=>u=rcV ⟨o.k,e,-1,bk,ep,-1,0,[],[]⟩ nilH nilH∧L'=R:=by
 obtain ⟨k,ix,tg,am⟩:=o
 refine zGz zk78 Tryz.func78 ?_;intro G;(repeat'(first|refine zA ?_;repeat intro nb|refine zB ?_ ?_<;>intro hc<;>try exact no hc|refine zH ?_ ?_<;>(intro hg;rw[hg];try exact no hg)));all_goals exact zXz
theorem acp_spec (o:Opn) (ix dl bk ep:Int) (R:List Asn):Spec 87 [opV o,.int .i64 ix,.int .i64 dl,.int .i64 bk,.int .i64 ep] R fun u L'=>u=rcV ⟨o.k,0,ix,bk,ep,dl,0,[],[]⟩ nilH nilH∧L'=R:=Spec.of_reads (accept_reads o ix dl bk ep) rfl ⟨rfl,rfl⟩
theorem Inv.same {c:Cfg} (hc:CfOk c) {s:St} (h:Inv c s) (hb:s.bk<1000000000) (hz:((s.bk+1:Nat):Int) % c.epochLen≠0):Inv c {s with bk:=s.bk+1}:=by
 have he:=epo_same hc hz
 exact⟨h.cap,fun i v hv=>by rw[he];exact h.val i v hv,h.sum,h.sup,h.tot,h.pe,h.ex,h.lv,h.bo,fun y hy=>by rw[he];exact h.bw y hy,h.ql,h.me,h.pa,h.at',h.ca,by simp only;omega⟩
section
variable (b:Nat) (H:EH) (c:Cfg) (s:St) (R:List Asn)
theorem tick_spec (hc:CfOk c) (h:Inv c s) (hb:s.bk<1000000000) (o:Opn) (ho:o.k=7):Spec 79 [ptr b,opV o] (engL b H c s R) fun u L'=>∃ ha hp H',u=rcV (tickM c s).1 ha hp∧L'=ownT 75 asgL 3 (sl ha) (tickM c s).1.asg::ownT 57 pmL 3 (sl hp) (tickM c s).1.pms::engL b H' c (tickM c s).2 R:=by
 have hel:=hc.el
 obtain ⟨k,ix,tg,am⟩:=o
 simp only at ho
 subst ho
 have htk:=fun R=>clk_tick H.ck s.bk c.epochLen hel (by omega) R
 have hac:=fun ep R=>acp_spec ⟨7,ix,tg,am⟩ (-1) (-1) ((s.bk+1:Nat):Int) ep R
 have hcb:=fun (b:Nat) R=>clk_block b (s.bk+1) c.epochLen R
 have hce:=fun (b:Nat) R=>clk_epoch b (s.bk+1) c.epochLen hel (by omega) R
 have hep:epo c {s with bk:=s.bk+1} = ((s.bk+1:Nat):Int) / c.epochLen:=rfl
 rw[← hep] at hce
 by_cases hz:((s.bk+1:Nat):Int) % c.epochLen=0
 ·have h1:=boundM_inv hc h hb hz
  have hbo:=fun R=>boundary_spec b H c s R hc h hb hz
  have hB:(boundM c {s with bk:=s.bk+1}).s.bk=s.bk+1:=rfl
  have hT:tickM c s=(⟨7,0,-1,((s.bk+1:Nat):Int),epo c {s with bk:=s.bk+1},-1,(payM c (boundM c {s with bk:=s.bk+1}).s).vi,(boundM c {s with bk:=s.bk+1}).ag,(payM c (boundM c {s with bk:=s.bk+1}).s).pm⟩,(payM c (boundM c {s with bk:=s.bk+1}).s).s):=by
   unfold tickM;simp only[if_pos hz];rfl
  rw[hT]
  generalize boundM c {s with bk:=s.bk+1} = B at *
  obtain ⟨ag,B⟩:=B
  simp only at *
  have hpy:=fun (H:EH) R=>pay_spec b H c B R hc h1
  have hP:(payM c B).s.bk=s.bk+1:=hB
  generalize payM c B=P at *
  obtain ⟨pm,pv,⟨pk,V',dep',pd',bu',pe',fo',vo',me',pa',at2,ca',lv',bo'⟩⟩:=P
  simp only at hP
  subst hP
  rw[show decide (((s.bk+1:Nat):Int) % c.epochLen=0)=true by simpa using hz] at htk
  refine zGz zk79 Tryz.func79 ?_;intro G;(repeat'(first|refine zA ?_;repeat intro nb|refine zC ?_;(first|refine kp (k:=122) (htk _) ?_|refine acK (L1:=engL b H c {s with bk:=s.bk+1} _) (k:=123) (hbo _) ?_;rintro u L' ⟨ha,H1,rfl,rfl⟩|refine acK (L1:=engL b H1 c B _) (k:=124) (hpy _ _) ?_;rintro u L' ⟨hp,rfl,rfl⟩|refine kp (k:=42) (hcb _ _) ?_|refine kp (k:=43) (hce _ _) ?_|refine kpW (k:=87) (hac _ _) ?_)|refine zB ?_ ?_<;>intro hc<;>try exact no hc|refine zH ?_ ?_<;>(intro hg;rw[hg];try exact no hg)));all_goals try refine zO fun a w F M=>?_
  all_goals refine zE F M ?_
  exact⟨_,_,rfl,⟨ha,hp,H1,rfl,rfl⟩,M.perms permsA⟩
 ·have h1:=Inv.same hc h hb hz
  have hT:tickM c s=(⟨7,0,-1,((s.bk+1:Nat):Int),epo c {s with bk:=s.bk+1},-1,(payM c {s with bk:=s.bk+1}).vi,[],(payM c {s with bk:=s.bk+1}).pm⟩,(payM c {s with bk:=s.bk+1}).s):=by
   unfold tickM;simp only[if_neg hz];rfl
  rw[hT]
  have hpy:=fun (H:EH) R=>pay_spec b H c {s with bk:=s.bk+1} R hc h1
  have hP:(payM c {s with bk:=s.bk+1}).s.bk=s.bk+1:=rfl
  generalize payM c {s with bk:=s.bk+1} = P at *
  obtain ⟨pm,pv,⟨pk,V',dep',pd',bu',pe',fo',vo',me',pa',at2,ca',lv',bo'⟩⟩:=P
  simp only at hP
  subst hP
  rw[show decide (((s.bk+1:Nat):Int) % c.epochLen=0)=false by simpa using hz] at htk
  refine zGo Tryz.func79 ?_;intro G w M a F
  have M:=M.own_nil 75 3
  (try refine zI zk79 F M ?_;clear F M a;try clear w);(repeat'(first|refine zA ?_;repeat intro nb|refine zC ?_;(first|refine kp (k:=122) (htk _) ?_|refine acK (L1:=engL b H c {s with bk:=s.bk+1} _) (k:=124) (hpy _ _) ?_;rintro u L' ⟨hp,rfl,rfl⟩|refine kp (k:=42) (hcb _ _) ?_|refine kp (k:=43) (hce _ _) ?_|refine kpW (k:=87) (hac _ _) ?_)|refine zB ?_ ?_<;>intro hc<;>try exact no hc|refine zH ?_ ?_<;>(intro hg;rw[hg];try exact no hg)));all_goals try refine zO fun a w F M=>?_
  all_goals refine zE F M ?_
  exact⟨_,_,rfl,⟨nilH,hp,H,rfl,rfl⟩,M.perms permsA⟩
variable (hc:CfOk c) (hi:Inv c s)
theorem rs3 (r:Rs):∃ x y z:Int,rsI r=[.int .i64 x,.int .i64 y,.int .i64 z]:=by
 unfold rsI;split
 ·exact⟨_,_,_,rfl⟩
 ·exact⟨_,_,_,rfl⟩
theorem exit_spec (hc:CfOk c) (h:Inv c s) (o:Opn):Spec 81 [ptr b,opV o] (engL b H c s R) fun u L'=>u=rsV (opLeave c s 1 o.ix)∧L'=engL b H c (opLeave c s 1 o.ix).s R:=by
 obtain ⟨k,ix,tg,am⟩:=o
 have hl:∀ R,Spec 130 [ptr b,.int .i64 1,.int .i64 ix] (engL b H c s R) fun u L'=>u=rsV (opLeave c s 1 ix)∧L'=engL b H c (opLeave c s 1 ix).s R:=fun R=>leave_spec b H c s hc h R 1 (by omega) ix
 obtain ⟨x,y,z,hr⟩:=rs3 (opLeave c s 1 ix)
 simp only[rsV,hr] at hl ⊢
 refine zGz zk81 Tryz.func81 ?_;intro G;(repeat'(first|refine zA ?_;repeat intro nb|refine zC ?_;refine acK (L1:=engL b H c s _) (k:=130) (hl _) ?_;rintro u L' ⟨rfl,rfl⟩|refine zB ?_ ?_<;>intro hc<;>try exact no hc|refine zH ?_ ?_<;>(intro hg;rw[hg];try exact no hg)));all_goals exact zXz
theorem eject_spec (hc:CfOk c) (h:Inv c s) (o:Opn):Spec 82 [ptr b,opV o] (engL b H c s R) fun u L'=>u=rsV (opLeave c s 0 o.ix)∧L'=engL b H c (opLeave c s 0 o.ix).s R:=by
 obtain ⟨k,ix,tg,am⟩:=o
 have hl:∀ R,Spec 130 [ptr b,.int .i64 0,.int .i64 ix] (engL b H c s R) fun u L'=>u=rsV (opLeave c s 0 ix)∧L'=engL b H c (opLeave c s 0 ix).s R:=fun R=>leave_spec b H c s hc h R 0 (by omega) ix
 obtain ⟨x,y,z,hr⟩:=rs3 (opLeave c s 0 ix)
 simp only[rsV,hr] at hl ⊢
 refine zGz zk82 Tryz.func82 ?_;intro G;(repeat'(first|refine zA ?_;repeat intro nb|refine zC ?_;refine acK (L1:=engL b H c s _) (k:=130) (hl _) ?_;rintro u L' ⟨rfl,rfl⟩|refine zB ?_ ?_<;>intro hc<;>try exact no hc|refine zH ?_ ?_<;>(intro hg;rw[hg];try exact no hg)));all_goals exact zXz
theorem opM_no (o:Opn) (h:(opM c s o).c≠0):(opM c s o).ix = -1∧(opM c s o).dl = -1:=by
 revert h
 unfold opM opDep opLeave opSlash opMerge opPart no'
 repeat'(first|(intro h;exact⟨rfl,rfl⟩)|(intro h;exact absurd rfl h)|split|dsimp only)
def opP (b:Nat):List (Value × Value):=[(.int .i64 6,.func (.func 85) #[ptr b] #[]),(.int .i64 5,.func (.func 84) #[ptr b] #[]),(.int .i64 4,.func (.func 83) #[ptr b] #[]),(.int .i64 3,.func (.func 82) #[ptr b] #[]),(.int .i64 2,.func (.func 81) #[ptr b] #[]),(.int .i64 1,.func (.func 80) #[ptr b] #[])]
theorem ap_miss (hc:CfOk c) (h:Inv c s) (o:Opn) (ho:I64 o.k) (h1:o.k<1∨7<o.k):Spec 26 [ptr b,opV o] (engL b H c s R) fun u L'=>u=rcV ⟨o.k,11,-1,s.bk,epo c s,-1,0,[],[]⟩ nilH nilH∧L'=engL b H c s R:=by
 have hno:∀ p∈opP b,p.1≠.int .i64 o.k:=by
  intro p hp he
  simp only[opP,List.mem_cons,List.not_mem_nil,or_false] at hp
  rcases hp with rfl|rfl|rfl|rfl|rfl|rfl<;>(simp only[Value.int.injEq] at he;omega)
 have hrj:=fun e bk ep R=>rej_spec o e bk ep R
 have hac:=fun ix dl bk ep R=>acp_spec o ix dl bk ep R
 have hbk:=h.bk
 have hcb:=fun R=>clk_block H.ck s.bk c.epochLen R
 have hce:=fun R=>clk_epoch H.ck s.bk c.epochLen hc.el (by omega) R
 rw[show(s.bk:Int) / c.epochLen=epo c s from rfl] at hce
 obtain ⟨k,ix,tg,am⟩:=o
 simp only at ho h1 hno
 have hne:decide (k=7)=false:=by simp;omega
 refine zGz zk26 Tryz.func26 ?_;intro G;(repeat'(first|refine zV (h:=⟨_,by((first|(refine rt_neN rfl rfl rfl inferInstance)|(apply rt_miss1;(exact rfl);(exact rfl);(exact rfl);(exact inferInstance);(exact gives_mp pullA);(exact intKey ho);(exact hno);(exact inferInstance)))),?_⟩)|refine zA1 ?_;repeat intro(nb:Nat)|refine zC ?_;(first|apply ac_makeMap;exact rfl;exact inferInstance;intro nm|refine ac_insNew rfl rfl rfl rfl inferInstance (intKey (by constructor<;>decide)) (by(focus ((repeat (first|exact Rep.here|apply Rep.there));done))) (by simp) ?_|refine kpW (k:=86) (efail_spec _ _) ?_|refine kp (k:=42) (hcb _) ?_|refine kp (k:=43) (hce _) ?_|refine kpW (k:=78) (hrj _ _ _ _) ?_|refine kpW (k:=87) (hac _ _ _ _ _) ?_)|refine zB ?_ ?_<;>intro hc<;>try exact no hc|refine zH ?_ ?_<;>(intro hg;rw[hg];try exact no hg)));all_goals try refine zO fun a w F M=>?_
 all_goals refine zE F M ?_
 all_goals exact⟨_,_,rfl,⟨rfl,rfl⟩,M.perms permsA⟩
theorem ap_hit (hc:CfOk c) (h:Inv c s) (o:Opn) (ho:I64 o.k) (h1:o.k≠7) (g:FuncId) [hg:FK g] (r:Rs) (hin:(Value.int .i64 o.k,Value.func (.func g) #[ptr b] #[])∈opP b) (hop:∀ R,Spec g [ptr b,opV o] (engL b H c s R) fun u L'=>u=rsV r∧L'=engL b H c r.s R) (hrb:r.s.bk=s.bk) (hr0:r.c≠0→r.ix = -1∧r.dl = -1) :
  Spec 26 [ptr b,opV o] (engL b H c s R) fun u L'=>u=rcV ⟨o.k,r.c,r.ix,s.bk,epo c s,r.dl,0,[],[]⟩ nilH nilH∧L'=engL b H c r.s R:=by
 have hrj:=fun e bk ep R=>rej_spec o e bk ep R
 have hac:=fun ix dl bk ep R=>acp_spec o ix dl bk ep R
 have hbk:=h.bk
 have hcb:=fun R=>clk_block H.ck s.bk c.epochLen R
 have hce:=fun R=>clk_epoch H.ck s.bk c.epochLen hc.el (by omega) R
 rw[show(s.bk:Int) / c.epochLen=epo c s from rfl] at hce
 obtain ⟨k,ix,tg,am⟩:=o
 obtain ⟨rc,rix,rdl,⟨rk,V',dep',pd',bu',pe',fo',vo',me',pa',at2,ca',lv',bo'⟩⟩:=r
 simp only at ho h1 hin hrb hr0
 subst hrb
 have hne:decide (k=7)=false:=by simp;omega
 by_cases hz:rc=0
 ·subst hz
  have e3:rsI ⟨0,rix,rdl,⟨s.bk,V',dep',pd',bu',pe',fo',vo',me',pa',at2,ca',lv',bo'⟩⟩=[.int .i64 0,.int .i64 rix,.int .i64 rdl]:=rfl
  simp only[rsV,e3] at hop
  refine zGz zk26 Tryz.func26 ?_;intro G;(repeat'(first|refine zV (h:=⟨_,by((first|(refine rt_neF rfl rfl rfl inferInstance)|(apply rt_hit1;(exact rfl);(exact rfl);(exact rfl);(exact inferInstance);(exact gives_mp pullA);(exact intKey ho);(exact hin)))),?_⟩)|refine zA1 ?_;repeat intro(nb:Nat)|refine zC ?_;(first|(first|apply ac_makeMap;exact rfl;exact inferInstance;intro nm|refine ac_insNew rfl rfl rfl rfl inferInstance (intKey (by constructor<;>decide)) (by(focus ((repeat (first|exact Rep.here|apply Rep.there));done))) (by simp) ?_|refine kpW (k:=86) (efail_spec _ _) ?_|refine kp (k:=42) (hcb _) ?_|refine kp (k:=43) (hce _) ?_|refine kpW (k:=78) (hrj _ _ _ _) ?_|refine kpW (k:=87) (hac _ _ _ _ _) ?_)|refine acF (k:=g) (L1:=engL b H c s _) (hop _) ?_;rintro u L' ⟨rfl,rfl⟩)|refine zB ?_ ?_<;>intro hc<;>try exact no hc|refine zH ?_ ?_<;>(intro hg;rw[hg];try exact no hg)));all_goals try refine zO fun a w F M=>?_
  all_goals refine zE F M ?_
  all_goals exact⟨_,_,rfl,⟨rfl,rfl⟩,M.perms permsA⟩
 ·have e3:rsI ⟨rc,rix,rdl,⟨s.bk,V',dep',pd',bu',pe',fo',vo',me',pa',at2,ca',lv',bo'⟩⟩=[.int .i64 rc,.int .i64 0,.int .i64 0]:=by unfold rsI;rw[if_neg hz]
  simp only[rsV,e3] at hop
  obtain ⟨rfl,rfl⟩:=hr0 hz
  refine zGz zk26 Tryz.func26 ?_;intro G;(repeat'(first|refine zV (h:=⟨_,by((first|(refine rt_neF rfl rfl rfl inferInstance)|(apply rt_hit1;(exact rfl);(exact rfl);(exact rfl);(exact inferInstance);(exact gives_mp pullA);(exact intKey ho);(exact hin)))),?_⟩)|refine zA1 ?_;repeat intro(nb:Nat)|refine zC ?_;(first|(first|apply ac_makeMap;exact rfl;exact inferInstance;intro nm|refine ac_insNew rfl rfl rfl rfl inferInstance (intKey (by constructor<;>decide)) (by(focus ((repeat (first|exact Rep.here|apply Rep.there));done))) (by simp) ?_|refine kpW (k:=86) (efail_spec _ _) ?_|refine kp (k:=42) (hcb _) ?_|refine kp (k:=43) (hce _) ?_|refine kpW (k:=78) (hrj _ _ _ _) ?_|refine kpW (k:=87) (hac _ _ _ _ _) ?_)|refine acF (k:=g) (L1:=engL b H c s _) (hop _) ?_;rintro u L' ⟨rfl,rfl⟩)|refine zB ?_ ?_<;>intro hc<;>try exact no hc|refine zH ?_ ?_<;>(intro hg;rw[hg];try exact no hg)));all_goals try refine zO fun a w F M=>?_
  all_goals first|(exfalso;rename_i hc;exact hc hz)|(refine zE F M ?_;exact⟨_,_,rfl,⟨rfl,rfl⟩,M.perms permsA⟩)
end
end
end Go.Proofs.YtjbfcacmdahnhaaGreat
