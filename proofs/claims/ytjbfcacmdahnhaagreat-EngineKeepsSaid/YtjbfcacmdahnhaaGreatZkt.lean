import Derived.Test.YtjbfcacmdahnhaaGreatZks
set_option linter.unusedVariables false
set_option linter.unusedSimpArgs false
set_option linter.unusedSectionVars false
set_option maxRecDepth 100000
set_option maxHeartbeats 8000000
namespace Go.Proofs.YtjbfcacmdahnhaaGreat
section
open Go.RowKit
theorem VG.of_val {c:Cfg} (hc:CfOk c) {e:Int} (he:0≤e∧e≤1000000001) {V:List Val} (hl:V.length≤4096) (hv:∀ (i:Nat) v,V[i]? = some v→VOk c e v) (hs:(bals V).sum≤1152921504606846976):VG V:=by
 have h5:=hc.un
 have hb0:∀ x∈bals V,0≤x:=fun x hx=>by
  obtain ⟨v,hv',rfl⟩:=List.mem_map.1 hx
  obtain ⟨i,hi,he'⟩:=List.getElem_of_mem hv'
  exact(hv i v (by rw[List.getElem?_eq_getElem hi,he'])).b
 refine⟨hl,fun i v hv'=>?_,hs⟩
 have o:=hv i v hv'
 have k1:=sum_mem_le _ hb0 _ (List.mem_of_getElem? (bals_get hv'))
 have k2:=o.b;have k3:=o.st;have k4:=o.rq;have k5:=o.wd;have k6:=o.dl
 refine⟨⟨k2,by omega⟩,k3,by omega,?_,by omega,by omega⟩
 rcases o.ex with h|h<;>omega
theorem VG.wf {V:List Val} (h:VG V):∀ x∈V,x.wf:=fun x hx=>by
 obtain ⟨i,hi,he⟩:=List.getElem_of_mem hx
 exact(h.ok i x (by rw[List.getElem?_eq_getElem hi,he])).wf
theorem payV_g {v:Val} (h:G1 v):G1 (payV v):=⟨⟨by simp[payV],by simp[payV]⟩,⟨by simp[payV],by simp[payV]⟩,h.rq,h.ex,h.wd,h.dl⟩
theorem VG.pay1 {V:List Val} (h:VG V) {i:Nat} {v:Val} (hv:V[i]? = some v):VG (V.set i (payV v)):=by
 refine⟨by rw[List.length_set];exact h.len,fun j u hu=>?_,?_⟩
 ·rcases getE_set hu with⟨_,rfl⟩|⟨_,hu⟩
  ·exact payV_g (h.ok i v hv)
  ·exact h.ok j u hu
 ·rw[bals_set,sum_set _ i v.bal (payV v).bal (bals_get hv)]
  have:=h.sum;have:=(h.ok i v hv).b
  simp only[payV];omega
theorem VG.pays {V:List Val} (h:VG V) (l:List Nat):VG (Go.Proofs.YtjbfcacmdahnhaaGreat.mods payV V l):=by
 induction l generalizing V with
 | nil=>exact h
 | cons i r ih =>
  rw[mods_cons]
  apply ih
  cases hv:V[i]? with
  | none=>rwa [List.modify_eq_self (List.getElem?_eq_none_iff.1 hv)]
  | some v=>rw[modify_eq_set payV hv];exact h.pay1 hv
def rdy (V:List Val):List Bool:=V.map fun v=>decide (v.st=5)
theorem rdy_get (V:List Val) (i:Nat):((rdy V).getD i false=true)↔(V.getD i Val.zero).st=5:=by
 unfold rdy
 rw[List.getD_eq_getElem?_getD,List.getD_eq_getElem?_getD,List.getElem?_map]
 cases V[i]? with
 | none=>simp[Val.zero]
 | some v=>simp
theorem sw_eq (V:List Val) (py:Nat):∀ (k a:Nat) (l:List Nat),swGo (rdy V) py k a l=sweepGo V py k a l
 | 0,a,l=>rfl
 | k+1,a,l=>by
  have hl:(rdy V).length=V.length:=by simp[rdy]
  have e:=rdy_get V (a % V.length)
  rw[swGo,sweepGo]
  by_cases h:l.length=py
  ·rw[if_pos h,if_pos h]
  ·rw[if_neg h,if_neg h]
   simp only[hl]
   by_cases h2:(rdy V).getD (a % V.length) false=true
   ·rw[if_pos h2,if_pos (e.1 h2),sw_eq V py k]
   ·rw[if_neg h2,if_neg (fun h=>h2 (e.2 h)),sw_eq V py k]
def pmE (V:List Val) (i:Nat):Pm:=⟨i,(V.getD i Val.zero).bal,true⟩
structure PyF (c:Cfg) (s:St) (e:Int) (q:List (Nat × Int)) (U:List Val × List Pm) (vi py k:Nat) (m:List Nat) (at2:Nat):Prop where
 he:0≤e∧e≤1000000001
 hep:(s.bk:Int) / c.epochLen=e
 hb:s.bk≤1000000000
 g0:VG s.V
 pal:s.pa.length≤4096
 hq:s.pa.take c.partials.toNat=q
 hql:(q.length:Int)≤c.partials
 hqr:∀ r∈q,r.1<s.V.length∧U64 r.2
 hU:q.foldl (parU c) (s.V,[])=U
 gU:VG U.1
 lU:U.1.length=s.V.length
 hvi:((vi:Nat):Int)=c.visits - q.length
 hpy:((py:Nat):Int)=c.payments - (fP U.2).length
 py1:1≤py∧py≤4096
 vi1:vi≤4096
 atl:s.at'≤4096
 fpl:(fP U.2).length≤4096
 hsw:swGo (rdy U.1) py (min vi (rdy U.1).length) s.at' []=(m,k,at2)
 hk:k≤4096
 ml:m.length≤4096
 mn:m.Nodup
 m5:∀ i∈m,∃ v,U.1[i]? = some v∧v.st=5∧v.wd≤e
 led:0≤s.dep - s.pd - s.bu
 tot:0≤s.pd∧0≤s.bu∧s.dep≤18446744073709551615
 am0:∀ p∈fP U.2++m.map (pmE U.1),0≤p.am
 ams:s.pd+((fP U.2++m.map (pmE U.1)).map (·.am)).sum≤s.dep - s.bu
 key:payM c s=⟨fP U.2++m.map (pmE U.1),q.length+k,{s with V:=mods payV U.1 m,pa:=s.pa.drop c.partials.toNat,at':=at2,pd:=s.pd+((fP U.2++m.map (pmE U.1)).map (·.am)).sum}⟩
theorem pyF_of {c:Cfg} (hc:CfOk c) {s:St} (h:Inv c s):∃ e q U vi py k m at2,PyF c s e q U vi py k m at2:=by
 have hpa:=hc.pa
 have hvi:=hc.vi
 have hpy:=hc.py
 have hqs:=hc.qs
 have he:=epo_range hc (s:=s) (by have:=h.bk;omega)
 have g0:=VG.of_inv hc h
 obtain ⟨hI,l,hP⟩:=payM_inv hc h
 obtain ⟨q,hq⟩:∃ q,s.pa.take c.partials.toNat=q:=⟨_,rfl⟩
 have hql:q.length≤c.partials.toNat:=by rw[← hq,List.length_take];omega
 have hqr:∀ r∈q,r.1<s.V.length∧1≤r.2∧r.2≤18446744073709551615:=fun r hr=>h.pa r (List.mem_of_mem_take (hq ▸ hr))
 obtain ⟨x,h0,h1,h2,h3,h3b,h4,h5⟩:=Vs.pars hc q (Z:=(s.V,[])) (m:=s.V.length) ⟨rfl,h.val,h.sum,h.pe,h.ex,h.lv,h.bo⟩ fun r hr=>⟨(hqr r hr).1,(hqr r hr).2.1⟩
 obtain ⟨U,hU⟩:∃ U,q.foldl (parU c) (s.V,[])=U:=⟨_,rfl⟩
 have hZ:q.foldl (parV c) (s.V,[])=(U.1,fP U.2):=by
  have:=pars_eq c hc q (s.V,[]) g0.wf fun r hr=>by have:=(hqr r hr).2.1;omega
  rw[hU] at this
  exact this
 rw[hZ] at h1 h2 h3 h3b h4 h5
 rw[hq,hZ] at hP
 simp only[List.length_nil,Nat.zero_add] at h3
 have hs2:=h1.sum
 have hS:=g0.sum
 have gU:VG U.1:=VG.of_val hc he (by rw[h1.len];exact g0.len) h1.val (by simp only at hs2;have:=h.sum;omega)
 obtain ⟨vi,hvi2⟩:∃ vi:Nat,c.visits.toNat - q.length=vi:=⟨_,rfl⟩
 obtain ⟨py,hpy2⟩:∃ py:Nat,c.payments.toNat - (fP U.2).length=py:=⟨_,rfl⟩
 obtain ⟨⟨m,k,at2⟩,hr⟩:∃ r,sweepGo U.1 py (min vi U.1.length) s.at' []=r:=⟨_,rfl⟩
 have hrl:(rdy U.1).length=U.1.length:=by simp[rdy]
 have hsp:=sweepGo_spec U.1 py (min vi U.1.length) s.at' []
 rw[hr] at hsp
 obtain ⟨m',k1,k2,k3,k4,k5,k6⟩:=hsp
 simp only[List.nil_append] at k1
 subst k1
 simp only at k4
 have hmn:m.Nodup:=(mods_nodup _ (Nat.min_le_right _ _)).sublist k2
 have hm5:∀ i∈m,∃ v,U.1[i]? = some v∧v.st=5∧v.wd≤epo c s:=fun i hi=>by
  have:=k3 i hi
  cases hv:U.1[i]? with
  | none=>rw[List.getD_eq_getElem?_getD,hv] at this;simp[Val.zero] at this
  | some v=>rw[getD_some hv] at this;exact⟨v,rfl,this,(h1.val i v hv).w5 this⟩
 have key:payM c s=⟨fP U.2++m.map (pmE U.1),q.length+k,{s with V:=mods payV U.1 m,pa:=s.pa.drop c.partials.toNat,at':=at2,pd:=s.pd+((fP U.2++m.map (pmE U.1)).map (·.am)).sum}⟩:=by
  simp only[payM,hq,hZ,hvi2,hpy2,hr];rfl
 rw[key] at hI
 have hI1:=hI.sum
 have hI2:=hI.bal0
 simp only at hI1 hI2
 have hI3:=sum_nonneg _ hI2
 have hb0:=sum_nonneg _ h.bal0
 have hS0:=h.sum
 have hml:m.length≤py:=by simpa using k5 (by simp)
 have ham:∀ p∈fP U.2++m.map (pmE U.1),0≤p.am:=fun p hp=>by
  rcases List.mem_append.1 hp with hp|hp
  ·have:=h3b (by simp) p hp;omega
  ·obtain ⟨i,hi,rfl⟩:=List.mem_map.1 hp
   obtain ⟨v,hv,_⟩:=hm5 i hi
   have:=(h1.val i v hv).b
   simp only[pmE,getD_some hv];exact this
 have hat:s.at'≤4096:=by have:=g0.len;rcases h.at' with h|h<;>omega
 have hlq:=h.ql
 have htot:=h.tot
 refine⟨epo c s,q,U,vi,py,k,m,at2,?_⟩
 constructor
 ·exact he
 ·rfl
 ·exact h.bk
 ·exact g0
 ·omega
 ·exact hq
 ·omega
 ·exact fun r hr=>⟨(hqr r hr).1,by have:=(hqr r hr).2.1;omega,(hqr r hr).2.2⟩
 ·exact hU
 ·exact gU
 ·exact h1.len
 ·omega
 ·omega
 ·omega
 ·omega
 ·exact hat
 ·omega
 ·rw[hrl,sw_eq,hr]
 ·have:=Nat.min_le_left vi U.1.length;omega
 ·omega
 ·exact hmn
 ·exact hm5
 ·omega
 ·exact htot
 ·exact ham
 ·omega
 ·exact key
end
section
open Go.RowKit
def fill (W:List Bool) (k:Nat):List Bool:=W.take k++List.replicate (W.length - k) false
theorem fill_step {W:List Bool} {k:Nat} {x:Bool} (h:W[k]? = some x):(fill W k)[k]? = some false∧(fill W k).set k x=fill W (k+1):=by
 obtain ⟨hk,_⟩:=List.getElem?_eq_some_iff.1 h
 have hl:(W.take k).length=k:=by rw[List.length_take];omega
 have hr:List.replicate (W.length - k) false=false::List.replicate (W.length - (k+1)) false:=by
  rw[show W.length - k=(W.length - (k+1))+1 by omega,List.replicate_succ]
 unfold fill
 rw[hr]
 refine⟨by rw[List.getElem?_append_right (by omega),hl];simp,?_⟩
 rw[List.set_append,if_neg (by omega),hl,Nat.sub_self,List.set_cons_zero,List.take_add_one,h]
 simp
theorem sum_take_le:∀ (l:List Int) (k:Nat) (x:Int),(∀ y∈l,0≤y)→l[k]? = some x→(l.take k).sum+x≤l.sum∧(l.take (k+1)).sum=(l.take k).sum+x
 | [],k,x,_,h=>by simp at h
 | a::l,0,x,h0,h=>by
  simp at h;subst h
  have:=sum_nonneg l fun y hy=>h0 y (by simp[hy])
  simp;omega
 | a::l,k+1,x,h0,h=>by
  have:=sum_take_le l k x (fun y hy=>h0 y (by simp[hy])) (by simpa using h)
  simp only[List.take_succ_cons,List.sum_cons];omega
section
variable (b:Nat) (H:EH) (c:Cfg) (s:St) (R:List Asn)
variable {e:Int} {q:List (Nat × Int)} {U:List Val × List Pm} {vi py k:Nat} {m:List Nat} {at2:Nat}
theorem pwalk (hc:CfOk c) (f:PyF c s e q U vi py k m at2) :
  Spec 124 [ptr b] (engL b H c s R) fun u L'=>∃ hp,u=.tuple [sl hp,.int .i64 (payM c s).vi].toArray∧L'=ownT 57 pmL 3 (sl hp) (payM c s).pm::engL b H c (payM c s).s R:=by
 rw[f.key]
 simp only
 have hpac:=hc.pa
 have hvic:=hc.vi
 have hpyc:=hc.py
 have hel:=hc.el
 obtain ⟨he,hep,hb,g0,pal,hq,hql,hqr,hU,gU,lU,hvi,hpy,py1,vi1,atl,fpl,hsw,hk4,ml,mn,m5,led,tot,am0,ams,key⟩:=f
 clear key
 have hul:=g0.len
 have hck:=fun R=>clk_epoch H.ck s.bk c.epochLen hel (by omega) R
 rw[hep] at hck
 have hra:=fun R=>reg_all H.rg c.capacity s.V g0.len R
 have htk:=fun R=>take_rgq_spec H.pa (qS c) (q:=s.pa) c.partials hpac.1 pal R
 rw[hq] at htk
 have hps:=fun (h1 h2:SlH) (R:List Asn) hg1 hg2 hq2=>pstep_spec c hc h1 h2 s.V q R hg1 hg2 g0.len hql hq2 g0.wf hqr
 rw[hU] at hps
 have hs4:=g0.sum;have hs5:=gU.sum
 have hst:=fun (h:SlH) (R:List Asn) hg=>store_spec b H c s.V U.1 h R hg lU g0.len g0.st gU.st (by omega) (by omega)
 have hrl:(rdy U.1).length=U.1.length:=by simp[rdy]
 have hwp:=fun (v:Value) (R:List Asn) hg=>sweep_spec H.cu R v (rdy U.1) vi py s.at' hg (by rw[hrl];omega) atl vi1 py1
 rw[hsw,hvi,hpy] at hwp
 obtain ⟨U1,U2⟩:=U
 simp only at *
 obtain ⟨P,hP⟩:∃ P,fP U2=P:=⟨_,rfl⟩
 simp only[hP] at *
 refine zGz zk124 Tryz.func124 ?_;intro G;(repeat'(first|refine zA ?_;repeat intro nb|refine zC ?_;(first|refine acK (k:=44) (hra _) ?_;rintro u L' ⟨h1,rfl,rfl⟩|refine acK (k:=180) (htk _) ?_;rintro u L' ⟨h2,rfl,hq2,rfl⟩|refine acW (k:=179) (hps h1 h2 _ ?_ ?_ hq2) ?_;exact gsA;exact gsA;rintro u L' ⟨h3,h4,rfl,rfl⟩|refine acK (k:=178) (hst h3 _ ?_) ?_;exact gsA;rintro u L' ⟨rfl,rfl⟩|refine ac_makeT (f:=boL) inferInstance false rfl rfl inferInstance rfl (m:=U1.length) rfl rfl (by omega) (by omega) ?_;intro nm)|refine zB ?_ ?_<;>intro hc<;>try exact no hc|refine zH ?_ ?_<;>(intro hg;rw[hg];try exact no hg)));all_goals try refine zO fun a w F M=>?_
 obtain ⟨hh,hhe⟩:∃ hh:SlH,(⟨some ⟨nm,0,none⟩,U1.length,U1.length⟩:SlH)=hh:=⟨_,rfl⟩
 rw[hhe] at M F
 rw[show List.replicate U1.length false=fill (rdy U1) 0 by unfold fill;rw[hrl];rfl] at M
 refine svLoop F M (0:Nat) (fun k=>[(52,.int .i64 k)]) (fun k=>[ownT 4 boL 1 (sl hh) (fill (rdy U1) k)]) (fun k=>k≤U1.length) (fun k=>U1.length - k) [8,9] (Nat.zero_le _) ?_ (hR:=by(repeat (first|exact Pulls.nil|(apply Pulls.cons;(focus ((repeat (first|exact Pull.here|apply Pull.there));done))))))
 (rintro k q1 a w F M;(try simp only[zc,zn] at F M q1 ⊢))
 by_cases hk:k<U1.length
 ·obtain ⟨v,hv⟩:∃ v,U1[k]? = some v:=⟨U1[k],by simp[hk]⟩
  obtain ⟨f1,f2⟩:=fill_step (W:=rdy U1) (k:=k) (x:=decide (v.st=5)) (by simp[rdy,hv])
  have hfl:(fill (rdy U1) k).length=U1.length:=by unfold fill;rw[List.length_append,List.length_take,List.length_replicate,hrl];omega
  obtain ⟨bal,st,slz,rq,ex,wd,dl⟩:=v
  simp only at f2
  (try refine zI zk124 F M ?_;clear F M a;try clear w);(repeat'(first|refine zA ?_;repeat intro nb|refine zC ?_;refine ac_storeE (f:=boL) (v:=sl hh) (j:=k) (k:=1) (i:=0) (xs:=fill (rdy U1) k) rfl rfl inferInstance rfl rfl f1 inferInstance rfl (decide (st=5)) rfl (by(focus ((repeat (first|exact Rep.here|apply Rep.there));done))) ?_|refine zB ?_ ?_<;>intro hc<;>try exact no hc|refine zH ?_ ?_<;>(intro hg;rw[hg];try exact no hg)));all_goals try refine zO fun a w F M=>?_
  rw[f2] at M
  exact sv_again F M (k+1) kpA permsA (by omega) (by omega)
 obtain rfl:k=U1.length:=by omega
 rw[show fill (rdy U1) U1.length=rdy U1 by unfold fill;rw[← hrl,List.take_length,Nat.sub_self];simp] at M
 (try refine zI zk124 F M ?_;clear F M a;try clear w);(repeat'(first|refine zA ?_;repeat intro nb|refine zC ?_;refine acK (k:=181) (hwp _ _ ?_) ?_;exact gsA;rintro u L' ⟨h5,rfl,rfl⟩|refine zB ?_ ?_<;>intro hc<;>try exact no hc|refine zH ?_ ?_<;>(intro hg;rw[hg];try exact no hg)));all_goals try refine zO fun a w F M=>?_
 refine svLoop F M ((0,h4):Nat × SlH) (fun z=>[(90,.int .i64 z.1),(5,sl z.2)]) (fun z=>[regA H.rg c.capacity (mods payV U1 (m.take z.1)),ownT 57 pmL 3 (sl z.2) (P++(m.take z.1).map (pmE U1))]) (fun z=>z.1≤m.length) (fun z=>m.length - z.1) [13,14,15,16] (Nat.zero_le _) ?_ (hR:=by simp only[List.take_zero,mods,List.foldl_nil,List.map_nil,List.append_nil];(repeat (first|exact Pulls.nil|(apply Pulls.cons;(focus ((repeat (first|exact Pull.here|apply Pull.there));done))))))
 (rintro⟨j,hj⟩ q2 a w F M;(try simp only[zc,zn] at F M q2 ⊢))
 by_cases hk:j<m.length
 ·obtain ⟨i,hi⟩:∃ i,m[j]? = some i:=⟨m[j],by simp[hk]⟩
  obtain ⟨v,hv,hs5,hwd⟩:=m5 i (List.mem_of_getElem? hi)
  obtain ⟨k1,k2⟩:=mods_step payV mn hi hv
  have hVk:=gU.pays (m.take j)
  have hgv:=gU.ok i v hv
  have hgs:=payV_g hgv
  have hil:i<U1.length:=(List.getElem?_eq_some_iff.1 hv).1
  have hbv:0≤v.bal:=hgv.b.1
  have hle:v.bal≤(bals (mods payV U1 (m.take j))).sum:=sum_mem_le _ hVk.bal0 _ (List.mem_of_getElem? (bals_get k1))
  have hsm:=hVk.sum
  have hpn:∀ R,Spec 182 [valV v,.int .i64 e] R fun u L'=>u=.tuple [valV (payV v),.int .u64 v.bal,.int .i64 0].toArray∧L'=R:=fun R=>pnPay_spec v e (by omega) R hs5 hwd
  have hch:=fun R=>tchange_spec H.rg c.capacity (mods payV U1 (m.take j)) R i v (payV v) k1 hVk.len ⟨i64_wf hgs.wf.2.1,i64_wf hgv.wf.2.1⟩ hbv (by simp[payV]) ⟨hle,by omega,by simp only[payV];omega⟩
  rw[← k2] at hch
  have hpm:(m.take (j+1)).map (pmE U1)=(m.take j).map (pmE U1)++[⟨i,v.bal,true⟩]:=by
   rw[List.take_add_one,hi,List.map_append]
   simp only[Option.toList_some,List.map_cons,List.map_nil,pmE,getD_some hv]
  have hll:(P++(m.take j).map (pmE U1)).length≤8192:=by rw[List.length_append,List.length_map,List.length_take];omega
  (try refine zI zk124 F M ?_;clear F M a;try clear w);(repeat'(first|refine zA ?_;repeat intro nb|refine zC ?_;(first|refine kp (k:=43) (hck _) ?_|refine kpW (k:=182) (hpn _) ?_|refine kp (k:=133) (hch _) ?_|refine ac_appendH (f:=pmL) (xs:=P++(m.take j).map (pmE U1)) (ys:=[⟨(i:Int),v.bal,true⟩]) rfl rfl inferInstance rfl rfl pullA inferInstance gsA rfl rfl (by simp at hll ⊢;omega) ?_;intro nv)|refine zB ?_ ?_<;>intro hc<;>try exact no hc|refine zH ?_ ?_<;>(intro hg;rw[hg];try exact no hg)));all_goals try refine zO fun a w F M=>?_
  rw[List.append_assoc,← hpm] at M
  exact sv_again F M (j+1,nv) kpA permsA (by simp only;omega) (by simp only;omega)
 obtain rfl:j=m.length:=by omega
 rw[List.take_length] at M
 obtain ⟨Q,hQ⟩:∃ Q,P++m.map (pmE U1)=Q:=⟨_,rfl⟩
 have hQl:Q.length≤8192:=by rw[← hQ,List.length_append,List.length_map];omega
 rw[hQ] at M am0 ams
 (try refine zI zk124 F M ?_;clear F M a;try clear w);(repeat'(first|refine zA ?_;repeat intro nb|refine zB ?_ ?_<;>intro hc<;>try exact no hc|refine zH ?_ ?_<;>(intro hg;rw[hg];try exact no hg)));all_goals try refine zO fun a w F M=>?_
 refine svLoop F M (0:Nat) (fun j=>[(124,.int .i64 j)]) (fun j=>[ldC H.ld s.dep (s.pd+((Q.take j).map (·.am)).sum) s.bu c.supplyCap]) (fun j=>j≤Q.length) (fun j=>Q.length - j) [18] (Nat.zero_le _) ?_ (hR:=by simp only[List.take_zero,List.map_nil,List.sum_nil,Int.add_zero];(repeat (first|exact Pulls.nil|(apply Pulls.cons;(focus ((repeat (first|exact Pull.here|apply Pull.there));done))))))
 (rintro j q3 a w F M;(try simp only[zc,zn] at F M q3 ⊢))
 by_cases hk:j<Q.length
 ·obtain ⟨x,hx⟩:∃ x,Q[j]? = some x:=⟨Q[j],by simp[hk]⟩
  have hx0:=am0 x (List.mem_of_getElem? hx)
  have hst2:=sum_take_le (Q.map (·.am)) j x.am (fun y hy=>by obtain ⟨p,hp,rfl⟩:=List.mem_map.1 hy;exact am0 p hp) (by simp[hx])
  rw[← List.map_take,← List.map_take] at hst2
  have hs0:0≤((Q.take j).map (·.am)).sum:=sum_nonneg _ fun y hy=>by obtain ⟨p,hp,rfl⟩:=List.mem_map.1 hy;exact am0 p (List.mem_of_mem_take hp)
  have hld:=fun R=>led_pay H.ld s.dep (s.pd+((Q.take j).map (·.am)).sum) s.bu c.supplyCap ⟨by omega,by omega,by omega,by omega⟩ R x.am ⟨hx0,by omega⟩
  rw[show s.pd+((Q.take j).map (·.am)).sum+x.am=s.pd+((Q.take (j+1)).map (·.am)).sum by omega] at hld
  obtain ⟨xi,xa,xf⟩:=x
  simp only at hld
  (try refine zI zk124 F M ?_;clear F M a;try clear w);(repeat'(first|refine zA ?_;repeat intro nb|refine zC ?_;refine kp (k:=183) (hld _) ?_|refine zB ?_ ?_<;>intro hc<;>try exact no hc|refine zH ?_ ?_<;>(intro hg;rw[hg];try exact no hg)));all_goals try refine zO fun a w F M=>?_
  exact sv_again F M (j+1) kpA permsA (by omega) (by omega)
 obtain rfl:j=Q.length:=by omega
 rw[List.take_length] at M
 (try refine zI zk124 F M ?_;clear F M a;try clear w);(repeat'(first|refine zA ?_;repeat intro nb|refine zB ?_ ?_<;>intro hc<;>try exact no hc|refine zH ?_ ?_<;>(intro hg;rw[hg];try exact no hg)));all_goals try refine zO fun a w F M=>?_
 subst hQ
 all_goals refine zE F M ?_
 exact⟨_,_,rfl,⟨hj,rfl,rfl⟩,M.perms permsA⟩
theorem pay_spec (hc:CfOk c) (h:Inv c s):Spec 124 [ptr b] (engL b H c s R) fun u L'=>∃ hp,u=.tuple [sl hp,.int .i64 (payM c s).vi].toArray∧L'=ownT 57 pmL 3 (sl hp) (payM c s).pm::engL b H c (payM c s).s R:=by
 obtain ⟨e,q,U,vi,py,k,m,at2,f⟩:=pyF_of hc h
 exact pwalk b H c s R hc f
end
end
section
open Go.RowKit Go.Maps
instance apMT:MT 170 3 169:=⟨by kernel_rfl,int_keyed (q:=.i64) (by kernel_rfl)⟩
instance apZV:ZV 169 (.nilFunc):=⟨by kernel_rfl⟩
section
variable {o:Oper} {n:Nat} {l:List (Nat × Value)} {L:List Asn} {C:Value→List Asn→Prop}
theorem ac_insNew {t:TypeId} {x y z:Operand} (ho:o.op=.insert t x y z) {b:Nat} (hx:evl l x=some (.map (some b))) {k v:Value} (hy:evl l y=some k) (hz:evl l z=some v) {K E:TypeId} (ht:MT t K E) {q:Lit} (hk:keyOf Tryz.prog K k=some q) {P:List (Value × Value)} {L2:List Asn} (hp:Rep L (mp b K P) (mp b K ((k,v)::P)) L2) (hno:∀ p∈P,p.1≠k) (h:C undef L2):AC o l L n C:=fun G a w F M=>by
 obtain ⟨L',h1,h2⟩:=hp.both
 obtain ⟨w',e,hm,ht'⟩:=run_mapUpdate_new (v:=v) ht.k ht.h hk (gives_mp (h1.app G) w M) hno
 have:(execOp a.eval o).run Tryz.prog w=.ok .skip w':=by
  unfold execOp
  rw[ho]
  simp[F.eval hx,F.eval hy,F.eval hz,e]
 rw[this]
 refine⟨L2,h,M.rep (hp.app G) fun s hs=>?_⟩
 obtain ⟨rfl,_⟩:=hs.now
 exact⟨ht'.chg,[b],ok_mp (hm.perm (List.Perm.refl _)),fun x hx=>.inl hx⟩
class FT (t:TypeId):Prop where
 k:(match Tryz.prog.underlying t with|some (.func _ _ _)=>true|_=>false)=true
theorem FT.ex {t:TypeId} (h:FT t):∃ a b c,Tryz.prog.underlying t=some (.func a b c):=by
 have:=h.k
 split at this
 ·rename_i a b c e;exact⟨a,b,c,e⟩
 ·cases this
theorem equalIn_fn (d:Nat) {t:TypeId} (h:FT t) (g:Fn) (fs cs:Array Value) (w:World):(Op.equalIn (d+1) t (.func g fs cs) .nilFunc).run Tryz.prog w=.ok false w:=by
 obtain ⟨a1,b1,c1,h⟩:=h.ex
 simp[Op.equalIn,run_underlying h]
theorem equalIn_nn (d:Nat) {t:TypeId} (h:FT t) (w:World):(Op.equalIn (d+1) t .nilFunc .nilFunc).run Tryz.prog w=.ok true w:=by
 obtain ⟨a1,b1,c1,h⟩:=h.ex
 simp[Op.equalIn,run_underlying h]
theorem rt_neF {t ty:TypeId} {x y:Operand} (ho:o.op=.binOp .neq t x y ty) {g:Fn} {fs cs:Array Value} (hx:evl l x=some (.func g fs cs)) (hy:evl l y=some .nilFunc) (ht:FT t):RT o l L n (.bool true):=fun a w F M=>by
 have h2:(Op.equal t (.func g fs cs) .nilFunc).run Tryz.prog w=.ok false w:=equalIn_fn 9999 ht g fs cs w
 have hr:(binOp .neq t (.func g fs cs) .nilFunc).run Tryz.prog w=.ok (.bool true) w:=by
  simp only[binOp]
  simp[h2]
 unfold execOp
 rw[ho]
 simp[F.eval hx,F.eval hy,eqGuard,hr]
theorem rt_neN {t ty:TypeId} {x y:Operand} (ho:o.op=.binOp .neq t x y ty) (hx:evl l x=some .nilFunc) (hy:evl l y=some .nilFunc) (ht:FT t):RT o l L n (.bool false):=fun a w F M=>by
 have h2:(Op.equal t .nilFunc .nilFunc).run Tryz.prog w=.ok true w:=equalIn_nn 9999 ht w
 have hr:(binOp .neq t .nilFunc .nilFunc).run Tryz.prog w=.ok (.bool false) w:=by
  simp only[binOp]
  simp[h2]
 unfold execOp
 rw[ho]
 simp[F.eval hx,F.eval hy,eqGuard,hr]
end
instance apFT:FT 169:=⟨by kernel_rfl⟩
theorem rej_spec (o:Opn) (e bk ep:Int) (R:List Asn):Spec 78 [opV o,.int .i64 e,.int .i64 bk,.int .i64 ep] R fun u L'=>u=rcV ⟨o.k,e,-1,bk,ep,-1,0,[],[]⟩ nilH nilH∧L'=R:=by
 obtain ⟨k,ix,tg,am⟩:=o
 refine zGz zk78 Tryz.func78 ?_;intro G;(repeat'(first|refine zA ?_;repeat intro nb|refine zB ?_ ?_<;>intro hc<;>try exact no hc|refine zH ?_ ?_<;>(intro hg;rw[hg];try exact no hg)));all_goals exact zXz
theorem acp_spec (o:Opn) (ix dl bk ep:Int) (R:List Asn):Spec 87 [opV o,.int .i64 ix,.int .i64 dl,.int .i64 bk,.int .i64 ep] R fun u L'=>u=rcV ⟨o.k,0,ix,bk,ep,dl,0,[],[]⟩ nilH nilH∧L'=R:=Spec.of_reads (accept_reads o ix dl bk ep) rfl ⟨rfl,rfl⟩
theorem Inv.same {c:Cfg} (hc:CfOk c) {s:St} (h:Inv c s) (hb:s.bk<1000000000) (hz:((s.bk+1:Nat):Int) % c.epochLen≠0):Inv c {s with bk:=s.bk+1}:=by
 have he:=epo_same hc hz
 exact⟨h.cap,fun i v hv=>by rw[he];exact h.val i v hv,h.sum,h.sup,h.tot,h.pe,h.ex,h.lv,h.bo,fun y hy=>by rw[he];exact h.bw y hy,h.ql,h.me,h.pa,h.at',h.ca,by simp only;omega⟩
section
variable (b:Nat) (H:EH) (c:Cfg) (s:St) (R:List Asn)
theorem tick_spec (hc:CfOk c) (h:Inv c s) (hb:s.bk<1000000000) (o:Opn) (ho:o.k=7):Spec 79 [ptr b,opV o] (engL b H c s R) fun u L'=>∃ ha hp H',u=rcV (tickM c s).1 ha hp∧L'=ownT 75 asgL 3 (sl ha) (tickM c s).1.asg::ownT 57 pmL 3 (sl hp) (tickM c s).1.pms::engL b H' c (tickM c s).2 R:=by
 have hel:=hc.el
 obtain ⟨k,ix,tg,am⟩:=o
 simp only at ho
 subst ho
 have htk:=fun R=>clk_tick H.ck s.bk c.epochLen hel (by omega) R
 have hac:=fun ep R=>acp_spec ⟨7,ix,tg,am⟩ (-1) (-1) ((s.bk+1:Nat):Int) ep R
 have hcb:=fun (b:Nat) R=>clk_block b (s.bk+1) c.epochLen R
 have hce:=fun (b:Nat) R=>clk_epoch b (s.bk+1) c.epochLen hel (by omega) R
 have hep:epo c {s with bk:=s.bk+1} = ((s.bk+1:Nat):Int) / c.epochLen:=rfl
 rw[← hep] at hce
 by_cases hz:((s.bk+1:Nat):Int) % c.epochLen=0
 ·have h1:=boundM_inv hc h hb hz
  have hbo:=fun R=>boundary_spec b H c s R hc h hb hz
  have hB:(boundM c {s with bk:=s.bk+1}).s.bk=s.bk+1:=rfl
  have hT:tickM c s=(⟨7,0,-1,((s.bk+1:Nat):Int),epo c {s with bk:=s.bk+1},-1,(payM c (boundM c {s with bk:=s.bk+1}).s).vi,(boundM c {s with bk:=s.bk+1}).ag,(payM c (boundM c {s with bk:=s.bk+1}).s).pm⟩,(payM c (boundM c {s with bk:=s.bk+1}).s).s):=by
   unfold tickM;simp only[if_pos hz];rfl
  rw[hT]
  generalize boundM c {s with bk:=s.bk+1} = B at *
  obtain ⟨ag,B⟩:=B
  simp only at *
  have hpy:=fun (H:EH) R=>pay_spec b H c B R hc h1
  have hP:(payM c B).s.bk=s.bk+1:=hB
  generalize payM c B=P at *
  obtain ⟨pm,pv,⟨pk,V',dep',pd',bu',pe',fo',vo',me',pa',at2,ca',lv',bo'⟩⟩:=P
  simp only at hP
  subst hP
  rw[show decide (((s.bk+1:Nat):Int) % c.epochLen=0)=true by simpa using hz] at htk
  refine zGz zk79 Tryz.func79 ?_;intro G;(repeat'(first|refine zA ?_;repeat intro nb|refine zC ?_;(first|refine kp (k:=122) (htk _) ?_|refine acK (L1:=engL b H c {s with bk:=s.bk+1} _) (k:=123) (hbo _) ?_;rintro u L' ⟨ha,H1,rfl,rfl⟩|refine acK (L1:=engL b H1 c B _) (k:=124) (hpy _ _) ?_;rintro u L' ⟨hp,rfl,rfl⟩|refine kp (k:=42) (hcb _ _) ?_|refine kp (k:=43) (hce _ _) ?_|refine kpW (k:=87) (hac _ _) ?_)|refine zB ?_ ?_<;>intro hc<;>try exact no hc|refine zH ?_ ?_<;>(intro hg;rw[hg];try exact no hg)));all_goals try refine zO fun a w F M=>?_
  all_goals refine zE F M ?_
  exact⟨_,_,rfl,⟨ha,hp,H1,rfl,rfl⟩,M.perms permsA⟩
 ·have h1:=Inv.same hc h hb hz
  have hT:tickM c s=(⟨7,0,-1,((s.bk+1:Nat):Int),epo c {s with bk:=s.bk+1},-1,(payM c {s with bk:=s.bk+1}).vi,[],(payM c {s with bk:=s.bk+1}).pm⟩,(payM c {s with bk:=s.bk+1}).s):=by
   unfold tickM;simp only[if_neg hz];rfl
  rw[hT]
  have hpy:=fun (H:EH) R=>pay_spec b H c {s with bk:=s.bk+1} R hc h1
  have hP:(payM c {s with bk:=s.bk+1}).s.bk=s.bk+1:=rfl
  generalize payM c {s with bk:=s.bk+1} = P at *
  obtain ⟨pm,pv,⟨pk,V',dep',pd',bu',pe',fo',vo',me',pa',at2,ca',lv',bo'⟩⟩:=P
  simp only at hP
  subst hP
  rw[show decide (((s.bk+1:Nat):Int) % c.epochLen=0)=false by simpa using hz] at htk
  refine zGo Tryz.func79 ?_;intro G w M a F
  have M:=M.own_nil 75 3
  (try refine zI zk79 F M ?_;clear F M a;try clear w);(repeat'(first|refine zA ?_;repeat intro nb|refine zC ?_;(first|refine kp (k:=122) (htk _) ?_|refine acK (L1:=engL b H c {s with bk:=s.bk+1} _) (k:=124) (hpy _ _) ?_;rintro u L' ⟨hp,rfl,rfl⟩|refine kp (k:=42) (hcb _ _) ?_|refine kp (k:=43) (hce _ _) ?_|refine kpW (k:=87) (hac _ _) ?_)|refine zB ?_ ?_<;>intro hc<;>try exact no hc|refine zH ?_ ?_<;>(intro hg;rw[hg];try exact no hg)));all_goals try refine zO fun a w F M=>?_
  all_goals refine zE F M ?_
  exact⟨_,_,rfl,⟨nilH,hp,H,rfl,rfl⟩,M.perms permsA⟩
variable (hc:CfOk c) (hi:Inv c s)
theorem rs3 (r:Rs):∃ x y z:Int,rsI r=[.int .i64 x,.int .i64 y,.int .i64 z]:=by
 unfold rsI;split
 ·exact⟨_,_,_,rfl⟩
 ·exact⟨_,_,_,rfl⟩
theorem exit_spec (hc:CfOk c) (h:Inv c s) (o:Opn):Spec 81 [ptr b,opV o] (engL b H c s R) fun u L'=>u=rsV (opLeave c s 1 o.ix)∧L'=engL b H c (opLeave c s 1 o.ix).s R:=by
 obtain ⟨k,ix,tg,am⟩:=o
 have hl:∀ R,Spec 130 [ptr b,.int .i64 1,.int .i64 ix] (engL b H c s R) fun u L'=>u=rsV (opLeave c s 1 ix)∧L'=engL b H c (opLeave c s 1 ix).s R:=fun R=>leave_spec b H c s hc h R 1 (by omega) ix
 obtain ⟨x,y,z,hr⟩:=rs3 (opLeave c s 1 ix)
 simp only[rsV,hr] at hl ⊢
 refine zGz zk81 Tryz.func81 ?_;intro G;(repeat'(first|refine zA ?_;repeat intro nb|refine zC ?_;refine acK (L1:=engL b H c s _) (k:=130) (hl _) ?_;rintro u L' ⟨rfl,rfl⟩|refine zB ?_ ?_<;>intro hc<;>try exact no hc|refine zH ?_ ?_<;>(intro hg;rw[hg];try exact no hg)));all_goals exact zXz
theorem eject_spec (hc:CfOk c) (h:Inv c s) (o:Opn):Spec 82 [ptr b,opV o] (engL b H c s R) fun u L'=>u=rsV (opLeave c s 0 o.ix)∧L'=engL b H c (opLeave c s 0 o.ix).s R:=by
 obtain ⟨k,ix,tg,am⟩:=o
 have hl:∀ R,Spec 130 [ptr b,.int .i64 0,.int .i64 ix] (engL b H c s R) fun u L'=>u=rsV (opLeave c s 0 ix)∧L'=engL b H c (opLeave c s 0 ix).s R:=fun R=>leave_spec b H c s hc h R 0 (by omega) ix
 obtain ⟨x,y,z,hr⟩:=rs3 (opLeave c s 0 ix)
 simp only[rsV,hr] at hl ⊢
 refine zGz zk82 Tryz.func82 ?_;intro G;(repeat'(first|refine zA ?_;repeat intro nb|refine zC ?_;refine acK (L1:=engL b H c s _) (k:=130) (hl _) ?_;rintro u L' ⟨rfl,rfl⟩|refine zB ?_ ?_<;>intro hc<;>try exact no hc|refine zH ?_ ?_<;>(intro hg;rw[hg];try exact no hg)));all_goals exact zXz
theorem opM_no (o:Opn) (h:(opM c s o).c≠0):(opM c s o).ix = -1∧(opM c s o).dl = -1:=by
 revert h
 unfold opM opDep opLeave opSlash opMerge opPart no'
 repeat'(first|(intro h;exact⟨rfl,rfl⟩)|(intro h;exact absurd rfl h)|split|dsimp only)
def opP (b:Nat):List (Value × Value):=[(.int .i64 6,.func (.func 85) #[ptr b] #[]),(.int .i64 5,.func (.func 84) #[ptr b] #[]),(.int .i64 4,.func (.func 83) #[ptr b] #[]),(.int .i64 3,.func (.func 82) #[ptr b] #[]),(.int .i64 2,.func (.func 81) #[ptr b] #[]),(.int .i64 1,.func (.func 80) #[ptr b] #[])]
theorem ap_miss (hc:CfOk c) (h:Inv c s) (o:Opn) (ho:I64 o.k) (h1:o.k<1∨7<o.k):Spec 26 [ptr b,opV o] (engL b H c s R) fun u L'=>u=rcV ⟨o.k,11,-1,s.bk,epo c s,-1,0,[],[]⟩ nilH nilH∧L'=engL b H c s R:=by
 have hno:∀ p∈opP b,p.1≠.int .i64 o.k:=by
  intro p hp he
  simp only[opP,List.mem_cons,List.not_mem_nil,or_false] at hp
  rcases hp with rfl|rfl|rfl|rfl|rfl|rfl<;>(simp only[Value.int.injEq] at he;omega)
 have hrj:=fun e bk ep R=>rej_spec o e bk ep R
 have hac:=fun ix dl bk ep R=>acp_spec o ix dl bk ep R
 have hbk:=h.bk
 have hcb:=fun R=>clk_block H.ck s.bk c.epochLen R
 have hce:=fun R=>clk_epoch H.ck s.bk c.epochLen hc.el (by omega) R
 rw[show(s.bk:Int) / c.epochLen=epo c s from rfl] at hce
 obtain ⟨k,ix,tg,am⟩:=o
 simp only at ho h1 hno
 have hne:decide (k=7)=false:=by simp;omega
 refine zGz zk26 Tryz.func26 ?_;intro G;(repeat'(first|refine zV (h:=⟨_,by((first|(refine rt_neN rfl rfl rfl inferInstance)|(apply rt_miss1;(exact rfl);(exact rfl);(exact rfl);(exact inferInstance);(exact gives_mp pullA);(exact intKey ho);(exact hno);(exact inferInstance)))),?_⟩)|refine zA1 ?_;repeat intro(nb:Nat)|refine zC ?_;(first|apply ac_makeMap;exact rfl;exact inferInstance;intro nm|refine ac_insNew rfl rfl rfl rfl inferInstance (intKey (by constructor<;>decide)) (by(focus ((repeat (first|exact Rep.here|apply Rep.there));done))) (by simp) ?_|refine kpW (k:=86) (efail_spec _ _) ?_|refine kp (k:=42) (hcb _) ?_|refine kp (k:=43) (hce _) ?_|refine kpW (k:=78) (hrj _ _ _ _) ?_|refine kpW (k:=87) (hac _ _ _ _ _) ?_)|refine zB ?_ ?_<;>intro hc<;>try exact no hc|refine zH ?_ ?_<;>(intro hg;rw[hg];try exact no hg)));all_goals try refine zO fun a w F M=>?_
 all_goals refine zE F M ?_
 all_goals exact⟨_,_,rfl,⟨rfl,rfl⟩,M.perms permsA⟩
theorem ap_hit (hc:CfOk c) (h:Inv c s) (o:Opn) (ho:I64 o.k) (h1:o.k≠7) (g:FuncId) [hg:FK g] (r:Rs) (hin:(Value.int .i64 o.k,Value.func (.func g) #[ptr b] #[])∈opP b) (hop:∀ R,Spec g [ptr b,opV o] (engL b H c s R) fun u L'=>u=rsV r∧L'=engL b H c r.s R) (hrb:r.s.bk=s.bk) (hr0:r.c≠0→r.ix = -1∧r.dl = -1) :
  Spec 26 [ptr b,opV o] (engL b H c s R) fun u L'=>u=rcV ⟨o.k,r.c,r.ix,s.bk,epo c s,r.dl,0,[],[]⟩ nilH nilH∧L'=engL b H c r.s R:=by
 have hrj:=fun e bk ep R=>rej_spec o e bk ep R
 have hac:=fun ix dl bk ep R=>acp_spec o ix dl bk ep R
 have hbk:=h.bk
 have hcb:=fun R=>clk_block H.ck s.bk c.epochLen R
 have hce:=fun R=>clk_epoch H.ck s.bk c.epochLen hc.el (by omega) R
 rw[show(s.bk:Int) / c.epochLen=epo c s from rfl] at hce
 obtain ⟨k,ix,tg,am⟩:=o
 obtain ⟨rc,rix,rdl,⟨rk,V',dep',pd',bu',pe',fo',vo',me',pa',at2,ca',lv',bo'⟩⟩:=r
 simp only at ho h1 hin hrb hr0
 subst hrb
 have hne:decide (k=7)=false:=by simp;omega
 by_cases hz:rc=0
 ·subst hz
  have e3:rsI ⟨0,rix,rdl,⟨s.bk,V',dep',pd',bu',pe',fo',vo',me',pa',at2,ca',lv',bo'⟩⟩=[.int .i64 0,.int .i64 rix,.int .i64 rdl]:=rfl
  simp only[rsV,e3] at hop
  refine zGz zk26 Tryz.func26 ?_;intro G;(repeat'(first|refine zV (h:=⟨_,by((first|(refine rt_neF rfl rfl rfl inferInstance)|(apply rt_hit1;(exact rfl);(exact rfl);(exact rfl);(exact inferInstance);(exact gives_mp pullA);(exact intKey ho);(exact hin)))),?_⟩)|refine zA1 ?_;repeat intro(nb:Nat)|refine zC ?_;(first|(first|apply ac_makeMap;exact rfl;exact inferInstance;intro nm|refine ac_insNew rfl rfl rfl rfl inferInstance (intKey (by constructor<;>decide)) (by(focus ((repeat (first|exact Rep.here|apply Rep.there));done))) (by simp) ?_|refine kpW (k:=86) (efail_spec _ _) ?_|refine kp (k:=42) (hcb _) ?_|refine kp (k:=43) (hce _) ?_|refine kpW (k:=78) (hrj _ _ _ _) ?_|refine kpW (k:=87) (hac _ _ _ _ _) ?_)|refine acF (k:=g) (L1:=engL b H c s _) (hop _) ?_;rintro u L' ⟨rfl,rfl⟩)|refine zB ?_ ?_<;>intro hc<;>try exact no hc|refine zH ?_ ?_<;>(intro hg;rw[hg];try exact no hg)));all_goals try refine zO fun a w F M=>?_
  all_goals refine zE F M ?_
  all_goals exact⟨_,_,rfl,⟨rfl,rfl⟩,M.perms permsA⟩
 ·have e3:rsI ⟨rc,rix,rdl,⟨s.bk,V',dep',pd',bu',pe',fo',vo',me',pa',at2,ca',lv',bo'⟩⟩=[.int .i64 rc,.int .i64 0,.int .i64 0]:=by unfold rsI;rw[if_neg hz]
  simp only[rsV,e3] at hop
  obtain ⟨rfl,rfl⟩:=hr0 hz
  refine zGz zk26 Tryz.func26 ?_;intro G;(repeat'(first|refine zV (h:=⟨_,by((first|(refine rt_neF rfl rfl rfl inferInstance)|(apply rt_hit1;(exact rfl);(exact rfl);(exact rfl);(exact inferInstance);(exact gives_mp pullA);(exact intKey ho);(exact hin)))),?_⟩)|refine zA1 ?_;repeat intro(nb:Nat)|refine zC ?_;(first|(first|apply ac_makeMap;exact rfl;exact inferInstance;intro nm|refine ac_insNew rfl rfl rfl rfl inferInstance (intKey (by constructor<;>decide)) (by(focus ((repeat (first|exact Rep.here|apply Rep.there));done))) (by simp) ?_|refine kpW (k:=86) (efail_spec _ _) ?_|refine kp (k:=42) (hcb _) ?_|refine kp (k:=43) (hce _) ?_|refine kpW (k:=78) (hrj _ _ _ _) ?_|refine kpW (k:=87) (hac _ _ _ _ _) ?_)|refine acF (k:=g) (L1:=engL b H c s _) (hop _) ?_;rintro u L' ⟨rfl,rfl⟩)|refine zB ?_ ?_<;>intro hc<;>try exact no hc|refine zH ?_ ?_<;>(intro hg;rw[hg];try exact no hg)));all_goals try refine zO fun a w F M=>?_
  all_goals first|(exfalso;rename_i hc;exact hc hz)|(refine zE F M ?_;exact⟨_,_,rfl,⟨rfl,rfl⟩,M.perms permsA⟩)
end
end
section
open Go.RowKit
theorem Spec.nils {k:FuncId} {us:List Value} {L:List Asn} {D:Value→List Asn→Prop} (h:Spec k us L D):Spec k us L fun u L'=>∃ L1,D u L1∧L'=ownT 75 asgL 3 (sl nilH) []::ownT 57 pmL 3 (sl nilH) []::L1:=fun G w M=>by
 refine(h G w M).mono ?_
 rintro e w' ⟨v,L',h1,h2,M'⟩
 have M2:=(M'.own_nil 57 3).own_nil 75 3
 exact⟨v,_,h1,⟨_,h2,rfl⟩,M2⟩
section
variable (b:Nat) (H:EH) (c:Cfg) (s:St) (R:List Asn)
def apQ (b:Nat) (c:Cfg) (R:List Asn) (x:Rc × St) (u:Value) (L':List Asn):Prop:=∃ ha hp H',u=rcV x.1 ha hp∧L'=ownT 75 asgL 3 (sl ha) x.1.asg::ownT 57 pmL 3 (sl hp) x.1.pms::engL b H' c x.2 R
theorem ap_tick (hc:CfOk c) (h:Inv c s) (hb:s.bk<1000000000) (o:Opn) (ho:o.k=7):Spec 26 [ptr b,opV o] (engL b H c s R) fun u L'=>apQ b c R (tickM c s) u L':=by
 obtain ⟨k,ix,tg,am⟩:=o
 simp only at ho
 subst ho
 have ht:=fun R=>tick_spec b H c s R hc h hb ⟨7,ix,tg,am⟩ rfl
 unfold apQ
 generalize tickM c s=X at *
 obtain ⟨⟨x1,x2,x3,x4,x5,x6,x7,x8,x9⟩,s2⟩:=X
 simp only at ht ⊢
 refine zGz zk26 Tryz.func26 ?_;intro G;(repeat'(first|refine zA ?_;repeat intro nb|refine zC ?_;refine acK (L1:=engL b H c s _) (k:=79) (ht _) ?_;rintro u L' ⟨ha,hp,H1,rfl,rfl⟩|refine zB ?_ ?_<;>intro hc<;>try exact no hc|refine zH ?_ ?_<;>(intro hg;rw[hg];try exact no hg)));all_goals try refine zO fun a w F M=>?_
 all_goals refine zE F M ?_
 all_goals exact⟨_,_,rfl,⟨ha,hp,H1,rfl,rfl⟩,M.perms permsA⟩
theorem apply_spec (hc:CfOk c) (h:Inv c s) (hb:s.bk<1000000000) (o:Opn) (hk:I64 o.k) (ho:U64 o.am):Spec 26 [ptr b,opV o] (engL b H c s R) fun u L'=>apQ b c R (stepM c s o) u L':=by
 by_cases h7:o.k=7
 ·have e:stepM c s o=tickM c s:=by unfold stepM;rw[if_pos h7]
  rw[e]
  exact ap_tick b H c s R hc h hb o h7
 ·have e:stepM c s o=(⟨o.k,(opM c s o).c,(opM c s o).ix,s.bk,epo c s,(opM c s o).dl,0,[],[]⟩,(opM c s o).s):=by unfold stepM;rw[if_neg h7]
  rw[e]
  have fin:Spec 26 [ptr b,opV o] (engL b H c s R) fun u L'=>u=rcV ⟨o.k,(opM c s o).c,(opM c s o).ix,s.bk,epo c s,(opM c s o).dl,0,[],[]⟩ nilH nilH∧L'=engL b H c (opM c s o).s R:=by
   have hit:=fun (g:FuncId) (hg:FK g) hin hop=>ap_hit b H c s R hc h o hk h7 g (opM c s o) hin hop (opM_bk c s o) (opM_no c s o)
   by_cases h1:o.k=1
   ·exact hit 80 inferInstance (by rw[h1];simp[opP]) fun R=>by
     have:opM c s o=opDep c s o.am:=by unfold opM;rw[if_pos h1]
     rw[this];exact dep_spec b H c s hc h R o ho
   by_cases h2:o.k=2
   ·exact hit 81 inferInstance (by rw[h2];simp[opP]) fun R=>by
     have:opM c s o=opLeave c s 1 o.ix:=by unfold opM;rw[if_neg h1,if_pos h2]
     rw[this];exact exit_spec b H c s R hc h o
   by_cases h3:o.k=3
   ·exact hit 82 inferInstance (by rw[h3];simp[opP]) fun R=>by
     have:opM c s o=opLeave c s 0 o.ix:=by unfold opM;rw[if_neg h1,if_neg h2,if_pos h3]
     rw[this];exact eject_spec b H c s R hc h o
   by_cases h4:o.k=4
   ·exact hit 83 inferInstance (by rw[h4];simp[opP]) fun R=>by
     have:opM c s o=opSlash c s o.ix:=by unfold opM;rw[if_neg h1,if_neg h2,if_neg h3,if_pos h4]
     rw[this];exact slash_spec b H c s hc h R o
   by_cases h5:o.k=5
   ·exact hit 84 inferInstance (by rw[h5];simp[opP]) fun R=>by
     have:opM c s o=opMerge c s o.ix o.tg:=by unfold opM;rw[if_neg h1,if_neg h2,if_neg h3,if_neg h4,if_pos h5]
     rw[this];exact cons_spec b H c s hc h R o
   by_cases h6:o.k=6
   ·exact hit 85 inferInstance (by rw[h6];simp[opP]) fun R=>by
     have:opM c s o=opPart c s o.ix o.am:=by unfold opM;rw[if_neg h1,if_neg h2,if_neg h3,if_neg h4,if_neg h5,if_pos h6]
     rw[this];exact part_spec b H c s hc h R o ho
   have:opM c s o=no' s 11:=by unfold opM;rw[if_neg h1,if_neg h2,if_neg h3,if_neg h4,if_neg h5,if_neg h6]
   rw[this]
   exact ap_miss b H c s R hc h o hk (by omega)
  refine fin.nils.mono ?_
  rintro u L' ⟨L1,⟨rfl,rfl⟩,rfl⟩
  exact⟨nilH,nilH,H,rfl,rfl⟩
end
end
section
open Go.RowKit
section
variable (b:Nat) (H:EH) (c:Cfg) (s:St) (R:List Asn)
theorem get_spec (hl:s.V.length≤4096) (i:Nat) (v:Val) (hv:s.V[i]? = some v):Spec 19 [ptr b,.int .i64 i] (engL b H c s R) fun u L'=>u=.tuple [valV v,.bool true].toArray∧L'=engL b H c s R:=by
 have hg:=fun R=>reg_get H.rg c.capacity s.V R i v hv hl
 obtain ⟨bal,st,slz,rq,ex,wd,dl⟩:=v
 refine zGz zk19 Tryz.func19 ?_;intro G;(repeat'(first|refine zA ?_;repeat intro nb|refine zC ?_;refine kp (k:=58) (hg _) ?_|refine zB ?_ ?_<;>intro hc<;>try exact no hc|refine zH ?_ ?_<;>(intro hg;rw[hg];try exact no hg)));all_goals try refine zO fun a w F M=>?_
 all_goals refine zE F M ?_
 all_goals exact⟨_,_,rfl,⟨rfl,rfl⟩,M.perms permsA⟩
theorem getN_spec (hl:s.V.length≤4096) (i:Int) (hi:i<0∨(s.V.length:Int)≤i):Spec 19 [ptr b,.int .i64 i] (engL b H c s R) fun u L'=>u=.tuple [valV Val.zero,.bool false].toArray∧L'=engL b H c s R:=by
 have hg:=fun R=>reg_getN H.rg c.capacity s.V R i hi
 refine zGz zk19 Tryz.func19 ?_;intro G;(repeat'(first|refine zA ?_;repeat intro nb|refine zC ?_;refine kp (k:=58) (hg _) ?_|refine zB ?_ ?_<;>intro hc<;>try exact no hc|refine zH ?_ ?_<;>(intro hg;rw[hg];try exact no hg)));all_goals try refine zO fun a w F M=>?_
 all_goals refine zE F M ?_
 all_goals exact⟨_,_,rfl,⟨rfl,rfl⟩,M.perms permsA⟩
end
end
section
open Go.RowKit
def rcP (x:RcS):List Asn:=[ownT 75 asgL 3 (sl x.s) x.r.asg,ownT 57 pmL 3 (sl x.p) x.r.pms]
def rsA (xs:List RcS):Asn:=exA fun _:Unit=>xs.flatMap rcP
theorem rs_nil {w:World} {L:List Asn} (M:Mem w L):Mem w (rsA []::L):=Mem.exc (f:=fun _:Unit=>([]:List RcS).flatMap rcP) () (by simpa using M)
theorem rs_add {w:World} {L:List Asn} {xs:List RcS} {x:RcS} (M:Mem w (ownT 75 asgL 3 (sl x.s) x.r.asg::ownT 57 pmL 3 (sl x.p) x.r.pms::rsA xs::L)):Mem w (rsA (xs++[x])::L):=by
 obtain ⟨_,M2⟩:=(M.perms (permsA:Perms _ (rsA xs::ownT 75 asgL 3 (sl x.s) x.r.asg::ownT 57 pmL 3 (sl x.p) x.r.pms::L))).exo
 refine Mem.exc (f:=fun _:Unit=>(xs++[x]).flatMap rcP) () ?_
 simpa[List.flatMap_append,rcP] using M2
theorem runM_cons (c:Cfg) (s:St) (o:Opn) (r:List Opn):runM c s (o::r)=((stepM c s o).1::(runM c (stepM c s o).2 r).1,(runM c (stepM c s o).2 r).2):=rfl
structure RnZ where
 k:Nat
 H:EH
 h:SlH
 xs:List RcS
 s:St
section
variable (b:Nat) (H:EH) (c:Cfg) (s:St) (R:List Asn)
theorem run_spec (hc:CfOk c) (h:Inv c s) (v:Value) (l:List Opn) (hg:GS R 4 v l.length (l.flatMap opL)) (hl:l.length≤100000) (hb:s.bk+l.length<1000000000) (hwf:∀ o∈l,I64 o.k∧U64 o.am) :
  Spec 28 [ptr b,v] (engL b H c s R) fun u L'=>∃ hr H' xs,(u=sl hr∧xs.map (·.r)=(runM c s l).1)∧L'=ownT 39 rsL 9 (sl hr) xs::rsA xs::engL b H' c (runM c s l).2 R:=by
 obtain ⟨X,hX⟩:∃ X,runM c s l=X:=⟨_,rfl⟩
 rw[hX]
 refine zGo Tryz.func28 ?_;intro G w M a F
 have hG:GS (R++G) 4 v l.length (l.flatMap opL):=Gives.app hg
 have M:=rs_nil (M.own_nil 39 9)
 (try refine zI zk28 F M ?_;clear F M a;try clear w);(repeat'(first|refine zA ?_;repeat intro nb|refine zB ?_ ?_<;>intro hc<;>try exact no hc|refine zH ?_ ?_<;>(intro hg;rw[hg];try exact no hg)));all_goals try refine zO fun a w F M=>?_
 refine svLoop F M (⟨0,H,nilH,[],s⟩:RnZ) (fun z=>[(10,.int .i64 z.k),(5,sl z.h)]) (fun z=>ownT 39 rsL 9 (sl z.h) z.xs::rsA z.xs::engL b z.H c z.s []) (fun z=>z.k≤l.length∧Inv c z.s∧z.s.bk≤s.bk+z.k∧z.xs.length=z.k∧z.xs.map (·.r)++(runM c z.s (l.drop z.k)).1=X.1∧(runM c z.s (l.drop z.k)).2=X.2) (fun z=>l.length - z.k) [7] ⟨Nat.zero_le _,h,Nat.le_refl _,rfl,by simp[hX],by simp[hX]⟩ ?_ (hR:=by(repeat (first|exact Pulls.nil|(apply Pulls.cons;(focus ((repeat (first|exact Pull.here|apply Pull.there));done))))))
 (rintro⟨k,H',hh,xs,s'⟩ ⟨q1,q2,q3,q4,q5,q6⟩ a w F M;(try simp only[zc,zn] at F M q1 q2 q3 q4 q5 q6 ⊢))
 by_cases hk:k<l.length
 ·obtain ⟨o,ho⟩:∃ o,l[k]? = some o:=⟨l[k],by simp[hk]⟩
  obtain ⟨ho1,ho2⟩:=hwf o (List.mem_of_getElem? ho)
  rw[drop_cons ho,runM_cons] at q5 q6
  have hap:=fun R=>apply_spec b H' c s' R hc q2 (by omega) o ho1 ho2
  obtain ⟨n1,n2⟩:=stepM_inv hc q2 (by omega) o ho2
  simp only[apQ] at hap
  obtain ⟨Y,hY⟩:∃ Y,stepM c s' o=Y:=⟨_,rfl⟩
  simp only[hY] at hap q5 q6 n1 n2
  obtain ⟨⟨x1,x2,x3,x4,x5,x6,x7,x8,x9⟩,s2⟩:=Y
  obtain ⟨ok,oi,ot,oa⟩:=o
  simp only at hap q5 q6 n1 n2
  (try refine zI zk28 F M ?_;clear F M a;try clear w);(repeat'(first|refine zA ?_;repeat intro nb|refine zC ?_;(first|refine acK (L1:=engL b H' c s' _) (k:=26) (hap _) ?_;rintro u L' ⟨ha,hp,H2,rfl,rfl⟩|refine ac_appendH (f:=rsL) (xs:=xs) (ys:=[⟨⟨x1,x2,x3,x4,x5,x6,x7,x8,x9⟩,ha,hp⟩]) rfl rfl inferInstance rfl rfl pullA inferInstance gsA rfl rfl (by simp;omega) ?_;intro nv)|refine zB ?_ ?_<;>intro hc<;>try exact no hc|refine zH ?_ ?_<;>(intro hg;rw[hg];try exact no hg)));all_goals try refine zO fun a w F M=>?_
  have M1:=rs_add (x:=⟨⟨x1,x2,x3,x4,x5,x6,x7,x8,x9⟩,ha,hp⟩) (xs:=xs) (L:=ownT 39 rsL 9 (sl nv) (xs++[⟨⟨x1,x2,x3,x4,x5,x6,x7,x8,x9⟩,ha,hp⟩])::engL b H2 c s2 (R++G)) (M.perms permsA)
  clear M;have M:=M1;clear M1
  refine sv_again F M (⟨k+1,H2,nv,xs++[⟨⟨x1,x2,x3,x4,x5,x6,x7,x8,x9⟩,ha,hp⟩],s2⟩:RnZ) kpA permsA ⟨by simp only;omega,n1,by simp only;omega,by simp[q4],?_,q6⟩ (by simp only;omega)
  rw[← q5];simp
 obtain rfl:k=l.length:=by omega
 rw[List.drop_length] at q5 q6
 simp only[runM,List.append_nil] at q5 q6
 subst q6
 (try refine zI zk28 F M ?_;clear F M a;try clear w);(repeat'(first|refine zA ?_;repeat intro nb|refine zB ?_ ?_<;>intro hc<;>try exact no hc|refine zH ?_ ?_<;>(intro hg;rw[hg];try exact no hg)));all_goals try refine zO fun a w F M=>?_
 all_goals refine zE F M ?_
 exact⟨_,_,rfl,⟨hh,H',xs,⟨rfl,q5⟩,rfl⟩,M.perms permsA⟩
end
end
section
open Go.RowKit
section
variable {o:Oper} {n:Nat} {l:List (Nat × Value)} {L:List Asn}
end
structure RH where
 ld:Nat
 ln:Nat
 mt:Nat
 hV:SlH
 hP:SlH
 hM:SlH
 hQ:SlH
def rfC (z:RH) (c:Cfg) (bk ep at':Int):List Value:=[.int .i64 c.capacity,.int .i64 c.queueSize,.int .u64 c.minDeposit,.int .u64 c.maxDeposit,.int .u64 c.supplyCap,.int .u64 c.minBalance,.int .u64 c.maxBalance,.int .u64 c.minChurn,.int .u64 c.quotient,.int .u64 c.forcedCap,
 .int .i64 c.unbonding,.int .i64 c.slashDelay,.int .i64 c.ringLen,.int .i64 c.epochLen,.int .i64 c.visits,.int .i64 c.payments,.int .i64 c.partials,.int .i64 c.merges,.int .u64 c.penNum,.int .u64 c.penDen,
 .int .i64 bk,.int .i64 ep,sl z.hV,ptr z.ld,sl z.hP,ptr z.ln,sl z.hM,sl z.hQ,.int .i64 at',ptr z.mt]
abbrev refL (b:Nat) (z:RH) (c:Cfg) (s:St) (R:List Asn):List Asn :=
 rlnA z.ln (qS c) s.fo s.vo::pt b (rfC z c s.bk (epo c s) s.at') 85::rldC z.ld c.supplyCap s.dep s.pd s.bu::rmtA z.mt s.ca::roT valL 7 (sl z.hV) s.V::roT natL 1 (sl z.hP) s.pe::roT prL 2 (sl z.hM) s.me::roT rqL 2 (sl z.hQ) s.pa::R
theorem rnew_spec (c:Cfg) (hc:CfOk c) (R:List Asn):Spec 21 [cfgV c] R fun u L'=>∃ b z,u=ptr b∧L'=refL b z c St.ini R:=by
 have hqs:=hc.qs
 obtain ⟨qs,hqs2⟩:∃ qs:Nat,c.queueSize=qs:=⟨c.queueSize.toNat,by omega⟩
 have hq:qS c=qs:=by simp only[qS,hqs2,Int.toNat_natCast]
 refine zGz zk21 Tryz.func21 ?_;intro G;(repeat'(first|refine zA ?_;repeat intro nb|refine zB ?_ ?_<;>intro hc<;>try exact no hc|refine zH ?_ ?_<;>(intro hg;rw[hg];try exact no hg)));all_goals try refine zO fun a w F M=>?_
 all_goals refine zE F M ?_
 have eqs:((qS c:Nat):Int)=c.queueSize:=by rw[hq];exact hqs2.symm
 have M1:=rmt_close _ (M.pull (.there .here))
 have M2:=((((M1.own_nil 3 1).ro).own_nil 3 1).ro).pull (.there (.there (.there (.there .here))))
 have M3:=rln_close _ (size:=qS c) (fo:=[]) (vo:=[]) (h1:=nilH) (h2:=nilH) (by unfold rlnL;rw[eqs];exact M2)
 have M4:=((((((((M3.own_nil 3 7).ro).own_nil 3 1).ro).own_nil 3 2).ro).own_nil 3 2).ro)
 rename_i ncf ledger lanes meter
 refine⟨_,_,rfl,⟨nb,⟨ledger,lanes,meter,nilH,nilH,nilH,nilH⟩,rfl,rfl⟩,?_⟩
 have ee:epo c St.ini=0:=by simp[epo,St.ini]
 rw[refL,ee]
 exact M4.perms permsA
theorem rrej_spec (b:Nat) (z:RH) (c:Cfg) (bk ep at' k e:Int) (R:List Asn):Spec 93 [ptr b,.int .i64 k,.int .i64 e] (pt b (rfC z c bk ep at') 85::R) fun u L'=>u=rcV ⟨k,e,-1,bk,ep,-1,0,[],[]⟩ nilH nilH∧L'=pt b (rfC z c bk ep at') 85::R:=by
 refine zGz zk93 Tryz.func93 ?_;intro G;(repeat'(first|refine zA ?_;repeat intro nb|refine zB ?_ ?_<;>intro hc<;>try exact no hc|refine zH ?_ ?_<;>(intro hg;rw[hg];try exact no hg)));all_goals try refine zO fun a w F M=>?_
 all_goals refine zE F M ?_
 all_goals exact⟨_,_,rfl,⟨rfl,rfl⟩,M.perms permsA⟩
theorem racp_spec (b:Nat) (z:RH) (c:Cfg) (bk ep at' k i d:Int) (R:List Asn):Spec 142 [ptr b,.int .i64 k,.int .i64 i,.int .i64 d] (pt b (rfC z c bk ep at') 85::R) fun u L'=>u=rcV ⟨k,0,i,bk,ep,d,0,[],[]⟩ nilH nilH∧L'=pt b (rfC z c bk ep at') 85::R:=by
 refine zGz zk142 Tryz.func142 ?_;intro G;(repeat'(first|refine zA ?_;repeat intro nb|refine zB ?_ ?_<;>intro hc<;>try exact no hc|refine zH ?_ ?_<;>(intro hg;rw[hg];try exact no hg)));all_goals try refine zO fun a w F M=>?_
 all_goals refine zE F M ?_
 all_goals exact⟨_,_,rfl,⟨rfl,rfl⟩,M.perms permsA⟩
def rcR (c:Cfg) (s:St) (k:Int) (r:Rs):Rc:=⟨k,r.c,r.ix,s.bk,epo c s,r.dl,0,[],[]⟩
end
section
open Go.RowKit
def mapTo (f:Val→Val) (V:List Val) (k:Nat):List Val:=(V.take k).map f++V.drop k
theorem mapTo_zero (f:Val→Val) (V:List Val):mapTo f V 0=V:=by simp[mapTo]
theorem mapTo_all (f:Val→Val) (V:List Val):mapTo f V V.length=V.map f:=by simp[mapTo]
theorem mapTo_len (f:Val→Val) (V:List Val) (k:Nat):(mapTo f V k).length=V.length:=by simp[mapTo];omega
theorem mapTo_at (f:Val→Val) {V:List Val} {k:Nat} {v:Val} (h:V[k]? = some v):(mapTo f V k)[k]? = some v:=by
 have hk:=(List.getElem?_eq_some_iff.1 h).1
 unfold mapTo
 rw[List.getElem?_append_right (by simp;omega),List.length_map,List.length_take,Nat.min_eq_left (by omega),Nat.sub_self,List.getElem?_drop,Nat.add_zero,h]
theorem mapTo_step (f:Val→Val) {V:List Val} {k:Nat} {v:Val} (h:V[k]? = some v):mapTo f V (k+1)=(mapTo f V k).set k (f v):=by
 have hk:=(List.getElem?_eq_some_iff.1 h).1
 unfold mapTo
 rw[drop_cons h,List.set_append_right _ _ (by simp;omega),List.length_map,List.length_take,Nat.min_eq_left (by omega),Nat.sub_self,List.set_cons_zero,List.take_add_one,h]
 simp
theorem mapTo_same (f:Val→Val) {V:List Val} {k:Nat} {v:Val} (h:V[k]? = some v) (hf:f v=v):mapTo f V (k+1)=mapTo f V k:=by
 rw[mapTo_step f h,hf]
 have h2:=mapTo_at f h
 apply List.ext_getElem?
 intro i
 rw[List.getElem?_set]
 by_cases hi:k=i
 ·subst hi
  rw[if_pos rfl,h2,if_pos (List.getElem?_eq_some_iff.1 h2).1]
 ·rw[if_neg hi]
theorem lv_map {c:Cfg} (hc:CfOk c) {s:St} (h:Inv c s) {e:Int} (he1:epo c s=e - 1):mods set4 s.V s.lv=s.V.map (leaveV e):=by
 have hep:=epo_range hc (s:=s) (by have:=h.bk;omega)
 have hval:=h.val
 rw[he1] at hval
 refine mods_map _ _ h.lv.nd (fun i hi v hv=>?_) fun i v hv hi=>?_
 ·obtain ⟨v',hv',hl⟩:=(h.lv.mem i).1 hi
  rw[hv] at hv';cases hv'
  have q:=(hval i v hv).e3
  unfold leave' at hl
  unfold set4 leaveV
  rw[if_pos (by omega)]
 ·unfold leaveV
  rw[if_neg]
  intro hh
  exact hi ((h.lv.mem i).2 ⟨v,hv,by unfold leave';omega⟩)
theorem rp_map {c:Cfg} (hc:CfOk c) {s:St} (h:Inv c s) {e:Int} (he1:epo c s=e - 1):mods (dueV e) (s.V.map (leaveV e)) ((s.bo.filter fun x=>decide (x.1=e)).map (·.2))=(s.V.map (leaveV e)).map (ripeV e):=by
 have hep:=epo_range hc (s:=s) (by have:=h.bk;omega)
 have hval:=h.val
 have hbw:=h.bw
 rw[he1] at hval hbw
 have ndp:=(due_parts s.bo e).nodup_iff.1 h.bo.nd
 have dn:=(List.nodup_append.1 ndp).2.1
 have e1:∀ i:Nat,(s.V.map (leaveV e))[i]? = (s.V[i]?).map (leaveV e):=fun i=>List.getElem?_map ..
 refine mods_map _ _ dn (fun i hi v hv=>?_) fun i v hv hi=>?_
 ·obtain ⟨x,hx,rfl⟩:=List.mem_map.1 hi
  obtain ⟨u,hu,hbv⟩:=(h.bo.mem x.2).1 (List.mem_map.2 ⟨x,(List.mem_filter.1 hx).1,rfl⟩)
  rw[e1,hu] at hv
  obtain rfl:=Option.some.inj hv
  have q:=(hval _ u hu).e3
  have h4:(leaveV e u).st=4:=by
   unfold bond' at hbv
   unfold leaveV
   by_cases h3:u.st=3∧u.ex=e
   ·rw[if_pos h3]
   ·rw[if_neg h3];omega
  unfold dueV ripeV
  by_cases hw:e<(leaveV e u).wd
  ·rw[if_pos hw,if_neg (by omega)]
  ·rw[if_neg hw,if_pos (by omega)]
 ·rw[e1] at hv
  obtain ⟨u,hu,rfl⟩:=Option.map_eq_some_iff.1 hv
  unfold ripeV
  rw[if_neg]
  rintro⟨q1,q2⟩
  have hw:=leaveV_wd e u
  have q3:=(hval i u hu).e3
  have hbu:bond' u:=by
   unfold bond'
   unfold leaveV at q1
   by_cases h3:u.st=3∧u.ex=e
   ·omega
   ·rw[if_neg h3] at q1;omega
  obtain ⟨x,hx,rfl⟩:=List.mem_map.1 ((h.bo.mem i).2 ⟨u,hu,hbu⟩)
  have q4:=(hbw x hx).1
  have q5:=(hbw x hx).2 u hu
  have q6:x.1=e:=by omega
  exact hi (List.mem_map.2 ⟨x,List.mem_filter.2 ⟨hx,by simpa using q6⟩,rfl⟩)
section
variable (b:Nat) (z:RH) (c:Cfg) (R:List Asn)
theorem revent_spec (bk ep at':Int) (V:List Val) (hl:V.length≤1000000) (i:Nat) (v:Val) (e:Int) (hv:V[i]? = some v):Spec 218 [ptr b,.int .i64 i,.int .i64 e] (pt b (rfC z c bk ep at') 85::roT valL 7 (sl z.hV) V::R) fun u L'=>∃ h,u=.tuple #[]∧L'=pt b (rfC {z with hV:=h} c bk ep at') 85::roT valL 7 (sl h) (V.set i {v with st:=nextF v.st e})::R:=by
 have hil:i<V.length:=(List.getElem?_eq_some_iff.1 hv).1
 have hnx:=fun R=>rnext_spec R v.st e
 have hpt:=fun (R:List Asn) hg=>rput_spec V (sl z.hV) R hg hl i {v with st:=nextF v.st e} v hv
 generalize nextF v.st e=n at *
 obtain ⟨bal,st,slz,rq,ex,wd,dl⟩:=v
 simp only at hnx hpt
 refine zGz zk218 Tryz.func218 ?_;intro G;(repeat'(first|refine zA ?_;repeat intro nb|refine zC ?_;(first|refine kpW (k:=210) (hnx _) ?_|refine acW (k:=146) (hpt _ ?_) ?_;exact gsA;rintro u L' ⟨h1,rfl,rfl⟩)|refine zB ?_ ?_<;>intro hc<;>try exact no hc|refine zH ?_ ?_<;>(intro hg;rw[hg];try exact no hg)));all_goals try refine zO fun a w F M=>?_
 all_goals refine zE F M ?_
 have M2:=M.roP (v:=sl h1) pullA
 exact⟨_,_,rfl,⟨h1,rfl,rfl⟩,M2.perms permsA⟩
end
end
section
open Go.RowKit
section
variable (b:Nat) (z:RH) (c:Cfg) (R:List Asn)
variable (s:St)
variable {V1 V2 V3 V4 V5:List Val} {ch:Int} {T:Nat × Int} {n:Nat} {E2:List En}
theorem rbwalk (hc:CfOk c) (f:BdF c s (epo c s) V1 V2 V3 V4 V5 ch T n E2) (hv1:s.V.map (leaveV (epo c s))=V1) (hv2:V1.map (ripeV (epo c s))=V2) :
  Spec 152 [ptr b] (refL b z c s R) fun u L'=>∃ ha z',u=sl ha∧L'=ownT 75 asgL 3 (sl ha) (boundM c s).ag::refL b z' c (boundM c s).s R:=by
 rw[f.bd]
 simp only
 have hqs:=hc.qs
 have hel:=hc.el
 have hme:=hc.me
 have hqu:=hc.qu
 have hun:=hc.un
 obtain ⟨he0,hepo,hb,g0,g1,g2,g3,g4,g5,lvn,lvl,lv3,m1,bl,dn,ds,m2,e2,e2l,hch,ch0,hT,hca,xn,x3,xl,m3,hn,pn,pl,p1,m4,ml,m5,l5,bd⟩:=f
 clear bd dn ds m1 m2 e2 e2l bl lv3 lvl lvn hepo hb
 have hl0:s.V.length≤4096:=g0.len
 have hl1:V1.length=s.V.length:=by rw[← hv1,List.length_map]
 have hl2:V2.length=s.V.length:=by rw[← hv2,List.length_map,hl1]
 have hav:=actv_le V2 g2.bal0
 have hsm2:=g2.sum
 have hac:=fun (h:SlH) (R:List Asn) hg=>ractive_spec V2 (sl h) R hg (by omega) g2.bal0 (by omega)
 have hcn:=fun R=>rchurn_spec R (actv V2) c.minChurn c.quotient ⟨hav.1,by omega⟩ hqu
 rw[show max c.minChurn (actv V2 / c.quotient)=ch from hch] at hcn
 have hfl:s.fo.length+s.vo.length≤4096:=by rw[← List.length_append];exact xl
 have hchu:U64 ch:=by
  have h3:0≤actv V2 / c.quotient:=Int.ediv_nonneg hav.1 (by omega)
  have h4:actv V2 / c.quotient≤actv V2:=Int.ediv_le_self _ hav.1
  have h5:=hc.mc
  rw[← hch];unfold churn
  exact⟨by omega,by omega⟩
 have hb2:=fun (h:SlH) (R:List Asn) hg=>rbals_spec V2 (sl h) R hg (by omega)
 have hst:=fun (h:SlH) (R:List Asn) hg=>rastep_spec z.ln z.mt (qS c) (bals V2) (sl h) R hg g2.u64 s.fo s.vo (by omega) (by omega) s.ca ch (epo c s) hca hchu ⟨he0.1,by omega⟩
 have hTl:=takeW_le (bals V2) (s.fo++s.vo) (granted s.ca ch)
 rw[hT] at hst hTl
 have hAl:=asgs_len (epo c s+1) s.fo s.vo T.1 hTl
 have hAt:=fun j i=>asgs_at (epo c s+1) s.fo s.vo T.1 j i hTl
 obtain ⟨ix,hix⟩:∃ ix,(s.fo++s.vo).take T.1=ix:=⟨_,rfl⟩
 have hixl:ix.length=T.1:=by rw[← hix,List.length_take];omega
 have hixn:ix.Nodup:=by rw[← hix];exact xn.sublist (List.take_sublist _ _)
 have hixs:∀ i∈ix,∃ v,V2[i]? = some v∧v.st=3∧v.ex = -1:=fun i hi=>x3 i (List.mem_of_mem_take (hix ▸ hi))
 rw[hix] at hAt m3 ⊢
 obtain ⟨A,hA⟩:∃ A,asgs (epo c s+1) s.fo s.vo T.1=A:=⟨_,rfl⟩
 rw[hA] at hAl hAt ⊢
 simp only[hA] at hst
 have hga:∀ v,G1 v→G1 (setAsg c (epo c s+1) v):=fun v h=>⟨h.b,h.st,h.rq,⟨by simp only[setAsg];omega,by simp only[setAsg];omega⟩,⟨by have:=h.wd;simp only[setAsg];omega,by have:=h.wd;simp only[setAsg];omega⟩,h.dl⟩
 have hl3:V3.length=s.V.length:=by rw[← m3,mods_len,hl2]
 have hb3:=fun (h:SlH) (R:List Asn) hg=>rbals_spec V3 (sl h) R hg (by omega)
 have hl4:V4.length=s.V.length:=by rw[← m4,mods_len,hl3]
 have hms:=fun (h1:SlH) (R:List Asn) hg1 hg2=>rmstep_spec V4 (sl h1) R hg1 (by omega) c hc (sl z.hM) s.me hg2 ml (by omega) g4.u64v
 rw[m5] at hms
 have hnl:=actN_le (bals V3) ch s.pe
 rw[hn] at hnl
 obtain ⟨mg,hmg⟩:∃ mg:Nat,c.merges=mg:=⟨c.merges.toNat,by omega⟩
 obtain ⟨m,hm⟩:∃ m,min s.me.length mg=m:=⟨_,rfl⟩
 have e2:(if c.merges<(s.me.length:Int) then c.merges else (s.me.length:Int))=(m:Int):=by rw[hmg];split<;>omega
 have hdr:s.me.drop c.merges.toNat=s.me.drop m:=by
  rw[hmg,Int.toNat_natCast]
  by_cases h:mg≤s.me.length
  ·rw[show m=mg by omega]
  ·rw[List.drop_eq_nil_of_le (by omega),List.drop_eq_nil_of_le (by omega)]
 rw[hdr]
 generalize (if T.1=(s.fo++s.vo).length then 0 else T.2)=CA at *
 generalize s.fo.drop T.1=fo2 at *
 generalize s.vo.drop (T.1 - s.fo.length)=vo2 at *
 intro G w M
 have hhP:=ro_h (M.perms (permsA:Perms _ (roT natL 1 (sl z.hP) s.pe::(R++G))))
 have hhM:=ro_h (M.perms (permsA:Perms _ (roT prL 2 (sl z.hM) s.me::(R++G))))
 have hat:=fun (h:SlH) (R:List Asn) hg hgl=>ractn_spec (bals V3) (sl h) R hg g3.u64 s.pe z.hP hgl (by omega) hhP.2.1 ch hchu
 rw[hn] at hat
 (refine zGe Tryz.func152 ?_;intro a F;(try simp only[zc,zn] at M))
 (try refine zI zk152 F M ?_;clear F M a;try clear w);(repeat'(first|refine zA ?_;repeat intro nb|refine zB ?_ ?_<;>intro hc<;>try exact no hc|refine zH ?_ ?_<;>(intro hg;rw[hg];try exact no hg)));all_goals try refine zO fun a w F M=>?_
 refine svLoop F M ((0,z.hV):Nat × SlH) (fun y=>[(3,.int .i64 y.1)]) (fun y=>[pt b (rfC {z with hV:=y.2} c s.bk (epo c s) s.at') 85,roT valL 7 (sl y.2) (mapTo (leaveV (epo c s)) s.V y.1)]) (fun y=>y.1≤s.V.length) (fun y=>s.V.length - y.1) [] (Nat.zero_le _) ?_ (hR:=by simp only[mapTo_zero];(repeat (first|exact Pulls.nil|(apply Pulls.cons;(focus ((repeat (first|exact Pull.here|apply Pull.there));done))))))
 (rintro⟨k,h1⟩ q1 a w F M;(try simp only[zc,zn] at F M q1 ⊢))
 have hml:=mapTo_len (leaveV (epo c s)) s.V k
 by_cases hk:k<s.V.length
 ·obtain ⟨v,hv⟩:∃ v,s.V[k]? = some v:=⟨s.V[k],by simp[hk]⟩
  have hvk:=mapTo_at (leaveV (epo c s)) hv
  have hev:=fun R=>revent_spec b {z with hV:=h1} c R s.bk (epo c s) s.at' _ (by omega) k v 3 hvk
  by_cases hp:v.st=3∧v.ex=epo c s
  ·have e:leaveV (epo c s) v={v with st:=4}:=by unfold leaveV;rw[if_pos hp]
   have hs:=mapTo_step (leaveV (epo c s)) hv
   rw[e] at hs
   obtain ⟨bal,st,slz,rq,ex,wd,dl⟩:=v
   simp only at hp hev hs
   obtain ⟨rfl,hp2⟩:=hp
   rw[show nextF 3 3=4 from rfl,← hs] at hev
   (try refine zI zk152 F M ?_;clear F M a;try clear w);(repeat'(first|refine zA ?_;repeat intro nb|refine zC ?_;refine acK (k:=218) (hev _) ?_;rintro u L' ⟨h2,rfl,rfl⟩|refine zB ?_ ?_<;>intro hc<;>try exact no hc|refine zH ?_ ?_<;>(intro hg;rw[hg];try exact no hg)));all_goals try refine zO fun a w F M=>?_
   exact sv_again F M (k+1,h2) kpA permsA (by simp only;omega) (by simp only;omega)
  ·have e:leaveV (epo c s) v=v:=by unfold leaveV;rw[if_neg hp]
   have hs:=mapTo_same (leaveV (epo c s)) hv e
   rw[← hs] at M
   obtain ⟨bal,st,slz,rq,ex,wd,dl⟩:=v
   simp only at hp
   have hvk2:(mapTo (leaveV (epo c s)) s.V (k+1))[k]? = some ⟨bal,st,slz,rq,ex,wd,dl⟩:=by rw[hs];exact hvk
   have hml2:=mapTo_len (leaveV (epo c s)) s.V (k+1)
   by_cases h3:st=3
   ·subst h3
    have hex:¬ex=epo c s:=fun h=>hp ⟨rfl,h⟩
    (try refine zI zk152 F M ?_;clear F M a;try clear w);(repeat'(first|refine zA ?_;repeat intro nb|refine zC ?_;refine acK (k:=218) (hev _) ?_;rintro u L' ⟨h2,rfl,rfl⟩|refine zB ?_ ?_<;>intro hc<;>try exact no hc|refine zH ?_ ?_<;>(intro hg;rw[hg];try exact no hg)));all_goals try refine zO fun a w F M=>?_
    exact sv_again F M (k+1,h1) kpA permsA (by simp only;omega) (by simp only;omega)
   ·have d3:decide (st=3)=false:=by simpa using h3
    (try refine zI zk152 F M ?_;clear F M a;try clear w);(repeat'(first|refine zA ?_;repeat intro nb|refine zC ?_;refine acK (k:=218) (hev _) ?_;rintro u L' ⟨h2,rfl,rfl⟩|refine zB ?_ ?_<;>intro hc<;>try exact no hc|refine zH ?_ ?_<;>(intro hg;rw[hg];try exact no hg)));all_goals try refine zO fun a w F M=>?_
    try rw[d3]
    (try refine zI zk152 F M ?_;clear F M a;try clear w);(repeat'(first|refine zA ?_;repeat intro nb|refine zC ?_;refine acK (k:=218) (hev _) ?_;rintro u L' ⟨h2,rfl,rfl⟩|refine zB ?_ ?_<;>intro hc<;>try exact no hc|refine zH ?_ ?_<;>(intro hg;rw[hg];try exact no hg)));all_goals try refine zO fun a w F M=>?_
    exact sv_again F M (k+1,h1) kpA permsA (by simp only;omega) (by simp only;omega)
 obtain rfl:k=s.V.length:=by omega
 rw[mapTo_all,hv1] at M hml
 (try refine zI zk152 F M ?_;clear F M a;try clear w);(repeat'(first|refine zA ?_;repeat intro nb|refine zB ?_ ?_<;>intro hc<;>try exact no hc|refine zH ?_ ?_<;>(intro hg;rw[hg];try exact no hg)));all_goals try refine zO fun a w F M=>?_
 refine svLoop F M ((0,h1):Nat × SlH) (fun y=>[(5,.int .i64 y.1)]) (fun y=>[pt b (rfC {z with hV:=y.2} c s.bk (epo c s) s.at') 85,roT valL 7 (sl y.2) (mapTo (ripeV (epo c s)) V1 y.1)]) (fun y=>y.1≤V1.length) (fun y=>V1.length - y.1) [] (Nat.zero_le _) ?_ (hR:=by simp only[mapTo_zero];(repeat (first|exact Pulls.nil|(apply Pulls.cons;(focus ((repeat (first|exact Pull.here|apply Pull.there));done))))))
 (rintro⟨k,h1⟩ q1 a w F M;(try simp only[zc,zn] at F M q1 ⊢))
 have hml:=mapTo_len (ripeV (epo c s)) V1 k
 by_cases hk:k<V1.length
 ·obtain ⟨v,hv⟩:∃ v,V1[k]? = some v:=⟨V1[k],by simp[hk]⟩
  have hvk:=mapTo_at (ripeV (epo c s)) hv
  have hev:=fun R=>revent_spec b {z with hV:=h1} c R s.bk (epo c s) s.at' _ (by omega) k v 4 hvk
  by_cases hp:v.st=4∧v.wd≤epo c s
  ·have e:ripeV (epo c s) v={v with st:=5}:=by unfold ripeV;rw[if_pos hp]
   have hs:=mapTo_step (ripeV (epo c s)) hv
   rw[e] at hs
   obtain ⟨bal,st,slz,rq,ex,wd,dl⟩:=v
   simp only at hp hev hs
   obtain ⟨rfl,hp2⟩:=hp
   rw[show nextF 4 4=5 from rfl,← hs] at hev
   (try refine zI zk152 F M ?_;clear F M a;try clear w);(repeat'(first|refine zA ?_;repeat intro nb|refine zC ?_;refine acK (k:=218) (hev _) ?_;rintro u L' ⟨h2,rfl,rfl⟩|refine zB ?_ ?_<;>intro hc<;>try exact no hc|refine zH ?_ ?_<;>(intro hg;rw[hg];try exact no hg)));all_goals try refine zO fun a w F M=>?_
   exact sv_again F M (k+1,h2) kpA permsA (by simp only;omega) (by simp only;omega)
  ·have e:ripeV (epo c s) v=v:=by unfold ripeV;rw[if_neg hp]
   have hs:=mapTo_same (ripeV (epo c s)) hv e
   rw[← hs] at M
   obtain ⟨bal,st,slz,rq,ex,wd,dl⟩:=v
   simp only at hp
   have hvk2:(mapTo (ripeV (epo c s)) V1 (k+1))[k]? = some ⟨bal,st,slz,rq,ex,wd,dl⟩:=by rw[hs];exact hvk
   have hml2:=mapTo_len (ripeV (epo c s)) V1 (k+1)
   by_cases h3:st=4
   ·subst h3
    have hex:¬wd≤epo c s:=fun h=>hp ⟨rfl,h⟩
    (try refine zI zk152 F M ?_;clear F M a;try clear w);(repeat'(first|refine zA ?_;repeat intro nb|refine zC ?_;refine acK (k:=218) (hev _) ?_;rintro u L' ⟨h2,rfl,rfl⟩|refine zB ?_ ?_<;>intro hc<;>try exact no hc|refine zH ?_ ?_<;>(intro hg;rw[hg];try exact no hg)));all_goals try refine zO fun a w F M=>?_
    exact sv_again F M (k+1,h1) kpA permsA (by simp only;omega) (by simp only;omega)
   ·have d3:decide (st=4)=false:=by simpa using h3
    (try refine zI zk152 F M ?_;clear F M a;try clear w);(repeat'(first|refine zA ?_;repeat intro nb|refine zC ?_;refine acK (k:=218) (hev _) ?_;rintro u L' ⟨h2,rfl,rfl⟩|refine zB ?_ ?_<;>intro hc<;>try exact no hc|refine zH ?_ ?_<;>(intro hg;rw[hg];try exact no hg)));all_goals try refine zO fun a w F M=>?_
    try rw[d3]
    (try refine zI zk152 F M ?_;clear F M a;try clear w);(repeat'(first|refine zA ?_;repeat intro nb|refine zC ?_;refine acK (k:=218) (hev _) ?_;rintro u L' ⟨h2,rfl,rfl⟩|refine zB ?_ ?_<;>intro hc<;>try exact no hc|refine zH ?_ ?_<;>(intro hg;rw[hg];try exact no hg)));all_goals try refine zO fun a w F M=>?_
    exact sv_again F M (k+1,h1) kpA permsA (by simp only;omega) (by simp only;omega)
 obtain rfl:k=V1.length:=by omega
 rw[mapTo_all,hv2] at M hml
 replace M:=M.own_nil 75 3
 (try refine zI zk152 F M ?_;clear F M a;try clear w);(repeat'(first|refine zA ?_;repeat intro nb|refine zC ?_;(first|refine acW (k:=62) (hac _ _ ?_) ?_;exact gsA;rintro u L' ⟨rfl,rfl⟩|refine kpW (k:=219) (hcn _) ?_|refine acW (k:=212) (hb2 _ _ ?_) ?_;exact gsA;rintro u L' ⟨hw,rfl,rfl⟩|refine acK (L1:=rmtA z.mt s.ca::rlnA z.ln (qS c) s.fo s.vo::_) (k:=220) (hst hw _ ?_) ?_;exact gsA;rintro u L' ⟨ha,rfl,rfl⟩)|refine zB ?_ ?_<;>intro hc<;>try exact no hc|refine zH ?_ ?_<;>(intro hg;rw[hg];try exact no hg)));all_goals try refine zO fun a w F M=>?_
 refine svLoop F M ((0,h1,nilH):Nat × SlH × SlH) (fun y=>[(10,.int .i64 y.1),(8,sl y.2.2)]) (fun y=>[pt b (rfC {z with hV:=y.2.1} c s.bk (epo c s) s.at') 85,roT valL 7 (sl y.2.1) (mods (setAsg c (epo c s+1)) V2 (ix.take y.1)),ownT 75 asgL 3 (sl y.2.2) (A.take y.1)]) (fun y=>y.1≤ix.length) (fun y=>ix.length - y.1) [] (Nat.zero_le _) ?_ (hR:=by simp only[List.take_zero,mods,List.foldl_nil];(repeat (first|exact Pulls.nil|(apply Pulls.cons;(focus ((repeat (first|exact Pull.here|apply Pull.there));done))))))
 (rintro⟨k,h1,g1⟩ q1 a w F M;(try simp only[zc,zn] at F M q1 ⊢))
 by_cases hk:k<ix.length
 ·obtain ⟨i,hi⟩:∃ i,ix[k]? = some i:=⟨ix[k],by simp[hk]⟩
  obtain ⟨v,hv,hs3,hx1⟩:=hixs i (List.mem_of_getElem? hi)
  obtain ⟨cl,hAk⟩:=hAt k i hi
  obtain ⟨k1,k2⟩:=mods_step (setAsg c (epo c s+1)) hixn hi hv
  have hgv:=g2.ok i v hv
  have hpa:∀ R,Spec 221 [valV v,.int .i64 (epo c s+1),cfgV c] R fun u L'=>u=.tuple [valV (setAsg c (epo c s+1) v),.int .i64 0].toArray∧L'=R:=fun R=>rasg_spec v (epo c s+1) (by omega) R c (by omega) (by omega) hs3 hx1
  have hml:(mods (setAsg c (epo c s+1)) V2 (ix.take k)).length=V2.length:=mods_len ..
  have hpt:=fun (R:List Asn) hg=>rput_spec (mods (setAsg c (epo c s+1)) V2 (ix.take k)) (sl h1) R hg (by omega) i (setAsg c (epo c s+1) v) v k1
  rw[← k2] at hpt
  have hil:i<V2.length:=by have:=(List.getElem?_eq_some_iff.1 k1).1;omega
  have hAt2:A.take (k+1)=A.take k++[⟨i,cl,epo c s+1⟩]:=by rw[List.take_add_one,hAk];rfl
  have hkA:k<A.length:=by omega
  have htl:(A.take k).length≤4096:=by rw[List.length_take];omega
  clear hgv hv hs3 hx1 k2
  generalize setAsg c (epo c s+1) v=u at *
  obtain ⟨bal,st,slz,rq,ex,wd,dl⟩:=u
  obtain ⟨bal2,st2,slz2,rq2,ex2,wd2,dl2⟩:=v
  ((try(refine zI (⟨List.range 248,(zk152).d,[]⟩) F M ?_;clear F M a;(try clear w)));(repeat'(first|(refine zDL (id:=21) [17,18] [] [(17,[0])] [0,1,2,3,4,5,6,7,8,9,10,11,12,13,14,15,16,17,18] ?_)|with_reducible refine zQo ?_|(refine zA1 ?_;(repeat intro(nb:Nat)))|((refine zC ?_);((first|((refine acW (k:=221) (hpa _) ?_);rintro u L' ⟨rfl,rfl⟩)|(refine acW (k:=146) (hpt _ ?_) ?_;(exact gsA);rintro u L' ⟨h2,rfl,rfl⟩)|(refine ac_appendH (f:=asgL) (xs:=A.take k) (ys:=[⟨i,cl,epo c s+1⟩]) rfl rfl inferInstance rfl rfl pullA inferInstance gsA rfl rfl (by simp;omega) ?_;intro nv))))|(refine zB ?_ ?_<;>intro hc<;>(try exact no hc))|(refine zH ?_ ?_<;>(intro hg;rw[hg];(try exact no hg)))));(all_goals(try refine zO fun a w F M=>?_)))
  all_goals(rw[← hAt2] at M;have M2:=M.roP (v:=sl h2) pullA;exact sv_again F M2 (k+1,h2,nv) kpA permsA (by simp only;omega) (by simp only;omega))
 obtain rfl:k=ix.length:=by omega
 rw[List.take_length,m3,List.take_of_length_le (by omega)] at M
 (try refine zI zk152 F M ?_;clear F M a;try clear w);(repeat'(first|refine zA ?_;repeat intro nb|refine zC ?_;(first|refine acW (k:=212) (hb3 _ _ ?_) ?_;exact gsA;rintro u L' ⟨hw2,rfl,rfl⟩|refine acW (k:=222) (hat hw2 _ ?_ ?_) ?_;exact gsA;exact gsA;rintro u L' ⟨rfl,rfl⟩)|refine zB ?_ ?_<;>intro hc<;>try exact no hc|refine zH ?_ ?_<;>(intro hg;rw[hg];try exact no hg)));all_goals try refine zO fun a w F M=>?_
 refine svLoop F M ((0,h1):Nat × SlH) (fun y=>[(14,.int .i64 y.1)]) (fun y=>[pt b (rfC {z with hV:=y.2} c s.bk (epo c s) s.at') 85,roT valL 7 (sl y.2) (mods actV V3 (s.pe.take y.1))]) (fun y=>y.1≤n) (fun y=>n - y.1) [] (Nat.zero_le _) ?_ (hR:=by simp only[List.take_zero,mods,List.foldl_nil];(repeat (first|exact Pulls.nil|(apply Pulls.cons;(focus ((repeat (first|exact Pull.here|apply Pull.there));done))))))
 (rintro⟨k,h1⟩ q1 a w F M;(try simp only[zc,zn] at F M q1 ⊢))
 by_cases hk:k<n
 ·obtain ⟨i,hi⟩:∃ i,s.pe[k]? = some i:=⟨s.pe[k]'(by omega),by rw[List.getElem?_eq_getElem]⟩
  obtain ⟨v,hv,hs1⟩:=p1 i (List.mem_of_getElem? hi)
  obtain ⟨k1,k2⟩:=mods_step actV pn hi hv
  have hev:=fun R=>revent_spec b {z with hV:=h1} c R s.bk (epo c s) s.at' _ (by rw[mods_len];omega) i v 1 k1
  have e:{v with st:=nextF v.st 1} = actV v:=by rw[hs1];rfl
  have hil:i<V3.length:=by have:=(List.getElem?_eq_some_iff.1 k1).1;rw[mods_len] at this;exact this
  rw[e,← k2] at hev
  (try refine zI zk152 F M ?_;clear F M a;try clear w);(repeat'(first|refine zA ?_;repeat intro nb|refine zC ?_;refine acK (k:=218) (hev _) ?_;rintro u L' ⟨h2,rfl,rfl⟩|refine zB ?_ ?_<;>intro hc<;>try exact no hc|refine zH ?_ ?_<;>(intro hg;rw[hg];try exact no hg)));all_goals try refine zO fun a w F M=>?_
  exact sv_again F M (k+1,h2) kpA permsA (by simp only;omega) (by simp only;omega)
 obtain rfl:n=k:=by omega
 rw[m4] at M
 (try refine zI zk152 F M ?_;clear F M a;try clear w);(repeat'(first|refine zV (h:=⟨_,by((first|(exact rt_from (h:=z.hP) (k:=.i64) (j:=n) rfl rfl rfl inferInstance (by omega))|(exact rt_from (h:=z.hM) (k:=.i64) (j:=m) rfl rfl rfl inferInstance (by omega))|(exact rt_min2 rfl rfl e2))),?_⟩)|refine zA1 ?_;repeat intro(nb:Nat)|refine zC ?_;refine acW (k:=223) (hms h1 _ ?_ ?_) ?_;exact gsA;exact gsA;rintro u L' ⟨h3,v3,rfl,rfl⟩|refine zB ?_ ?_<;>intro hc<;>try exact no hc|refine zH ?_ ?_<;>(intro hg;rw[hg];try exact no hg)));all_goals try refine zO fun a w F M=>?_
 all_goals refine zE F M ?_
 all_goals have M2:=M.roP (v:=sl h3) pullA
 all_goals have M3:=Mem.roFrom (f:=natL) (k:=1) (h:=z.hP) (xs:=s.pe) inferInstance (M2.pull pullA) (j:=n) (by omega)
 all_goals have M4:=Mem.roFrom (f:=prL) (k:=2) (h:=z.hM) (xs:=s.me) inferInstance (M3.pull pullA) (j:=m) (by omega)
 all_goals exact⟨_,_,rfl,⟨g1,{z with hV:=h3,hP:=fromH z.hP n 1,hM:=fromH z.hM m 2},rfl,rfl⟩,M4.perms permsA⟩
theorem rboundary_spec (hc:CfOk c) (h:Inv c s) (hb:s.bk<1000000000) (hz:((s.bk+1:Nat):Int) % c.epochLen=0) (he1:epo c s=epo c {s with bk:=s.bk+1} - 1) :
  Spec 152 [ptr b] (refL b z c {s with bk:=s.bk+1} R) fun u L'=>∃ ha z',u=sl ha∧L'=ownT 75 asgL 3 (sl ha) (boundM c {s with bk:=s.bk+1}).ag::refL b z' c (boundM c {s with bk:=s.bk+1}).s R:=by
 obtain ⟨e,V1,V2,V3,V4,V5,ch,T,n,E2,f⟩:=bdF_of hc h hb hz
 obtain rfl:epo c {s with bk:=s.bk+1} = e:=f.hep
 have q1:=lv_map hc h he1
 have q2:=rp_map hc h he1
 have q3:=f.m1
 have q4:=f.m2
 simp only at q3 q4
 rw[q1] at q3
 rw[← q3,q2] at q4
 exact rbwalk b z c R _ hc f q3 (by rw[← q3];exact q4)
end
end
section
open Go.RowKit
section
variable {Q:Exit→Act→World→Prop} {a:Act} {w:World} {n:Nat} {l:List (Nat × Value)} {L:List Asn}
theorem svJoin {x y:Code} {σ:Type} (F:Fr a n l) (M:Mem w L) (s0:σ) (dl:σ→List (Nat × Value)) (dL0:List Asn) (dL:σ→List Asn) (Pf:σ→Prop) (fg:List Nat) {st:List (Nat × Value)} {R:List Asn}
  (h1:Fr a n l→Mem w L→x.wp Tryz.prog (Exit.then (fun a' w'=>∃ s,Fr a' n (dl s++st)∧Mem w' (dL s++R)∧Pf s) Q) a w)
  (h2:∀ s,Pf s→∀ a w,Fr a n (dl s++st)→Mem w (dL s++R)→y.wp Tryz.prog Q a w)
  (hs:restO (fg++slotsL (dl s0)) l=some st:=by exact rfl) (hR:Pulls L dL0 R:=by(first|(focus ((repeat (first|exact Pulls.nil|(apply Pulls.cons;(focus ((repeat (first|exact Pull.here|apply Pull.there));done)))));done))|fail)):(Code.seq x y).wp Tryz.prog Q a w :=
 wp_seq (wp_mono (h1 F M) fun e a w h=>by
  cases e with
  | normal=>obtain ⟨s,k1,k2,k3⟩:=h;exact h2 s k3 a w k1 k2
  | _=>exact h)
theorem svMeet {σ:Type} {lf:σ→List (Nat × Value)} {Lf:σ→List Asn} {Pf:σ→Prop} (F:Fr a n l) (M:Mem w L) (s':σ) (h0:∀ p∈lf s',look l p.1=some p.2) (hL:Perms L (Lf s')) (hP:Pf s') :
  ∃ s',Fr a n (lf s')∧Mem w (Lf s')∧Pf s':=⟨s',F.keep h0,M.perms hL,hP⟩
end
end
end Go.Proofs.YtjbfcacmdahnhaaGreat
