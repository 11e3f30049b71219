import Derived.Test.YtjbfcacmdahnhaaGreatZty
set_option linter.unusedVariables false
set_option linter.unusedSimpArgs false
set_option linter.unusedSectionVars false
set_option maxRecDepth 100000
set_option maxHeartbeats 8000000
namespace Go.Proofs.YtjbfcacmdahnhaaGreat
section
open Go.RowKit
theorem start_TopFifo (w:World) (ks:Array Value) (hk:HasSh w cfgSh ks.toList) (v:Value) (hv:HasSh w (.slice 4 oprSh) [v]):Calls Tryz.prog 4 #[.agg ks,v] w fun e w'=>e=.returned (.bool true)∧Below w.heap.size w w':=by
 obtain ⟨c,rfl,h0,h1⟩:=cfg_ops hk
 obtain ⟨l,gl,hl⟩:=ops_sh hv
 exact law_old (us:=[cfgV c,v]) (tfifo_law c v l [Old w] gl h0 h1 hl)
end
section
open Go.RowKit
def upW (W:List Int):List Nat→Nat→Int
 | [],_=>0
 | j::r,i=>wAt W j+if j=i then 0 else upW W r i
theorem upW_mono {W W':List Int}:∀ (Q:List Nat) (i:Nat),(∀ j∈Q,wAt W' j≤wAt W j)→upW W' Q i≤upW W Q i
 | [],i,_=>Int.le_refl _
 | j::r,i,h=>by
  have h1:=h j (by simp)
  have h2:=upW_mono r i fun k hk=>h k (by simp[hk])
  simp only[upW]
  split<;>omega
theorem upW_nn {W:List Int}:∀ (Q:List Nat) (i:Nat),(∀ j,0≤wAt W j)→0≤upW W Q i
 | [],i,_=>Int.le_refl _
 | j::r,i,h=>by
  have h1:=h j
  have h2:=upW_nn r i h
  simp only[upW]
  split<;>omega
theorem upW_ins {W:List Int} {n:Nat} (hn:0≤wAt W n):∀ (a b:List Nat) (i:Nat),upW W (a++n::b) i≤upW W (a++b) i+wAt W n∨i=n
 | [],b,i=>by
  by_cases h:n=i
  ·exact .inr h.symm
  ·simp only[List.nil_append,upW,if_neg h];exact .inl (by omega)
 | j::r,b,i=>by
  rcases upW_ins hn r b i with h|h
  ·simp only[List.cons_append,upW]
   split
   ·exact .inl (by omega)
   ·exact .inl (by omega)
  ·exact .inr h
theorem upW_app {W:List Int}:∀ (A B:List Nat) (i:Nat),upW W (A++B) i=if i∈A then upW W A i else (A.map (wAt W)).sum+upW W B i
 | [],B,i=>by simp
 | j::r,B,i=>by
  simp only[List.cons_append,upW,upW_app r B i,List.mem_cons,List.map_cons,List.sum_cons]
  by_cases h:j=i
  ·subst h;simp
  ·have h':¬i=j:=fun e=>h e.symm
   simp only[h,h',if_false,false_or]
   split<;>omega
theorem upW_head {W:List Int} {h:Nat} {r:List Nat} (i:Nat) (h0:∀ j,0≤wAt W j):wAt W h≤upW W (h::r) i:=by
 have:=upW_nn r i h0
 simp only[upW]
 split<;>omega
theorem takeW_sum (W:List Int):∀ (l:List Nat) (x:Int),(takeW W x l).2=x - ((l.take (takeW W x l).1).map (wAt W)).sum
 | [],x=>by simp[takeW]
 | i::r,x=>by
  rw[takeW]
  split
  ·have:=takeW_sum W r (x - wAt W i)
   simp only[List.take_succ_cons,List.map_cons,List.sum_cons];omega
  ·simp
theorem takeW_stop (W:List Int):∀ (l:List Nat) (x:Int),(takeW W x l).1<l.length→∃ h r,l.drop (takeW W x l).1=h::r∧(takeW W x l).2<wAt W h
 | [],x,h=>by simp[takeW] at h
 | i::r,x,h=>by
  rw[takeW] at h ⊢
  split
  ·rename_i hw
   rw[if_pos hw] at h
   exact takeW_stop W r (x - wAt W i) (by simp only[List.length_cons] at h;omega)
  ·rename_i hw
   exact⟨i,r,rfl,by simp only;omega⟩
theorem wAt_nn {V:List Val} (h:∀ x∈bals V,0≤x) (j:Nat):0≤wAt (bals V) j:=by
 unfold wAt
 rw[List.getD_eq_getElem?_getD]
 cases hb:(bals V)[j]? with
 | none=>simp
 | some y=>simpa using h y (List.mem_of_getElem? hb)
theorem wAt_get {V:List Val} {j:Nat} {v:Val} (h:V[j]? = some v):wAt (bals V) j=v.bal:=by
 unfold wAt
 rw[List.getD_eq_getElem?_getD,bals_get h];rfl
theorem mers_v (c:Cfg):∀ (l:List (Nat × Nat)) (V:List Val) (i:Nat) (v:Val),V[i]? = some v→∃ v',(l.foldl (merV c) V)[i]? = some v'∧v'.ex=v.ex∧v'.sl=v.sl∧v'.rq=v.rq∧v'.wd=v.wd∧(v.st≠2→v'=v)∧(v.st=2→v'.st=2∨v'.st=7)
 | [],V,i,v,h=>⟨v,h,rfl,rfl,rfl,rfl,fun _=>rfl,fun h=>.inl h⟩
 | p::l,V,i,v,h=>by
  have h1:∃ v1,(merV c V p)[i]? = some v1∧v1.ex=v.ex∧v1.sl=v.sl∧v1.rq=v.rq∧v1.wd=v.wd∧(v.st≠2→v1=v)∧(v.st=2→v1.st=2∨v1.st=7):=by
   unfold merV
   split
   rotate_left
   ·exact⟨v,h,rfl,rfl,rfl,rfl,fun _=>rfl,fun h=>.inl h⟩
   rename_i h0
   obtain ⟨a,b,_,_,hij,ha,hb,sa,sb,_⟩:=merR_zero h0
   simp only[Int.toNat_natCast] at ha hb
   rw[List.getElem?_modify,List.getElem?_modify,h]
   by_cases h1:p.1=i
   ·subst h1
    rw[ha] at h
    obtain rfl:=Option.some.inj h
    have h2:¬p.2=p.1:=fun e=>hij (by rw[e])
    simp only[h2,if_false,if_true,Option.map_some,Option.map_id_fun,id]
    exact⟨_,rfl,rfl,rfl,rfl,rfl,fun k=>absurd sa k,fun _=>.inr rfl⟩
   ·by_cases h2:p.2=i
    ·subst h2
     rw[hb] at h
     obtain rfl:=Option.some.inj h
     simp only[h1,if_false,if_true,Option.map_some,Option.map_id_fun,id]
     exact⟨_,rfl,rfl,rfl,rfl,rfl,fun k=>absurd sb k,fun k=>.inl k⟩
    ·simp only[h1,h2,if_false,Option.map_some,Option.map_id_fun,id]
     exact⟨_,rfl,rfl,rfl,rfl,rfl,fun _=>rfl,fun k=>.inl k⟩
  obtain ⟨v1,k1,e1,e2,e3,e4,e5,e6⟩:=h1
  obtain ⟨v2,k2,f1,f2,f3,f4,f5,f6⟩:=mers_v c l _ i v1 k1
  refine⟨v2,k2,f1.trans e1,f2.trans e2,f3.trans e3,f4.trans e4,fun k=>?_,fun k=>?_⟩
  ·have:=e5 k
   rw[f5 (by rw[this];exact k),this]
  ·rcases e6 k with h|h
   ·exact f6 h
   ·exact .inr (by rw[f5 (by omega)];exact h)
structure BdV (c:Cfg) (e:Int) (tk:Prop) [Decidable tk] (v v':Val):Prop where
 ex:v'.ex=if tk then e+1 else v.ex
 rq:v'.rq=v.rq
 sl:v'.sl=v.sl
 wd:v'.wd=if tk then max v.wd (e+1+c.unbonding) else v.wd
 st:3≤v.st∧v.st≤6→v'.st=(gV e v).st∧v'.bal=v.bal
 no:v.st<3∨v.st=7→v'.st<3∨v'.st=7
structure BdW (c:Cfg) (s s':St) (ag:List Asg) (e:Int) (t:Nat) (ch:Int):Prop where
 eE:e=epo c {s with bk:=s.bk+1}
 e1:1≤e
 e0:epo c s=e - 1
 agE:ag=asgs (e+1) s.fo s.vo t
 fo:s'.fo=s.fo.drop t
 vo:s'.vo=s.vo.drop (t - s.fo.length)
 bk:s'.bk=s.bk+1
 at':s'.at'=s.at'
 chE:c.minChurn≤ch∧ch≤1152921504606846976
 tE:t=(takeW (bals s.V) (granted s.ca ch) (s.fo++s.vo)).1
 ca:s'.ca=if t=(s.fo++s.vo).length then 0 else (takeW (bals s.V) (granted s.ca ch) (s.fo++s.vo)).2
 len:s'.V.length=s.V.length
 old:∀ (i:Nat) v,s.V[i]? = some v→VOk c (e - 1) v
 w:∀ i∈s.fo++s.vo,∃ v,s.V[i]? = some v∧v.st=3∧v.ex = -1
 v:∀ (i:Nat) v,s.V[i]? = some v→∃ v',s'.V[i]? = some v'∧BdV c e (i∈(s.fo++s.vo).take t) v v'
theorem bound_w {c:Cfg} (hc:CfOk c) {s:St} (h:Inv c s) (hb:s.bk<1000000000) (hz:((s.bk+1:Nat):Int) % c.epochLen=0):∃ e t ch,BdW c s (boundM c {s with bk:=s.bk+1}).s (boundM c {s with bk:=s.bk+1}).ag e t ch:=by
 obtain ⟨e,V2,V3,V4,t,n,he,he1,hV2,hV3,hV4,k1,k2,k3,k4,hval,hw,hp,k5,k6⟩:=bound_parts hc h hb hz
 have hnd:((s.fo++s.vo).take t).Nodup:=h.ex.nd.sublist (List.take_sublist _ _)
 have hep:=epo_next hc hz
 have hb2:bals V2=bals s.V:=by rw[hV2];exact bals_map (gV_bal e) _
 have hb0:∀ x∈bals V2,0≤x:=by rw[hb2];exact h.bal0
 have hact:=actv_le V2 hb0
 rw[hb2] at hact
 have hsup:=h.sup
 have hsc:=hc.sc;have hmc:=hc.mc;have hqu:=hc.qu
 obtain ⟨hact0,hact⟩:=hact
 have hch:c.minChurn≤churn c V2∧churn c V2≤1152921504606846976:=by
  have:actv V2 / c.quotient≤actv V2:=Int.ediv_le_self _ hact0
  unfold churn;omega
 have hlen:(boundM c {s with bk:=s.bk+1}).s.V.length=s.V.length:=by
  rw[k1,mers_len,hV4,mods_len,hV3,mods_len,hV2,List.length_map]
 refine⟨e,t,churn c V2,he,he1,by omega,k2,k3,k4,rfl,rfl,hch,k5,k6,hlen,hval,fun i hi=>?_,fun i v hv=>?_⟩
 ·exact(h.ex.mem i).1 hi
 rw[k1]
 have g2:V2[i]? = some (gV e v):=by rw[hV2,List.getElem?_map,hv];rfl
 obtain ⟨w1,w2,w3,w4,w5⟩:=gV_wd e v
 have wb:=gV_bal e v
 have wc:=gV_cases hc he1 (hval i v hv)
 have hst:=(hval i v hv).st
 obtain ⟨u2,hu2⟩:∃ u2,u2=gV e v:=⟨_,rfl⟩
 rw[← hu2] at g2 w1 w2 w3 w4 w5 wb wc
 have g3:∃ u,V3[i]? = some u∧u.rq=v.rq∧u.sl=v.sl∧u.bal=v.bal∧u.st=u2.st∧u.ex=(if i∈(s.fo++s.vo).take t then e+1 else v.ex)∧u.wd=if i∈(s.fo++s.vo).take t then max v.wd (e+1+c.unbonding) else v.wd:=by
  rw[hV3,mods_get _ _ _ _ hnd,g2]
  split
  ·exact⟨_,rfl,w3,w5,wb,rfl,rfl,by simp only[setAsg,w1]⟩
  ·exact⟨_,rfl,w3,w5,wb,rfl,w2,w1⟩
 obtain ⟨u,hu,f1,f2,f3,f4,f5,f6⟩:=g3
 have g4:∃ u',V4[i]? = some u'∧u'.rq=v.rq∧u'.sl=v.sl∧u'.bal=v.bal∧u'.ex=u.ex∧u'.wd=u.wd∧(u'.st=u.st∨u.st=1∧u'.st=2):=by
  rw[hV4,mods_get _ _ _ _ (h.pe.nd.sublist (List.take_sublist _ _)),hu]
  split
  ·rename_i hi
   obtain ⟨x,hx,hx1⟩:=hp i hi
   rw[hu] at hx
   obtain rfl:=Option.some.inj hx
   exact⟨_,rfl,f1,f2,f3,rfl,rfl,.inr ⟨hx1,rfl⟩⟩
  ·exact⟨_,rfl,f1,f2,f3,rfl,rfl,.inl rfl⟩
 obtain ⟨u',hu',p1,p2,p3,p4,p5,p6⟩:=g4
 obtain ⟨u5,hu5,q1,q2,q3,q4,q5,q6⟩:=mers_v c (s.me.take c.merges.toNat) V4 i u' hu'
 refine⟨u5,hu5,by rw[q1,p4,f5],by rw[q3,p1],by rw[q2,p2],by rw[q4,p5,f6],fun k=>?_,fun k=>?_⟩
 ·have:=q5 (by omega)
  rw[this,← hu2]
  exact⟨by omega,p3⟩
 ·by_cases h2:u'.st=2
  ·have:=q6 h2;omega
  ·rw[q5 h2];omega
end
section
open Go.RowKit
structure Pr where
 ix:Nat
 dl:Int
 la:Int
 asd:Bool
def kD (c:Cfg) (A:Int):Int:=max (ceilD (A+c.forcedCap) c.minChurn) 1
structure PrA (c:Cfg) (s:St) (q:HS) (p:Pr) (v:Val) (A:Int):Prop where
 hv:s.V[p.ix]? = some v
 st:3≤v.st∧v.st≤6
 dl:(getR p.ix q.recs).ex.dl=p.dl
 eq:p.dl=v.rq+kD c A+1+c.unbonding+swpB c
 la:0≤p.la
 asd:p.asd=decide (v.ex≠-1)
 wt:v.ex = -1→c.minChurn*(epo c s - v.rq)+upW (bals s.V) (s.fo++s.vo) p.ix≤A+p.la+s.ca∧(p.la≤c.forcedCap→epo c s - v.rq≤kD c A - 1)
 as':v.ex≠-1→p.la≤c.forcedCap→v.ex≤v.rq+kD c A+1
theorem kD_of {c:Cfg} (hc:CfOk c) {A b:Int} (h:c.minChurn*b<A+c.forcedCap):b≤kD c A - 1:=by
 have hm:=hc.mc
 have h1:b+1≤ceilD (A+c.forcedCap) c.minChurn:=by
  unfold ceilD
  rw[Int.le_ediv_iff_mul_le (by omega),Int.add_mul,Int.mul_comm b];omega
 have:=Int.le_max_left (ceilD (A+c.forcedCap) c.minChurn) 1
 unfold kD;omega
theorem PrA.keep {c:Cfg} {s s':St} {q q':HS} {p p':Pr} {v v':Val} {A:Int} (h:PrA c s q p v A) (hix:p'.ix=p.ix) (hdl:p'.dl=p.dl) (hasd:p'.asd=p.asd) (hla:p.la≤p'.la) (hv:s'.V[p.ix]? = some v') (e1:v'.ex=v.ex) (e2:v'.rq=v.rq) (e3:3≤v'.st∧v'.st≤6) (hd:(getR p.ix q'.recs).ex.dl=(getR p.ix q.recs).ex.dl) (he:epo c s'=epo c s) (hca:s'.ca=s.ca) (hw:v.ex = -1→upW (bals s'.V) (s'.fo++s'.vo) p.ix≤upW (bals s.V) (s.fo++s.vo) p.ix+(p'.la - p.la)):PrA c s' q' p' v' A:=by
 refine⟨by rw[hix];exact hv,e3,by rw[hix,hd,hdl];exact h.dl,by rw[hdl,e2];exact h.eq,by have:=h.la;omega,by rw[hasd,e1];exact h.asd,fun k=>?_,fun k kl=>?_⟩
 ·rw[e1] at k
  obtain ⟨w1,w2⟩:=h.wt k
  have:=hw k
  rw[he,e2,hca,hix]
  exact⟨by omega,fun kl=>w2 (by omega)⟩
 ·rw[e1] at k ⊢
  rw[e2]
  exact h.as' k (by omega)
theorem PrA.bound {c:Cfg} (hc:CfOk c) {s s':St} {q q':HS} {ag:List Asg} {e:Int} {t:Nat} {ch:Int} (h0:Inv c s) (hca:s.ca≤1152921504606846976) (hB:BdW c s s' ag e t ch) {p:Pr} {v:Val} {A:Int} (h:PrA c s q p v A) (hd:(getR p.ix q'.recs).ex.dl=(getR p.ix q.recs).ex.dl):∃ v',PrA c s' q' {p with asd:=p.asd || decide (p.ix∈(s.fo++s.vo).take t)} v' A:=by
 obtain ⟨v',hv',b⟩:=hB.v _ _ h.hv
 have hes:epo c s'=e:=by unfold epo;rw[hB.bk];exact hB.eE.symm
 have he0:=hB.e0
 have hst:=h.st
 have hvo:=hB.old _ _ h.hv
 obtain ⟨b1,b2⟩:=b.st hst
 have hgc:=gV_cases hc hB.e1 hvo
 have hbex:=b.ex;have hbrq:=b.rq;have hbsl:=b.sl;have hbwd:=b.wd
 refine⟨v',hv',by omega,by rw[hd];exact h.dl,by rw[hbrq];exact h.eq,h.la,?_,fun k=>?_,fun k kl=>?_⟩
 ·have ha:=h.asd
  have h1:=hB.e1
  simp only
  rw[ha,hbex]
  by_cases hi:p.ix∈(s.fo++s.vo).take t
  ·simp only[hi,if_true,decide_true,Bool.or_true]
   rw[eq_comm,decide_eq_true_eq];omega
  ·simp only[hi,if_false,decide_false,Bool.or_false]
 ·
  have h1:=hB.e1
  by_cases hi:p.ix∈(s.fo++s.vo).take t
  ·rw[if_pos hi] at hbex;omega
  rw[if_neg hi] at hbex
  have kx:v.ex = -1:=by rw[← hbex];exact k
  have hs3:v.st=3:=by have:=hvo.e4;omega
  have hQ:p.ix∈s.fo++s.vo:=(h0.ex.mem p.ix).2 ⟨v,h.hv,hs3,kx⟩
  obtain ⟨w1,w2⟩:=h.wt kx
  have hQ':s'.fo++s'.vo=(s.fo++s.vo).drop t:=by rw[hB.fo,hB.vo,List.drop_append]
  have hnd:(List.take t (s.fo++s.vo)++List.drop t (s.fo++s.vo)).Nodup:=by rw[List.take_append_drop];exact h0.ex.nd
  have hdis:∀ j∈(s.fo++s.vo).drop t,j∉(s.fo++s.vo).take t:=fun j h1 h2=>(List.nodup_append.1 hnd).2.2 j h2 j h1 rfl
  have hid:p.ix∈(s.fo++s.vo).drop t:=by
   rw[← List.take_append_drop t (s.fo++s.vo)] at hQ
   exact(List.mem_append.1 hQ).resolve_left hi
  have hW:∀ j∈(s.fo++s.vo).drop t,wAt (bals s'.V) j=wAt (bals s.V) j:=fun j hj=>by
   obtain ⟨u,hu,hu3,_⟩:=hB.w j (List.mem_of_mem_drop hj)
   obtain ⟨u',hu',b'⟩:=hB.v j u hu
   rw[wAt_get hu,wAt_get hu',(b'.st (by omega)).2]
  have e1:upW (bals s'.V) ((s.fo++s.vo).drop t) p.ix=upW (bals s.V) ((s.fo++s.vo).drop t) p.ix:=Int.le_antisymm (upW_mono _ _ fun j hj=>Int.le_of_eq (hW j hj)) (upW_mono _ _ fun j hj=>Int.le_of_eq (hW j hj).symm)
  have e2:=upW_app (W:=bals s.V) ((s.fo++s.vo).take t) ((s.fo++s.vo).drop t) p.ix
  rw[List.take_append_drop,if_neg hi] at e2
  have hlt:t<(s.fo++s.vo).length:=by
   have:=List.length_pos_of_mem hid
   rw[List.length_drop] at this;omega
  have hsum:=takeW_sum (bals s.V) (s.fo++s.vo) (granted s.ca ch)
  have hstop:=takeW_stop (bals s.V) (s.fo++s.vo) (granted s.ca ch)
  have hca':=hB.ca
  rw[if_neg (by omega)] at hca'
  rw[← hB.tE] at hsum hstop
  rw[← hca'] at hsum hstop
  obtain ⟨hh,r,hdr,hlt2⟩:=hstop hlt
  have hhd:wAt (bals s.V) hh≤upW (bals s.V) ((s.fo++s.vo).drop t) p.ix:=by rw[hdr];exact upW_head _ (wAt_nn h0.bal0)
  have hgr:granted s.ca ch=s.ca+ch:=by
   have hch:=hB.chE;have:=h0.ca
   unfold granted
   omega
  rw[hgr] at hsum
  have hch:=hB.chE.1
  have hmul:c.minChurn*(e - v.rq)=c.minChurn*(epo c s - v.rq)+c.minChurn:=by
   rw[he0,show e - v.rq=(e - 1 - v.rq)+1 by omega,Int.mul_add,Int.mul_one]
  have key:c.minChurn*(epo c s' - v'.rq)+upW (bals s'.V) (s'.fo++s'.vo) p.ix≤A+p.la+s'.ca:=by
   rw[hes,hbrq,hQ',e1,hmul];omega
  refine⟨key,fun kl=>?_⟩
  refine kD_of hc ?_
  rw[hQ',e1] at key
  simp only at kl
  omega
 ·simp only at kl
  by_cases hi:p.ix∈(s.fo++s.vo).take t
  ·rw[if_pos hi] at hbex
   obtain ⟨u,hu,_,hux⟩:=hB.w _ (List.mem_of_mem_take hi)
   rw[h.hv] at hu
   obtain rfl:=Option.some.inj hu
   have:=(h.wt hux).2 kl
   rw[hbrq];omega
  ·rw[if_neg hi] at hbex
   rw[hbrq,hbex]
   exact h.as' (by rw[← hbex];exact k) kl
theorem pars_le {c:Cfg} (hm:1≤c.minBalance):∀ (l:List (Nat × Int)) (Z:List Val × List Pm),(∀ r∈l,0≤r.2)→(∀ (i:Nat) v,Z.1[i]? = some v→0≤v.bal)→∀ (i:Nat) v,Z.1[i]? = some v→∃ v',(l.foldl (parV c) Z).1[i]? = some v'∧v'.bal≤v.bal∧0≤v'.bal
 | [],Z,_,h0,i,v,hv=>⟨v,hv,Int.le_refl _,h0 i v hv⟩
 | r::l,Z,hr,h0,i,v,hv=>by
  have h1:∀ (i:Nat) v,Z.1[i]? = some v→∃ v',(parV c Z r).1[i]? = some v'∧v'.bal≤v.bal∧0≤v'.bal:=fun i v hv=>by
   have hb:=h0 i v hv
   unfold parV
   cases hu:Z.1[r.1]? with
   | none=>exact⟨v,hv,Int.le_refl _,hb⟩
   | some u =>
    simp only
    rw[set_get hu]
    by_cases hi:i=r.1
    ·rw[if_pos hi]
     rw[hi,hu] at hv
     obtain rfl:=Option.some.inj hv
     obtain ⟨k1,k2,_⟩:=availV_range (c:=c) u hb hm
     have:=hr r (by simp)
     refine⟨_,rfl,?_,?_⟩
     ·simp only;omega
     ·simp only;omega
    ·rw[if_neg hi];exact⟨v,hv,Int.le_refl _,hb⟩
  obtain ⟨v1,k1,k2,k3⟩:=h1 i v hv
  obtain ⟨v2,m1,m2,m3⟩:=pars_le hm l (parV c Z r) (fun x hx=>hr x (by simp[hx])) (fun j u hu=>by
   by_cases hj:j<Z.1.length
   ·obtain ⟨u',n1,_,n3⟩:=h1 j _ (List.getElem?_eq_getElem hj)
    rw[hu] at n1
    obtain rfl:=Option.some.inj n1
    exact n3
   ·have:=(List.getElem?_eq_some_iff.1 hu).1
    rw[parV_len] at this;omega) i v1 k1
  exact⟨v2,m1,by omega,m3⟩
structure PyV (v v':Val):Prop where
 ex:v'.ex=v.ex
 rq:v'.rq=v.rq
 sl:v'.sl=v.sl
 wd:v'.wd=v.wd
 st:v'.st=v.st∨v.st=5∧v'.st=6
 bal:v'.bal≤v.bal
def dist (n:Int) (a i:Nat):Int:=if a≤i then (i:Int) - a else n - a+i
theorem sweep_dist {V:List Val} {pays:Nat} {n:Int} (hn:(V.length:Int)≤n) {i:Nat} (hi:i<V.length) (h5:(V.getD i Val.zero).st=5):∀ (k a:Nat) (l:List Nat),a<V.length→i∈(sweepGo V pays k a l).1∨dist n (sweepGo V pays k a l).2.2 i+(sweepGo V pays k a l).2.1≤dist n a i
 | 0,a,l,ha=>.inr (by simp[sweepGo])
 | k+1,a,l,ha=>by
  rw[sweepGo]
  split
  ·exact .inr (by simp)
  ·rw[Nat.mod_eq_of_lt ha]
   simp only
   by_cases hai:a=i
   ·subst hai
    rw[if_pos h5]
    obtain ⟨m,h1,_⟩:=sweepGo_spec V pays k ((a+1) % V.length) (l++[a])
    exact .inl (by rw[h1];simp)
   ·have hlt:(a+1) % V.length<V.length:=Nat.mod_lt _ (by omega)
    have hd:dist n ((a+1) % V.length) i+1≤dist n a i:=by
     unfold dist
     by_cases hw:a+1<V.length
     ·rw[Nat.mod_eq_of_lt hw]
      split<;>split<;>omega
     ·have e:a+1=V.length:=by omega
      rw[e,Nat.mod_self]
      split<;>split<;>omega
    rcases sweep_dist hn hi h5 k ((a+1) % V.length) (if (V.getD a Val.zero).st=5 then l++[a] else l) hlt with h|h
    ·exact .inl h
    ·exact .inr (by simp only[Int.natCast_add];omega)
theorem sweep_count {V:List Val} {pays:Nat}:∀ (k a:Nat) (l:List Nat),(sweepGo V pays k a l).2.1=k∨pays≤l.length+(sweepGo V pays k a l).2.1∨pays<l.length
 | 0,a,l=>.inl rfl
 | k+1,a,l=>by
  rw[sweepGo]
  split
  ·exact .inr (.inl (by simp only;omega))
  ·rename_i hl
   simp only
   by_cases h5:(V.getD (a % V.length) Val.zero).st=5
   ·rw[if_pos h5]
    rcases sweep_count (V:=V) (pays:=pays) k ((a % V.length+1) % V.length) (l++[a % V.length]) with h|h|h
    ·exact .inl (by omega)
    ·exact .inr (.inl (by simp only[List.length_append,List.length_singleton] at h;omega))
    ·exact .inr (.inr (by simp only[List.length_append,List.length_singleton] at h;omega))
   ·rw[if_neg h5]
    rcases sweep_count (V:=V) (pays:=pays) k ((a % V.length+1) % V.length) l with h|h|h
    ·exact .inl (by omega)
    ·exact .inr (.inl (by omega))
    ·exact .inr (.inr h)
def mW (c:Cfg):Int:=min (c.visits - c.partials) (c.payments - c.partials)
structure PyW (c:Cfg) (s s':St):Prop where
 fo:s'.fo=s.fo
 vo:s'.vo=s.vo
 ca:s'.ca=s.ca
 bk:s'.bk=s.bk
 v:∀ (i:Nat) v,s.V[i]? = some v→∃ v',s'.V[i]? = some v'∧PyV v v'∧(v'.st=5→dist c.capacity s'.at' i+mW c≤dist c.capacity s.at' i)
theorem pay_w {c:Cfg} (hc:CfOk c) {s:St} (h:Inv c s):PyW c s (payM c s).s:=by
 have hpa:=hc.pa;have hvi:=hc.vi;have hpy:=hc.py;have hmb:=hc.mb
 have hcap:=h.cap
 obtain ⟨_,l,hP⟩:=payM_inv hc h
 refine⟨rfl,rfl,rfl,rfl,fun i v hv=>?_⟩
 obtain ⟨qq,hq⟩:∃ qq,s.pa.take c.partials.toNat=qq:=⟨_,rfl⟩
 have hql:qq.length≤c.partials.toNat:=by rw[← hq,List.length_take];omega
 have hqr:∀ r∈qq,r.1<s.V.length∧1≤r.2:=fun r hr=>by
  have:=h.pa r (List.mem_of_mem_take (hq ▸ hr));omega
 obtain ⟨hl,hst⟩:=pars_still c qq (s.V,[])
 obtain ⟨_,_,_,_,hz2,_⟩:=Vs.pars hc qq (Z:=(s.V,[])) (m:=s.V.length) ⟨rfl,h.val,h.sum,h.pe,h.ex,h.lv,h.bo⟩ hqr
 simp only[List.length_nil,Nat.zero_add] at hz2
 have hle:=pars_le (c:=c) hmb.1 qq (s.V,[]) (fun r hr=>by have:=(hqr r hr).2;omega) (fun j u hu=>(h.val j u hu).b)
 have hPV:=hP.V;have hPn:=hP.nd;have hS5:=hP.st
 have hat:(payM c s).s.at'=(sweepGo (qq.foldl (parV c) (s.V,[])).1 (c.payments.toNat - (qq.foldl (parV c) (s.V,[])).2.length) (min (c.visits.toNat - qq.length) (qq.foldl (parV c) (s.V,[])).1.length) s.at' []).2.2:=by simp only[payM,hq]
 have hl2:l=(sweepGo (qq.foldl (parV c) (s.V,[])).1 (c.payments.toNat - (qq.foldl (parV c) (s.V,[])).2.length) (min (c.visits.toNat - qq.length) (qq.foldl (parV c) (s.V,[])).1.length) s.at' []).1:=by
  have e1:=hP.pm
  rw[hq] at e1
  have e2:(payM c s).pm=(qq.foldl (parV c) (s.V,[])).2++(sweepGo (qq.foldl (parV c) (s.V,[])).1 (c.payments.toNat - (qq.foldl (parV c) (s.V,[])).2.length) (min (c.visits.toNat - qq.length) (qq.foldl (parV c) (s.V,[])).1.length) s.at' []).1.map fun (i:Nat)=>(⟨i,((qq.foldl (parV c) (s.V,[])).1.getD i Val.zero).bal,true⟩:Pm):=by simp only[payM,hq]
  rw[e2] at e1
  have e3:=List.append_cancel_left e1
  have e4:=congrArg (List.map fun p:Pm=>p.ix.toNat) e3
  simpa[List.map_map,Function.comp_def] using e4.symm
 rw[hq] at hPV hS5
 rw[hat,hPV,mods_get _ _ _ _ hPn]
 obtain ⟨v1,k1,e1,e2,e3,e4,e5⟩:=hst i v hv
 obtain ⟨v1',k1',e6,e7⟩:=hle i v hv
 rw[k1] at k1'
 obtain rfl:=Option.some.inj k1'
 have hvl:=(List.getElem?_eq_some_iff.1 hv).1
 simp only at hl
 generalize qq.foldl (parV c) (s.V,[])=Z at *
 rw[k1]
 by_cases hi:i∈l
 ·rw[if_pos hi]
  obtain ⟨u,hu,hu5⟩:∃ v,Z.1[i]? = some v∧v.st=5:=hS5 i hi
  rw[k1] at hu
  obtain rfl:=Option.some.inj hu
  exact⟨_,rfl,⟨e1,e3,e2,e4,.inr ⟨by omega,rfl⟩,by simp only[payV];omega⟩,fun k=>by simp[payV] at k⟩
 ·rw[if_neg hi]
  refine⟨_,rfl,⟨e1,e3,e2,e4,.inl e5,e6⟩,fun k5=>?_⟩
  have hat0:s.at'<Z.1.length:=by
   rcases h.at' with h|h<;>omega
  have hg5:(Z.1.getD i Val.zero).st=5:=by rw[getD_some k1];exact k5
  have d1:=sweep_dist (V:=Z.1) (pays:=c.payments.toNat - Z.2.length) (n:=c.capacity) (by omega) (i:=i) (by omega) hg5 (min (c.visits.toNat - qq.length) Z.1.length) s.at' [] hat0
  have d2:=sweep_dist (V:=Z.1) (pays:=c.payments.toNat - Z.2.length) (n:=(Z.1.length:Int)) (by omega) (i:=i) (by omega) hg5 (min (c.visits.toNat - qq.length) Z.1.length) s.at' [] hat0
  have d3:=sweep_count (V:=Z.1) (pays:=c.payments.toNat - Z.2.length) (min (c.visits.toNat - qq.length) Z.1.length) s.at' []
  have d4:(sweepGo Z.1 (c.payments.toNat - Z.2.length) (min (c.visits.toNat - qq.length) Z.1.length) s.at' []).2.2<Z.1.length:=by
   obtain ⟨m,_,_,_,_,_,k6⟩:=sweepGo_spec Z.1 (c.payments.toNat - Z.2.length) (min (c.visits.toNat - qq.length) Z.1.length) s.at' []
   rcases k6 (by omega) with h|h<;>omega
  rw[← hl2] at d1 d2
  replace d1:=d1.resolve_left hi
  replace d2:=d2.resolve_left hi
  generalize sweepGo Z.1 (c.payments.toNat - Z.2.length) (min (c.visits.toNat - qq.length) Z.1.length) s.at' []=r at *
  have d5:r.2.1<Z.1.length:=by
   unfold dist at d2
   split at d2<;>split at d2<;>omega
  have hm:mW c≤r.2.1:=by
   unfold mW
   simp only[List.length_nil,Nat.zero_add] at d3
   omega
  omega
theorem PrA.pay {c:Cfg} (hc:CfOk c) {s s':St} {q q':HS} (h0:Inv c s) (hP:PyW c s s') {p:Pr} {v:Val} {A:Int} (h:PrA c s q p v A) (hd:(getR p.ix q'.recs).ex.dl=(getR p.ix q.recs).ex.dl):∃ v',PrA c s' q' p v' A:=by
 obtain ⟨v',hv',b,_⟩:=hP.v _ _ h.hv
 have hst:=h.st;have:=b.st
 refine⟨v',h.keep rfl rfl rfl (Int.le_refl _) hv' b.ex b.rq (by omega) hd (by unfold epo;rw[hP.bk]) hP.ca fun _=>?_⟩
 rw[hP.fo,hP.vo]
 have:=upW_mono (W:=bals s.V) (W':=bals s'.V) (s.fo++s.vo) p.ix fun j hj=>by
  obtain ⟨u,hu,_⟩:=(h0.ex.mem j).1 hj
  obtain ⟨u',hu',b',_⟩:=hP.v j u hu
  rw[wAt_get hu,wAt_get hu'];exact b'.bal
 omega
end
section
open Go.RowKit
def getZ (V:List Val) (ix:Int):Val:=if ix<0 then Val.zero else V.getD ix.toNat Val.zero
def mk1 (a:Asg) (p:Pr):Pr:=if (p.ix:Int)=a.ix then {p with asd:=true} else p
def laP (w:Int) (p:Pr):Pr:=if p.asd=true then p else {p with la:=p.la+w}
def prM (asg:List Asg) (P:List Pr):List Pr:=asg.foldl (fun P a=>P.map (mk1 a)) P
def forcedB (k:Int) (b:Val):Bool:=decide (k=3) || (decide (k=4) && decide (b.st=2))
def stepP (c:Cfg) (s:St) (o:Opn) (P:List Pr):List Pr :=
 if (stepM c s o).1.c≠0 then prM (stepM c s o).1.asg P
 else (if forcedB o.k (getZ s.V o.ix)=true then (prM (stepM c s o).1.asg P).map (laP (getZ (stepM c s o).2.V o.ix).bal) else prM (stepM c s o).1.asg P)++(if o.k=2∨o.k=3 then [⟨o.ix.toNat,(stepM c s o).1.dl,0,false⟩] else [])
theorem prM_map:∀ (asg:List Asg) (P:List Pr),prM asg P=P.map fun p=>asg.foldl (fun p a=>mk1 a p) p
 | [],P=>by simp[prM]
 | a::r,P=>by
  have:=prM_map r (P.map (mk1 a))
  simp only[prM,List.foldl_cons] at this ⊢
  rw[this,List.map_map];rfl
theorem mk_fold:∀ (asg:List Asg) (ixs:List Nat) (p:Pr),asg.map (·.ix)=ixs.map (fun i:Nat=>(i:Int))→asg.foldl (fun p a=>mk1 a p) p={p with asd:=p.asd || decide (p.ix∈ixs)}
 | [],[],p,_=>by simp
 | [],_::_,p,h=>by simp at h
 | _::_,[],p,h=>by simp at h
 | a::r,i::ixs,p,h=>by
  simp only[List.map_cons,List.cons.injEq] at h
  rw[List.foldl_cons,mk_fold r ixs _ h.2]
  unfold mk1
  rw[h.1]
  by_cases hi:p.ix=i
  ·rw[if_pos (by rw[hi])]
   simp[hi]
  ·rw[if_neg (by omega)]
   simp[hi]
theorem getZ_some {V:List Val} {ix:Int} {v:Val} (h0:0≤ix) (h:V[ix.toNat]? = some v):getZ V ix=v:=by
 unfold getZ
 rw[if_neg (by omega),getD_some h]
theorem foldA_dl:∀ (l:List Asg) (q:HS) (i:Int),(getR i (l.foldl addA q).recs).ex.dl=(getR i q.recs).ex.dl
 | [],q,i=>rfl
 | y::l,q,i=>by
  rw[List.foldl_cons,foldA_dl l (addA q y) i]
  simp only[addA]
  rw[getR_set]
  split
  ·rename_i h;subst h
   unfold hAsg;split<;>rfl
  ·rfl
theorem foldP_dl (ep:Int):∀ (l:List Pm) (q:HS) (i:Int),(getR i (l.foldl (addP ep) q).recs).ex.dl=(getR i q.recs).ex.dl
 | [],q,i=>rfl
 | y::l,q,i=>by
  rw[List.foldl_cons,foldP_dl ep l (addP ep q y) i]
  simp only[addP]
  rw[getR_set]
  split
  ·rename_i h;subst h
   unfold hPayR;split<;>rfl
  ·rfl
theorem tick_dl {c:Cfg} {s:St} (x:Rc) (hx:x.c=0) (q:HS) (i:Int):(getR i (hAdd 7 x q).recs).ex.dl=(getR i q.recs).ex.dl:=by
 unfold hAdd
 simp only[hx,ne_eq,not_true_eq_false,if_false,Int.reduceEq]
 rw[foldP_dl,foldA_dl]
theorem hAdd_ok {k:Int} {x:Rc} {q:HS} (hc:x.c=0) (ha:x.asg=[]) (hp:x.pms=[]):hAdd k x q=(if k=2 then addB 1 x {q with n:=q.n+1,ep:=x.ep} else if k=4 then addB 0 x (addS x {q with n:=q.n+1,ep:=x.ep}) else if k=3 then addB 0 x {q with n:=q.n+1,ep:=x.ep} else {q with n:=q.n+1,ep:=x.ep}):=by
 unfold hAdd
 rw[if_neg (by rw[hc];simp),ha,hp]
 rfl
theorem bals_same {V:List Val} {n:Nat} {v v':Val} (hv:V[n]? = some v) (hb:v'.bal=v.bal):bals (V.set n v')=bals V:=by
 rw[bals_set,hb]
 apply List.ext_getElem?
 intro j
 rw[List.getElem?_set]
 by_cases h:n=j
 ·subst h
  have:=bals_get hv
  obtain ⟨l1,l2⟩:=List.getElem?_eq_some_iff.1 this
  simp[l1,l2]
 ·rw[if_neg h]
theorem payD_eq {c:Cfg} {e a b t:Int} (h:payD c e a b=some t):t=e+kD c (a+b)+1+c.unbonding+swpB c:=by
 unfold payD at h
 split at h
 ·cases h
 split at h
 ·cases h
 simp only at h
 split at h
 ·cases h
 have:=Option.some.inj h
 unfold kD;omega
theorem PrA.new {c:Cfg} (hc:CfOk c) {s s':St} {q':HS} (h:Inv c s) {n:Nat} {v:Val} {cl t:Int} (hv:s.V[n]? = some v) (h2:v.st=2) (ht:payD c (epo c s) (aheadW s cl) v.bal=some t) (hV:s'.V=s.V.set n (exV v (epo c s) t)) (hQ:s'.fo++s'.vo=(if cl=0 then s.fo else s.fo++s.vo)++n::(if cl=0 then s.vo else [])) (hbk:s'.bk=s.bk) (hca:s'.ca=s.ca) (hd:(getR n q'.recs).ex.dl=t):PrA c s' q' ⟨n,t,0,false⟩ (exV v (epo c s) t) (aheadW s cl+v.bal):=by
 have hx:=(h.val n v hv).w1 (by omega)
 have he:epo c s'=epo c s:=by unfold epo;rw[hbk]
 have hk:=Int.le_max_right (ceilD (aheadW s cl+v.bal+c.forcedCap) c.minChurn) 1
 have hnq:n∉s.fo++s.vo:=fun hm=>by
  obtain ⟨u,hu,hw⟩:=(h.ex.mem n).1 hm
  rw[hv] at hu
  obtain rfl:=Option.some.inj hu
  have:=hw.1;omega
 refine⟨by rw[hV,set_get hv,if_pos rfl],by simp[exV],hd,payD_eq ht,Int.le_refl _,?_,fun _=>⟨?_,fun _=>?_⟩,fun k=>absurd hx.2.1 k⟩
 ·simp only[exV,hx.2.1];rfl
 ·have hb:bals s'.V=bals s.V:=by rw[hV];exact bals_same hv rfl
  have h0:=h.ca
  rw[hQ,hb,upW_app,if_neg (by intro hm;split at hm<;>exact hnq (by simp_all)),he]
  have e1:upW (bals s.V) (n::(if cl=0 then s.vo else [])) n=v.bal:=by simp only[upW,if_true,Int.add_zero];exact wAt_get hv
  rw[e1,hca]
  simp only[exV,Int.sub_self,Int.mul_zero,aheadW]
  omega
 ·rw[he]
  simp only[exV,Int.sub_self]
  unfold kD;omega
theorem laP_eq (w:Int) (p:Pr):(laP w p).ix=p.ix∧(laP w p).dl=p.dl∧(laP w p).asd=p.asd∧(laP w p).la=if p.asd=true then p.la else p.la+w:=by
 unfold laP
 split<;>simp[*]
theorem step_P {c:Cfg} (hc:CfOk c) {s:St} {q:HS} (h:Inv c s) (hb:s.bk<1000000000) (hca:s.ca≤1152921504606846976) (hj:JV c s.V q) (o:Opn) {P:List Pr} (hP:∀ p∈P,∃ v A,PrA c s q p v A):∀ p∈stepP c s o P,∃ v A,PrA c (stepM c s o).2 (hAdd o.k (stepM c s o).1 q) p v A:=by
 by_cases h7:o.k=7
 ·have e0:stepP c s o P=prM (stepM c s o).1.asg P:=by
   unfold stepP
   rw[h7]
   simp[forcedB]
  rw[e0,prM_map]
  intro p hp
  obtain ⟨p0,hp0,rfl⟩:=List.mem_map.1 hp
  obtain ⟨v,A,hA⟩:=hP p0 hp0
  unfold stepM
  rw[if_pos h7]
  have hd:(getR p0.ix (hAdd o.k (tickM c s).1 q).recs).ex.dl=(getR p0.ix q.recs).ex.dl:=by
   rw[h7];exact tick_dl (c:=c) (s:=s) _ rfl q _
  generalize hAdd o.k (tickM c s).1 q=q' at *
  unfold tickM
  by_cases hz:((s.bk+1:Nat):Int) % c.epochLen=0
  ·simp only[if_pos hz]
   obtain ⟨e,t,ch,hB⟩:=bound_w hc h hb hz
   have hI:=boundM_inv hc h hb hz
   obtain ⟨v1,h1⟩:=hA.bound hc h hca hB (q':=q') hd
   obtain ⟨v2,h2⟩:=h1.pay hc hI (pay_w hc hI) (q':=q') rfl
   refine⟨v2,A,?_⟩
   rw[mk_fold _ _ _ (by rw[hB.agE];exact asgs_ix _ _ _ _)]
   exact h2
  ·simp only[if_neg hz,List.foldl_nil]
   have hI:=Inv.same hc h hb hz
   have h1:PrA c {s with bk:=s.bk+1} q' p0 v A:=hA.keep rfl rfl rfl (Int.le_refl _) hA.hv rfl rfl hA.st hd (epo_same hc hz) rfl fun _=>by simp only;omega
   obtain ⟨v2,h2⟩:=h1.pay hc hI (pay_w hc hI) (q':=q') rfl
   exact⟨v2,A,h2⟩
 ·have easg:(stepM c s o).1.asg=[]:=by unfold stepM;rw[if_neg h7]
  by_cases hr:(stepM c s o).1.c=0
  rotate_left
  ·obtain ⟨e,_⟩:=step_rej hr
   have e0:stepP c s o P=P:=by unfold stepP;rw[if_pos hr,easg];rfl
   rw[e0,e,hAdd,if_pos hr]
   intro p hp
   obtain ⟨v,A,hA⟩:=hP p hp
   exact⟨v,A,hA.keep rfl rfl rfl (Int.le_refl _) hA.hv rfl rfl hA.st rfl rfl rfl fun _=>by omega⟩
  have e0:stepP c s o P=(if forcedB o.k (getZ s.V o.ix)=true then P.map (laP (getZ (stepM c s o).2.V o.ix).bal) else P)++(if o.k=2∨o.k=3 then [⟨o.ix.toNat,(stepM c s o).1.dl,0,false⟩] else []):=by
   unfold stepP
   rw[if_neg (by rw[hr];simp),easg];rfl
  rw[e0]
  clear e0
  unfold stepM at hr ⊢
  rw[if_neg h7] at hr ⊢
  simp only at hr ⊢
  rw[hAdd_ok (x:=⟨o.k,(opM c s o).c,(opM c s o).ix,s.bk,epo c s,(opM c s o).dl,0,[],[]⟩) hr rfl rfl]
  simp only
  unfold opM at hr ⊢
  by_cases h1:o.k=1
  ·simp only[h1,if_true,Int.reduceEq,if_false,forcedB,decide_false,Bool.false_and,Bool.or_self,Bool.false_eq_true,or_self,List.append_nil] at hr ⊢
   rw[opDep_ok hr]
   intro p hp
   obtain ⟨v,A,hA⟩:=hP p hp
   refine⟨v,A,hA.keep rfl rfl rfl (Int.le_refl _) ?_ rfl rfl hA.st rfl rfl rfl fun _=>?_⟩
   ·have:=(List.getElem?_eq_some_iff.1 hA.hv).1
    simp only[List.getElem?_append_left this];exact hA.hv
   ·have:=upW_mono (W:=bals s.V) (W':=bals (s.V++[newV o.am])) (s.fo++s.vo) p.ix fun j hj=>by
     obtain ⟨u,hu,_⟩:=(h.ex.mem j).1 hj
     have hl:=(List.getElem?_eq_some_iff.1 hu).1
     rw[wAt_get hu,wAt_get (v:=u) (by rw[List.getElem?_append_left hl];exact hu)];exact Int.le_refl _
    simp only;omega
  have old:∀ (n:Nat) (v v':Val) (w:Int) (b:Bool) (s':St) (q':HS),s.V[n]? = some v→s'.V=s.V.set n v'→s'.bk=s.bk→s'.ca=s.ca→v'.bal≤v.bal→0≤v'.bal→v'.ex=v.ex→(3≤v.st→v'.rq=v.rq∧3≤v'.st∧v'.st≤6∧b=false)→(∀ i:Nat,i≠n∨3≤v.st→(getR i q'.recs).ex.dl=(getR i q.recs).ex.dl)→(b=true→w=v'.bal∧s'.fo++s'.vo=s.fo++n::s.vo)→(b=false→s'.fo++s'.vo=s.fo++s.vo∨s'.fo++s'.vo=s.fo++s.vo++[n])→∀ p∈(if b=true then P.map (laP w) else P),∃ v A,PrA c s' q' p v A:=fun n v v' w b s' q' hv hV hbk hca2 hle hnn hex hst hd hT hF p hp=>by
   have he:epo c s'=epo c s:=by unfold epo;rw[hbk]
   have hW:∀ j,j∈s.fo++s.vo→wAt (bals s'.V) j≤wAt (bals s.V) j:=fun j hj=>by
    obtain ⟨u,hu,_⟩:=(h.ex.mem j).1 hj
    by_cases hjn:j=n
    ·subst hjn
     rw[wAt_get hv,wAt_get (v:=v') (by rw[hV,set_get hv,if_pos rfl])];exact hle
    ·rw[wAt_get hu,wAt_get (v:=u) (by rw[hV,set_get hv,if_neg hjn];exact hu)];exact Int.le_refl _
   have hwn:wAt (bals s'.V) n=v'.bal:=wAt_get (by rw[hV,set_get hv,if_pos rfl])
   have at':∀ {p:Pr} {u:Val} {A:Int},PrA c s q p u A→∃ u',s'.V[p.ix]? = some u'∧u'.ex=u.ex∧u'.rq=u.rq∧(3≤u'.st∧u'.st≤6)∧(getR p.ix q'.recs).ex.dl=(getR p.ix q.recs).ex.dl∧(b=true→p.ix≠n):=fun {p u A} hA=>by
    by_cases hpn:p.ix=n
    ·have hu:=hA.hv
     rw[hpn,hv] at hu
     obtain rfl:=Option.some.inj hu
     obtain ⟨k1,k2,k3,k4⟩:=hst hA.st.1
     refine⟨v',by rw[hV,hpn,set_get hv,if_pos rfl],hex,k1,⟨k2,k3⟩,hd _ (.inr hA.st.1),fun k=>?_⟩
     rw[k4] at k;cases k
    ·exact⟨u,by rw[hV,set_get hv,if_neg hpn];exact hA.hv,rfl,rfl,hA.st,hd _ (.inl hpn),fun _=>hpn⟩
   cases b with
   | false =>
    simp only[Bool.false_eq_true,if_false] at hp
    obtain ⟨u,A,hA⟩:=hP p hp
    obtain ⟨u',a1,a2,a3,a4,a5,_⟩:=at' hA
    refine⟨u',A,hA.keep rfl rfl rfl (Int.le_refl _) a1 a2 a3 a4 a5 he hca2 fun kx=>?_⟩
    have hm:=upW_mono (W:=bals s.V) (W':=bals s'.V) (s.fo++s.vo) p.ix hW
    rcases hF rfl with e|e
    ·rw[e];omega
    ·have hs3:u.st=3:=by have:=(h.val _ _ hA.hv).e4;have:=hA.st;omega
     rw[e,upW_app,if_pos ((h.ex.mem p.ix).2 ⟨u,hA.hv,hs3,kx⟩)];omega
   | true =>
    simp only[if_true] at hp
    obtain ⟨p0,hp0,rfl⟩:=List.mem_map.1 hp
    obtain ⟨u,A,hA⟩:=hP p0 hp0
    obtain ⟨u',a1,a2,a3,a4,a5,a6⟩:=at' hA
    obtain ⟨l1,l2,l3,l4⟩:=laP_eq w p0
    obtain ⟨t1,t2⟩:=hT rfl
    refine⟨u',A,hA.keep l1 l2 l3 ?_ a1 a2 a3 a4 a5 he hca2 fun kx=>?_⟩
    ·rw[l4];split<;>omega
    ·have hm:=upW_mono (W:=bals s.V) (W':=bals s'.V) (s.fo++s.vo) p0.ix hW
     have hi:=(upW_ins (W:=bals s'.V) (n:=n) (by rw[hwn];exact hnn) s.fo s.vo p0.ix).resolve_right (a6 rfl)
     have ha:p0.asd=false:=by rw[hA.asd,kx];rfl
     rw[t2,l4,ha,if_neg (by simp),t1]
     omega
  have lv:∀ cl:Int,(cl=0∧o.k=3∨cl=1∧o.k=2)→(opLeave c s cl o.ix).c=0→∀ q3:HS,q3.recs=q.recs→∀ p∈(if decide (cl=0)=true then P.map (laP (getZ (opLeave c s cl o.ix).s.V o.ix).bal) else P)++[⟨o.ix.toNat,(opLeave c s cl o.ix).dl,0,false⟩],∃ v A,PrA c (opLeave c s cl o.ix).s (addB cl ⟨o.k,(opLeave c s cl o.ix).c,(opLeave c s cl o.ix).ix,s.bk,epo c s,(opLeave c s cl o.ix).dl,0,[],[]⟩ q3) p v A:=fun cl hcl hr q3 r1 p hp=>by
   obtain ⟨v,t,k0,k1,k2,kt,k3⟩:=opLeave_ok hr
   obtain ⟨n,hn⟩:∃ n:Nat,o.ix=n:=⟨o.ix.toNat,by omega⟩
   rw[k3] at hp ⊢
   have hon:o.ix.toNat=n:=by omega
   rw[hon] at k1 hp ⊢
   have hrd:(getR n q.recs).rd=false:=by rw[(hj.of k1).rd,k2];rfl
   have hdl:∀ i:Nat,(getR i (addB cl ⟨o.k,0,o.ix,s.bk,epo c s,t,0,[],[]⟩ q3).recs).ex.dl=if i=n then t else (getR i q.recs).ex.dl:=fun i=>by
    simp only[addB]
    rw[hn,getR_setN,r1]
    split
    ·unfold beginR;rw[hrd];simp
    ·rfl
   have hbal:=(h.val n v k1).b
   rcases List.mem_append.1 hp with hp|hp
   ·refine old n v (exV v (epo c s) t) (getZ (if cl=0 then {s with V:=s.V.set n (exV v (epo c s) t),fo:=s.fo++[n]} else {s with V:=s.V.set n (exV v (epo c s) t),vo:=s.vo++[n]}).V o.ix).bal (decide (cl=0)) _ _ k1 ?_ ?_ ?_ (Int.le_refl _) hbal rfl (fun k=>by omega) (fun i hi=>?_) (fun k=>?_) (fun k=>?_) p hp
    ·split<;>rfl
    ·split<;>rfl
    ·split<;>rfl
    ·rw[hdl,if_neg (by rcases hi with hi|hi;exact hi;omega)]
    ·have kc:cl=0:=by simpa using k
     subst kc
     simp only[if_true]
     refine⟨?_,by simp⟩
     rw[getZ_some (v:=exV v (epo c s) t) (by omega) (by rw[hon,set_get k1,if_pos rfl])]
    ·have kc:cl≠0:=by simpa using k
     simp only[kc,if_false]
     exact .inr (by simp)
   ·simp only[List.mem_singleton] at hp
    subst hp
    refine⟨_,_,PrA.new hc h k1 k2 kt ?_ ?_ ?_ ?_ (by rw[hdl,if_pos rfl])⟩
    ·split<;>rfl
    ·rcases hcl with⟨rfl,_⟩|⟨rfl,_⟩<;>simp
    ·split<;>rfl
    ·split<;>rfl
  by_cases h2:o.k=2
  ·have e:=lv 1 (.inr ⟨rfl,h2⟩)
   simp only[h2,if_true,Int.reduceEq,if_false,forcedB,decide_false,Bool.false_and,Bool.or_self,Bool.false_eq_true,true_or] at hr e ⊢
   exact e hr _ rfl
  by_cases h3:o.k=3
  ·have e:=lv 0 (.inl ⟨rfl,h3⟩)
   simp only[h3,if_true,Int.reduceEq,if_false,forcedB,decide_true,Bool.true_or,or_true] at hr e ⊢
   exact e hr _ rfl
  by_cases h4:o.k=4
  ·simp only[h4,if_true,Int.reduceEq,if_false,or_self,List.append_nil] at hr ⊢
   obtain ⟨v,k0,k1,k2,k3,k4⟩:=opSlash_ok hr
   obtain ⟨n,hn⟩:∃ n:Nat,o.ix=n:=⟨o.ix.toNat,by omega⟩
   have hon:o.ix.toNat=n:=by omega
   rw[k4]
   rw[hon] at k1 ⊢
   have hvo:=h.val n v k1
   have hpn:=hc.pn;have hpd:=hc.pd
   have hpf:=penF_range hvo.b hpn.1 hpn.2 hpd.1
   have hss:slaS v.st=3∨slaS v.st=4:=by unfold slaS;split<;>simp
   have hfb:forcedB 4 (getZ s.V o.ix)=decide (v.st=2):=by
    rw[getZ_some (v:=v) k0 (by rw[hon];exact k1)]
    simp[forcedB]
   intro p hp
   rw[hfb] at hp
   refine old n v (slV c v (epo c s)) _ (decide (v.st=2)) {s with V:=s.V.set n (slV c v (epo c s)),bu:=s.bu+penF v.bal c.penNum c.penDen,fo:=if v.st=2 then s.fo++[n] else s.fo,bo:=if v.st=5 then s.bo++[((slV c v (epo c s)).wd,n)] else s.bo} _ k1 rfl rfl rfl (by simp only[slV];omega) (by simp only[slV];omega) rfl (fun k=>⟨by simp only[slV];rw[if_neg (by omega)],by simp only[slV];omega,by simp only[slV];omega,by rw[decide_eq_false_iff_not];omega⟩) (fun i hi=>?_) (fun k=>?_) (fun k=>?_) p hp
   ·simp only[addB,addS]
    rw[hn,getR_setN]
    by_cases hin:i=n
    ·have hrd:(getR n q.recs).rd=true:=by
      rw[(hj.of k1).rd]
      simp;omega
     rw[if_pos hin,hin,getR_setN,if_pos rfl]
     unfold beginR slashR
     repeat' split
     all_goals first|rfl|simp_all
    ·rw[if_neg hin,getR_setN,if_neg hin]
   ·have kc:v.st=2:=by simpa using k
    refine⟨?_,by simp[kc]⟩
    rw[getZ_some (v:=slV c v (epo c s)) k0 (by rw[hon];simp only;rw[set_get k1,if_pos rfl])]
   ·have kc:v.st≠2:=by simpa using k
    exact .inl (by simp[kc])
  have still:∀ s':St,s'.V=s.V→s'.fo=s.fo→s'.vo=s.vo→s'.bk=s.bk→s'.ca=s.ca→∀ q':HS,q'.recs=q.recs→∀ p∈P,∃ v A,PrA c s' q' p v A:=fun s' e1 e2 e3 e4 e5 q' e6 p hp=>by
   obtain ⟨v,A,hA⟩:=hP p hp
   exact⟨v,A,hA.keep rfl rfl rfl (Int.le_refl _) (by rw[e1];exact hA.hv) rfl rfl hA.st (by rw[e6]) (by unfold epo;rw[e4]) e5 fun _=>by rw[e1,e2,e3];omega⟩
  by_cases h5:o.k=5
  ·simp only[h5,if_true,Int.reduceEq,if_false,forcedB,decide_false,Bool.false_and,Bool.or_self,Bool.false_eq_true,or_self,List.append_nil] at hr ⊢
   obtain ⟨e1,e2,e3⟩:=opMerge_V c s o.ix o.tg
   refine still _ e1 e2 e3 ?_ ?_ _ rfl
   ·unfold opMerge no';repeat' split
    all_goals rfl
   ·unfold opMerge no';repeat' split
    all_goals rfl
  by_cases h6:o.k=6
  ·simp only[h6,if_true,Int.reduceEq,if_false,forcedB,decide_false,Bool.false_and,Bool.or_self,Bool.false_eq_true,or_self,List.append_nil] at hr ⊢
   obtain ⟨e1,e2,e3⟩:=opPart_V c s o.ix o.am
   refine still _ e1 e2 e3 ?_ ?_ _ rfl
   ·unfold opPart no';repeat' split
    all_goals rfl
   ·unfold opPart no';repeat' split
    all_goals rfl
  simp only[h1,h2,h3,h4,h5,h6,if_false,no'] at hr
  simp at hr
end
section
open Go.RowKit
structure SwV (c:Cfg) (bk at':Nat) (i:Nat) (v:Val) (r:Rd):Prop where
 five:v.st=5→v.sl=false→mW c*((bk:Int)+1 - v.wd*c.epochLen)+dist c.capacity at' i≤c.capacity - 1
 six:v.st=6→v.sl=false→r.ex.pd≤v.wd+swpB c
def SwI (c:Cfg) (s:St) (q:HS):Prop:=∀ (i:Nat) v,s.V[i]? = some v→SwV c s.bk s.at' i v (getR i q.recs)
theorem SwI.iniS (c:Cfg) (q:HS):SwI c St.ini q:=fun i v hv=>by simp[St.ini] at hv
theorem mW_pos {c:Cfg} (hc:CfOk c):1≤mW c:=by
 have h1:=hc.vi;have h2:=hc.py;have h3:=hc.pa
 unfold mW;omega
theorem swpB_nn {c:Cfg} (hc:CfOk c):0≤swpB c:=by
 have:=mW_pos hc;have:=hc.ca;have:=hc.el
 exact Int.ediv_nonneg (Int.ediv_nonneg (by omega) (by unfold mW at *;omega)) (by omega)
theorem dist_rng {c:Cfg} {s:St} (h:Inv c s) {i:Nat} (hi:i<s.V.length):0≤dist c.capacity s.at' i∧dist c.capacity s.at' i≤c.capacity - 1:=by
 have h1:=h.cap;have h2:=h.at'
 unfold dist
 split<;>omega
theorem foldP_pd (ep:Int):∀ (l:List Pm) (q:HS) (i:Int),(getR i (l.foldl (addP ep) q).recs).ex.pd=(getR i q.recs).ex.pd∨(getR i (l.foldl (addP ep) q).recs).ex.pd=ep
 | [],q,i=>.inl rfl
 | y::l,q,i=>by
  rw[List.foldl_cons]
  rcases foldP_pd ep l (addP ep q y) i with h|h
  ·rw[h]
   simp only[addP]
   rw[getR_set]
   split
   ·rename_i h;subst h
    unfold hPayR;split
    ·exact .inr rfl
    ·exact .inl rfl
   ·exact .inl rfl
  ·exact .inr h
theorem foldP_fu (ep:Int):∀ (l:List Pm) (q:HS) (i:Int),(getR i q.recs).fu=true→(getR i (l.foldl (addP ep) q).recs).ex.pd=(getR i q.recs).ex.pd
 | [],q,i,_=>rfl
 | y::l,q,i,h=>by
  have e:(getR i (addP ep q y).recs).fu=true∧(getR i (addP ep q y).recs).ex.pd=(getR i q.recs).ex.pd:=by
   simp only[addP]
   rw[getR_set]
   split
   ·rename_i hi;subst hi
    unfold hPayR;rw[if_neg (by rw[h];simp)];exact⟨h,rfl⟩
   ·exact⟨h,rfl⟩
  rw[List.foldl_cons,foldP_fu ep l _ i e.1,e.2]
theorem foldA_pd:∀ (l:List Asg) (q:HS) (i:Int),(getR i (l.foldl addA q).recs).ex.pd=(getR i q.recs).ex.pd∧(getR i (l.foldl addA q).recs).fu=(getR i q.recs).fu
 | [],q,i=>⟨rfl,rfl⟩
 | y::l,q,i=>by
  obtain ⟨h1,h2⟩:=foldA_pd l (addA q y) i
  have e:(getR i (addA q y).recs).ex.pd=(getR i q.recs).ex.pd∧(getR i (addA q y).recs).fu=(getR i q.recs).fu:=by
   simp only[addA]
   rw[getR_set]
   split
   ·rename_i h;subst h
    unfold hAsg;split<;>exact⟨rfl,rfl⟩
   ·exact⟨rfl,rfl⟩
  exact⟨h1.trans e.1,h2.trans e.2⟩
theorem begin_pd (cl:Int) (x:Rc) (q:HS) (i:Int):(getR i (addB cl x q).recs).ex.pd=(getR i q.recs).ex.pd:=by
 simp only[addB]
 rw[getR_set]
 split
 ·rename_i h;subst h
  unfold beginR;split<;>rfl
 ·rfl
theorem slash_pd (x:Rc) (q:HS) (i:Int):(getR i (addS x q).recs).ex.pd=(getR i q.recs).ex.pd:=by
 simp only[addS]
 rw[getR_set]
 split
 ·rename_i h;subst h
  unfold slashR;split<;>rfl
 ·rfl
theorem hAdd_pd (k:Int) (x:Rc) (ha:x.asg=[]) (hp:x.pms=[]) (q:HS) (i:Int):(getR i (hAdd k x q).recs).ex.pd=(getR i q.recs).ex.pd:=by
 unfold hAdd
 rw[ha,hp]
 simp only[List.foldl_nil]
 split
 ·rfl
 split
 ·rw[begin_pd]
 split
 ·rw[begin_pd,slash_pd]
 split
 ·rw[begin_pd]
 ·rfl
theorem opM_at (c:Cfg) (s:St) (o:Opn):(opM c s o).s.at'=s.at'∧(opM c s o).s.ca=s.ca:=by
 unfold opM opDep opLeave opSlash opMerge opPart no'
 repeat'(first|exact⟨rfl,rfl⟩|split|dsimp only)
theorem opM_56 {c:Cfg} {s:St} (o:Opn) {i:Nat} {v:Val} (hv:(opM c s o).s.V[i]? = some v) (h5:v.st=5∨v.st=6) (hs:v.sl=false):s.V[i]? = some v:=by
 by_cases hr:(opM c s o).c=0
 rotate_left
 ·rw[opM_rej c s o hr] at hv;exact hv
 have lv:∀ cl:Int,(opLeave c s cl o.ix).c=0→(opLeave c s cl o.ix).s.V[i]? = some v→s.V[i]? = some v:=fun cl hr hv=>by
  obtain ⟨u,t,k0,k1,k2,kt,k3⟩:=opLeave_ok hr
  have e:(opLeave c s cl o.ix).s.V=s.V.set o.ix.toNat (exV u (epo c s) t):=by rw[k3];simp only;split<;>rfl
  rw[e,set_get k1] at hv
  split at hv
  ·obtain rfl:=Option.some.inj hv
   simp[exV] at h5
  ·exact hv
 unfold opM at hr hv
 by_cases h1:o.k=1
 ·simp only[h1,if_true] at hr hv
  rw[opDep_ok hr] at hv
  rcases getE_app hv with hv|⟨_,rfl⟩
  ·exact hv
  ·simp[newV] at h5
 by_cases h2:o.k=2
 ·simp only[h2,if_true,Int.reduceEq,if_false] at hr hv
  exact lv 1 hr hv
 by_cases h3:o.k=3
 ·simp only[h3,if_true,Int.reduceEq,if_false] at hr hv
  exact lv 0 hr hv
 by_cases h4:o.k=4
 ·simp only[h4,if_true,Int.reduceEq,if_false] at hr hv
  obtain ⟨u,k0,k1,k2,k3,k4⟩:=opSlash_ok hr
  rw[k4] at hv
  simp only at hv
  rw[set_get k1] at hv
  split at hv
  ·obtain rfl:=Option.some.inj hv
   simp[slV] at hs
  ·exact hv
 by_cases h5:o.k=5
 ·simp only[h5,if_true,Int.reduceEq,if_false] at hv
  rw[(opMerge_V c s _ _).1] at hv;exact hv
 by_cases h6:o.k=6
 ·simp only[h6,if_true,Int.reduceEq,if_false] at hv
  rw[(opPart_V c s _ _).1] at hv;exact hv
 simp only[h1,h2,h3,h4,h5,h6,if_false,no'] at hv
 exact hv
theorem paid_by {c:Cfg} (hc:CfOk c) {bk:Nat} {wd d:Int} (hd:0≤d) (h:mW c*((bk:Int) - wd*c.epochLen)+d≤c.capacity - 1):(bk:Int) / c.epochLen≤wd+swpB c:=by
 have hm:=mW_pos hc;have hel:=hc.el
 have h1:(bk:Int) - wd*c.epochLen≤(c.capacity - 1) / mW c:=by
  rw[Int.le_ediv_iff_mul_le (by omega),Int.mul_comm];omega
 have h2:(bk:Int) / c.epochLen≤((c.capacity - 1) / mW c+wd*c.epochLen) / c.epochLen:=Int.ediv_le_ediv (by omega) (by omega)
 rw[Int.add_mul_ediv_right _ _ (by omega)] at h2
 have e:swpB c=(c.capacity - 1) / mW c / c.epochLen:=rfl
 omega
structure SwP (c:Cfg) (bk at':Nat) (i:Nat) (v:Val) (r:Rd):Prop where
 five:v.st=5→v.sl=false→mW c*((bk:Int) - v.wd*c.epochLen)+dist c.capacity at' i≤c.capacity - 1
 six:v.st=6→v.sl=false→r.ex.pd≤v.wd+swpB c
theorem sw_pay {c:Cfg} (hc:CfOk c) {s:St} (h:Inv c s) {q:HS} (hj:JV c s.V q) (hs:∀ (i:Nat) v,s.V[i]? = some v→SwP c s.bk s.at' i v (getR i q.recs)):SwI c (payM c s).s ((payM c s).pm.foldl (addP (epo c s)) q):=fun i v' hv'=>by
 have hw:=pay_w hc h
 have hlen:=(pay_len hc h).1
 have hl:i<s.V.length:=by have:=(List.getElem?_eq_some_iff.1 hv').1;omega
 have hv:s.V[i]? = some s.V[i]:=List.getElem?_eq_getElem hl
 obtain ⟨u,hu,b,bd⟩:=hw.v i _ hv
 rw[hv'] at hu
 obtain rfl:=Option.some.inj hu
 have hp:=hs i _ hv
 have hr:=hj.of hv
 have hvo:=h.val i _ hv
 have hdr:=dist_rng h hl
 have hnn:=swpB_nn hc
 have b1:=b.sl;have b2:=b.wd;have b3:=b.st
 generalize s.V[i]=v at *
 refine⟨fun k5 ks=>?_,fun k6 ks=>?_⟩
 ·have h5:=hp.five (by omega) (by rw[← b1];exact ks)
  have hd:=bd k5
  rw[hw.bk,b2]
  have e:mW c*((s.bk:Int)+1 - v.wd*c.epochLen)=mW c*((s.bk:Int) - v.wd*c.epochLen)+mW c:=by
   rw[show(s.bk:Int)+1 - v.wd*c.epochLen=((s.bk:Int) - v.wd*c.epochLen)+1 by omega,Int.mul_add,Int.mul_one]
  rw[e];omega
 ·rw[b2]
  rcases b3 with b3|⟨b3,_⟩
  ·have h6:=hp.six (by omega) (by rw[← b1];exact ks)
   rw[foldP_fu _ _ _ _ (by rw[hr.fu];simp;omega)]
   exact h6
  ·have h5:=hp.five b3 (by rw[← b1];exact ks)
   have hpb:=paid_by hc hdr.1 h5
   rcases foldP_pd (epo c s) (payM c s).pm q i with e|e
   ·rw[e,(hr.fu0 (by omega)).1]
    have:=hvo.wd;omega
   ·rw[e];exact hpb
theorem step_Sw {c:Cfg} (hc:CfOk c) {s:St} (h:Inv c s) (hb:s.bk<1000000000) (o:Opn) {q:HS} (hj:JV c s.V q) (hs:SwI c s q):SwI c (stepM c s o).2 (hAdd o.k (stepM c s o).1 q):=by
 by_cases h7:o.k=7
 ·unfold stepM
  rw[if_pos h7]
  have key:∀ (B:Bd),Inv c B.s→epo c B.s=epo c {s with bk:=s.bk+1}→JV c B.s.V (B.ag.foldl addA q)→(∀ (i:Nat) v,B.s.V[i]? = some v→SwP c B.s.bk B.s.at' i v (getR i (B.ag.foldl addA q).recs))→SwI c (payM c B.s).s (hAdd o.k ⟨7,0,-1,s.bk+1,epo c {s with bk:=s.bk+1},-1,(payM c B.s).vi,B.ag,(payM c B.s).pm⟩ q):=fun B hB hE hJ hS=>by
   have er:=foldA_recs B.ag (q:=q) (q':={q with n:=q.n+1,ep:=epo c {s with bk:=s.bk+1}}) rfl
   have h2:=sw_pay hc hB (q:=B.ag.foldl addA {q with n:=q.n+1,ep:=epo c {s with bk:=s.bk+1}}) (hJ.cong fun i=>by rw[er]) (fun i v hv=>by rw[er];exact hS i v hv)
   rw[hE] at h2
   unfold hAdd
   simp only[h7]
   exact h2
  unfold tickM
  by_cases hz:((s.bk+1:Nat):Int) % c.epochLen=0
  ·simp only[if_pos hz]
   have hI:=boundM_inv hc h hb hz
   obtain ⟨e,t,ch,hB⟩:=bound_w hc h hb hz
   refine key _ hI rfl (bound_J hc h hb hz hj) fun i v' hv'=>?_
   have hl:i<s.V.length:=by have:=(List.getElem?_eq_some_iff.1 hv').1;have:=hB.len;omega
   have hv:s.V[i]? = some s.V[i]:=List.getElem?_eq_getElem hl
   obtain ⟨u,hu,b⟩:=hB.v i _ hv
   rw[hv'] at hu
   obtain rfl:=Option.some.inj hu
   have hp:=hs i _ hv
   have hvo:=hB.old i _ hv
   have hgc:=gV_cases hc hB.e1 hvo
   obtain ⟨pd1,_⟩:=foldA_pd (boundM c {s with bk:=s.bk+1}).ag q i
   have hdr:=dist_rng h hl
   have b1:=b.sl;have b2:=b.wd;have b3:=b.st;have b4:=b.no
   have hel:=hc.el
   have hbe:((s.bk+1:Nat):Int)=e*c.epochLen:=by
    have h1:=Int.emod_add_mul_ediv ((s.bk+1:Nat):Int) c.epochLen
    have h2:=hB.eE
    unfold epo at h2
    simp only at h2
    rw[← h2,hz,Int.mul_comm] at h1
    omega
   have hnt:s.V[i].st≠3→¬i∈(s.fo++s.vo).take t:=fun k hm=>by
    obtain ⟨x,hx,hx3,_⟩:=hB.w i (List.mem_of_mem_take hm)
    rw[hv] at hx
    obtain rfl:=Option.some.inj hx
    exact k hx3
   have hw4:=hvo.w4
   generalize s.V[i]=v at *
   refine⟨fun k5 ks=>?_,fun k6 ks=>?_⟩
   ·rw[hB.bk,hB.at']
    have hst:3≤v.st∧v.st≤6:=by
     have:=hvo.st
     by_cases k:v.st<3∨v.st=7
     ·have:=b4 k;omega
     ·omega
    obtain ⟨c1,_⟩:=b3 hst
    rcases hgc with⟨g1,_⟩|⟨g1,g2,g3⟩|⟨g1,g2,g3⟩
    ·omega
    ·have:=hw4 g2
     have ew:v.wd=e:=by omega
     rw[if_neg (hnt (by omega))] at b2
     rw[b2,ew,hbe,Int.sub_self,Int.mul_zero]
     omega
    ·rw[if_neg (hnt (by omega))] at b2
     have h5:=hp.five (by omega) (by rw[← b1];exact ks)
     rw[b2]
     exact h5
   ·have hst:3≤v.st∧v.st≤6:=by
     have:=hvo.st
     by_cases k:v.st<3∨v.st=7
     ·have:=b4 k;omega
     ·omega
    obtain ⟨c1,_⟩:=b3 hst
    have h6:v.st=6:=by omega
    rw[if_neg (hnt (by omega))] at b2
    rw[pd1,b2]
    exact hp.six h6 (by rw[← b1];exact ks)
  ·simp only[if_neg hz]
   refine key ⟨[],{s with bk:=s.bk+1}⟩ (Inv.same hc h hb hz) rfl hj fun i v hv=>?_
   have hp:=hs i v hv
   exact⟨fun k5 ks=>hp.five k5 ks,hp.six⟩
 ·have hx:(stepM c s o).1.asg=[]∧(stepM c s o).1.pms=[]∧(stepM c s o).2=(opM c s o).s:=by unfold stepM;rw[if_neg h7];exact⟨rfl,rfl,rfl⟩
  obtain ⟨x1,x2,x3⟩:=hx
  intro i v hv
  have hpd:=hAdd_pd o.k _ x1 x2 q i
  rw[x3] at hv ⊢
  obtain ⟨a1,_⟩:=opM_at c s o
  have a2:=opM_bk c s o
  refine⟨fun k5 ks=>?_,fun k6 ks=>?_⟩
  ·have:=(hs i v (opM_56 o hv (.inl k5) ks)).five k5 ks
   rw[a1,a2];exact this
  ·rw[hpd];exact(hs i v (opM_56 o hv (.inr k6) ks)).six k6 ks
theorem wAt_le {W:List Int} (h:∀ x∈W,0≤x) (j:Nat):wAt W j≤W.sum:=by
 unfold wAt
 rw[List.getD_eq_getElem?_getD]
 cases hb:W[j]? with
 | none=>simpa using sum_nonneg W h
 | some y=>simpa using sum_mem_le W h y (List.mem_of_getElem? hb)
theorem step_ca {c:Cfg} (hc:CfOk c) {s:St} (h:Inv c s) (hb:s.bk<1000000000) (o:Opn) (hca:s.ca≤1152921504606846976):(stepM c s o).2.ca≤1152921504606846976:=by
 unfold stepM
 split
 rotate_left
 ·simp only[(opM_at c s o).2];exact hca
 unfold tickM
 by_cases hz:((s.bk+1:Nat):Int) % c.epochLen=0
 ·simp only[if_pos hz]
  show(boundM c {s with bk:=s.bk+1}).s.ca≤_
  obtain ⟨e,t,ch,hB⟩:=bound_w hc h hb hz
  have hsup:=h.sup;have hsc:=hc.sc
  rw[hB.ca]
  split
  ·omega
  ·rename_i hne
   have hle:=takeW_le (bals s.V) (s.fo++s.vo) (granted s.ca ch)
   have hlt:=takeW_stop (bals s.V) (s.fo++s.vo) (granted s.ca ch)
   rw[← hB.tE] at hlt hle
   obtain ⟨hh,r,_,h2⟩:=hlt (by omega)
   have:=wAt_le h.bal0 hh
   omega
 ·simp only[if_neg hz]
  exact hca
theorem deadline_ok {c:Cfg} (hc:CfOk c) {s:St} {q:HS} (h:Inv c s) (hj:JV c s.V q) (hs:SwI c s q) {p:Pr} {v:Val} {A:Int} (hp:PrA c s q p v A) (hend:(p.dl+1)*c.epochLen≤(s.bk:Int)+1) (hsl:(getR p.ix q.recs).ex.sl = -1) (hla:p.la≤c.forcedCap):((getR p.ix q.recs).ex.pd≠-1∧(getR p.ix q.recs).ex.pd≤p.dl∧((getR p.ix q.recs).pays.filter (·.fl)).length=1)∧v.st=6∧v.bal=0∧lateB q.ep (getR p.ix q.recs).ex=false:=by
 have hr:=hj.of hp.hv
 have hvo:=h.val _ _ hp.hv
 have hsw:=hs _ _ hp.hv
 have hnn:=swpB_nn hc
 have hm:=mW_pos hc
 have hel:=hc.el;have hun:=hc.un
 have hkd:=Int.le_max_right (ceilD (A+c.forcedCap) c.minChurn) 1
 have hkd:1≤kD c A:=hkd
 have hdist:=dist_rng h (List.getElem?_eq_some_iff.1 hp.hv).1
 have hvs:v.sl=false:=by
  cases hb:v.sl with
  | false=>rfl
  | true=>have:=(hr.sl1 hb).1;omega
 have hE:p.dl≤epo c s:=by
  unfold epo
  rw[Int.le_ediv_iff_mul_le (by omega)]
  rw[Int.add_mul] at hend;omega
 have heq:=hp.eq
 have hst:=hp.st
 have hex:v.ex≠-1:=fun k=>by
  have:=(hp.wt k).2 hla
  omega
 have has:=hp.as' hex hla
 have hwd:=hr.wd hvs
 rw[if_neg hex] at hwd
 have h3:=hvo.e3;have h4:=hvo.w4
 have hn5:v.st≠5:=fun k=>by
  have h5:=hsw.five k hvs
  have e:swpB c=(c.capacity - 1) / mW c / c.epochLen:=rfl
  obtain ⟨X,hX⟩:∃ X,(c.capacity - 1) / mW c=X:=⟨_,rfl⟩
  rw[hX] at e
  have x1:=Int.emod_add_mul_ediv (c.capacity - 1) (mW c)
  have x2:=Int.emod_lt_of_pos (c.capacity - 1) (show 0<mW c by omega)
  have y1:=Int.emod_add_mul_ediv X c.epochLen
  have y2:=Int.emod_lt_of_pos X (show 0<c.epochLen by omega)
  rw[hX] at x1
  rw[← e] at y1
  have z1:(swpB c+1)*c.epochLen≤(p.dl+1 - v.wd)*c.epochLen:=Int.mul_le_mul_of_nonneg_right (by omega) (by omega)
  have z2:(p.dl+1 - v.wd)*c.epochLen=(p.dl+1)*c.epochLen - v.wd*c.epochLen:=Int.sub_mul _ _ _
  have z3:(swpB c+1)*c.epochLen=c.epochLen*swpB c+c.epochLen:=by rw[Int.add_mul,Int.one_mul,Int.mul_comm]
  have z4:X+1≤(s.bk:Int)+1 - v.wd*c.epochLen:=by omega
  have z5:mW c*(X+1)≤mW c*((s.bk:Int)+1 - v.wd*c.epochLen):=Int.mul_le_mul_of_nonneg_left z4 (by omega)
  rw[Int.mul_add,Int.mul_one] at z5
  omega
 have h6:v.st=6:=by omega
 have hpd:=hsw.six h6 hvs
 have hp1:=hr.fu1 h6
 have hx0:=hvo.ex
 refine⟨⟨by omega,by omega,hr.fu2 h6⟩,h6,hvo.fin (.inl h6),?_⟩
 have hdl:=hp.dl
 unfold lateB
 split
 ·rfl
 split
 ·omega
 ·rw[decide_eq_false_iff_not,hdl];omega
end
section
open Go.RowKit
def prTo (f:Pr→Pr) (P:List Pr) (k:Nat):List Pr:=(P.take k).map f++P.drop k
theorem prTo_zero (f:Pr→Pr) (P:List Pr):prTo f P 0=P:=by simp[prTo]
theorem prTo_all (f:Pr→Pr) (P:List Pr):prTo f P P.length=P.map f:=by simp[prTo]
theorem prTo_len (f:Pr→Pr) (P:List Pr) (k:Nat):(prTo f P k).length=P.length:=by
 simp only[prTo,List.length_append,List.length_map,List.length_take,List.length_drop];omega
theorem prTo_step {f:Pr→Pr} {P:List Pr} {k:Nat} {p:Pr} (h:P[k]? = some p):(prTo f P k)[k]? = some p∧(prTo f P k).set k (f p)=prTo f P (k+1)∧(f p=p→prTo f P k=prTo f P (k+1)):=by
 obtain ⟨hk,hp⟩:=List.getElem?_eq_some_iff.1 h
 have hl:((P.take k).map f).length=k:=by rw[List.length_map,List.length_take];omega
 have hd:P.drop k=p::P.drop (k+1):=by rw[List.drop_eq_getElem_cons hk,hp]
 have h1:(prTo f P k)[k]? = some p:=by
  unfold prTo
  rw[List.getElem?_append_right (by omega),hl,hd];simp
 have h2:(prTo f P k).set k (f p)=prTo f P (k+1):=by
  unfold prTo
  rw[List.set_append,if_neg (by omega),hl,Nat.sub_self,hd,List.set_cons_zero,List.take_add_one,h]
  simp
 refine⟨h1,h2,fun e=>?_⟩
 rw[← h2,e]
 apply List.ext_getElem?
 intro j
 rw[List.getElem?_set]
 by_cases hj:k=j
 ·subst hj
  rw[if_pos rfl,if_pos (List.getElem?_eq_some_iff.1 h1).1,h1]
 ·rw[if_neg hj]
theorem prM_take {asg:List Asg} {i:Nat} {y:Asg} (h:asg[i]? = some y) (P:List Pr):prM (asg.take (i+1)) P=(prM (asg.take i) P).map (mk1 y):=by
 unfold prM
 rw[List.take_add_one,h,List.foldl_append];rfl
theorem prM_len:∀ (asg:List Asg) (P:List Pr),(prM asg P).length=P.length
 | [],P=>rfl
 | a::r,P=>by
  have:=prM_len r (P.map (mk1 a))
  simp only[prM,List.foldl_cons] at this ⊢
  rw[this,List.length_map]
theorem mk1_la (a:Asg) (p:Pr):(mk1 a p).la=p.la∧(mk1 a p).dl=p.dl∧(mk1 a p).ix=p.ix:=by
 unfold mk1;split<;>exact⟨rfl,rfl,rfl⟩
theorem prM_la:∀ (asg:List Asg) (P:List Pr),∀ p∈prM asg P,∃ p0∈P,p.la=p0.la∧p.dl=p0.dl
 | [],P,p,h=>⟨p,h,rfl,rfl⟩
 | a::r,P,p,h=>by
  obtain ⟨p1,h1,e1,e2⟩:=prM_la r (P.map (mk1 a)) p h
  obtain ⟨p0,h0,rfl⟩:=List.mem_map.1 h1
  exact⟨p0,h0,e1.trans (mk1_la a p0).1,e2.trans (mk1_la a p0).2.1⟩
structure LD (c:Cfg) (s:St) (q:HS) (k:Nat) (P:List Pr):Prop where
 lk:LK c s q k
 ca:s.ca≤1152921504606846976
 sw:SwI c s q
 pr:∀ p∈P,∃ v A,PrA c s q p v A
 la:∀ p∈P,p.la≤1099511627776*k
 dl:∀ p∈P,-1≤p.dl∧p.dl≤1099511627776
 pl:P.length≤k
theorem LD.iniD {c:Cfg} (hc:CfOk c):LD c St.ini ⟨[],[],0,0,[]⟩ 0 []:=⟨LK.iniL hc,by simp[St.ini],SwI.iniS c _,by simp,by simp,by simp,Nat.le_refl _⟩
theorem getZ_bal {c:Cfg} {s:St} (h:Inv c s) (i:Int):0≤(getZ s.V i).bal∧(getZ s.V i).bal≤c.supplyCap:=by
 have hz:(0:Int)≤c.supplyCap:=by have:=sum_nonneg _ h.bal0;have:=h.sup;omega
 unfold getZ
 split
 ·exact⟨by simp[Val.zero],by simpa[Val.zero] using hz⟩
 ·rw[List.getD_eq_getElem?_getD]
  cases hv:s.V[i.toNat]? with
  | none=>exact⟨by simp[Val.zero],by simpa[Val.zero] using hz⟩
  | some v =>
   have h1:=sum_mem_le _ h.bal0 v.bal (List.mem_of_getElem? (bals_get hv))
   have h2:=h.sup
   have h3:=(h.val _ _ hv).b
   simp only[Option.getD_some]
   exact⟨h3,by omega⟩
theorem stepP_cases (c:Cfg) (s:St) (o:Opn) (P:List Pr):∀ p∈stepP c s o P,(∃ p0∈P,(p.la=p0.la∨p.la=p0.la+(getZ (stepM c s o).2.V o.ix).bal)∧p.dl=p0.dl)∨p.la=0∧p.dl=(stepM c s o).1.dl:=fun p hp=>by
 have h1:∀ p∈prM (stepM c s o).1.asg P,∃ p0∈P,(p.la=p0.la∨p.la=p0.la+(getZ (stepM c s o).2.V o.ix).bal)∧p.dl=p0.dl:=fun p hp=>by
  obtain ⟨p0,h0,e1,e2⟩:=prM_la _ _ p hp
  exact⟨p0,h0,.inl e1,e2⟩
 unfold stepP at hp
 split at hp
 ·exact .inl (h1 p hp)
 ·rcases List.mem_append.1 hp with hp|hp
  ·split at hp
   ·obtain ⟨p1,hp1,rfl⟩:=List.mem_map.1 hp
    obtain ⟨p0,h0,e1,e2⟩:=prM_la _ _ p1 hp1
    obtain ⟨_,l2,_,l4⟩:=laP_eq (getZ (stepM c s o).2.V o.ix).bal p1
    refine .inl ⟨p0,h0,?_,l2.trans e2⟩
    rw[l4]
    split
    ·exact .inl e1
    ·exact .inr (by rw[e1])
   ·exact .inl (h1 p hp)
  ·split at hp
   ·simp only[List.mem_singleton] at hp
    subst hp
    exact .inr ⟨rfl,rfl⟩
   ·simp at hp
theorem stepP_len (c:Cfg) (s:St) (o:Opn) (P:List Pr):(stepP c s o P).length≤P.length+1:=by
 unfold stepP
 split
 ·rw[prM_len];omega
 ·rw[List.length_append]
  have h1:(if forcedB o.k (getZ s.V o.ix)=true then (prM (stepM c s o).1.asg P).map (laP (getZ (stepM c s o).2.V o.ix).bal) else prM (stepM c s o).1.asg P).length=P.length:=by
   split
   ·rw[List.length_map,prM_len]
   ·rw[prM_len]
  rw[h1]
  split<;>simp
theorem LD.stepD {c:Cfg} (hc:CfOk c) (hs:c.capacity≤100∧c.payments≤200) (hsc:c.supplyCap≤1099511627776) {s:St} {q:HS} {k:Nat} {P:List Pr} (h:LD c s q k P) (hk:k<100000) (o:Opn) (ho1:I64 o.k) (ho2:U64 o.am):LD c (stepM c s o).2 (hAdd o.k (stepM c s o).1 q) (k+1) (stepP c s o P):=by
 have hb:=h.lk.bk
 have hI:=(stepM_inv hc h.lk.inv (by omega) o ho2).1
 obtain ⟨z1,z2⟩:=getZ_bal hI o.ix
 obtain ⟨w,_⟩:=step_wf hc h.lk.inv (by omega) o ho1 ho2
 have hdl:-1≤(stepM c s o).1.dl∧(stepM c s o).1.dl≤1099511627776:=by
  unfold stepM
  split
  ·exact⟨by show(-1:Int)≤-1;omega,by show(-1:Int)≤_;omega⟩
  ·exact(opM_rng hc h.lk.inv o ho2).2
 refine⟨h.lk.stepL hc hs hk o ho1 ho2,step_ca hc h.lk.inv (by omega) o h.ca,step_Sw hc h.lk.inv (by omega) o h.lk.jv h.sw,step_P hc h.lk.inv (by omega) h.ca h.lk.jv o h.pr,fun p hp=>?_,fun p hp=>?_,by have:=stepP_len c s o P;have:=h.pl;omega⟩
 ·rcases stepP_cases c s o P p hp with⟨p0,h0,h1,_⟩|⟨h1,_⟩
  ·have:=h.la p0 h0
   omega
  ·omega
 ·rcases stepP_cases c s o P p hp with⟨p0,h0,_,h1⟩|⟨_,h1⟩
  ·rw[h1];exact h.dl p0 h0
  ·rw[h1];exact hdl
structure LU (c:Cfg) (P:List Pr) (s:St) (q:HS):Prop where
 ca:s.ca≤1152921504606846976
 sw:SwI c s q
 pr:∀ p∈P,∃ b v A,PrA c s q {p with asd:=b} v A
theorem LD.lu {c:Cfg} {s:St} {q:HS} {k:Nat} {P:List Pr} (h:LD c s q k P):LU c P s q:=⟨h.ca,h.sw,fun p hp=>by
 obtain ⟨v,A,hA⟩:=h.pr p hp
 exact⟨p.asd,v,A,hA⟩⟩
theorem LU.tick {c:Cfg} (hc:CfOk c) {P:List Pr} {s:St} {q:HS} {k:Nat} (hl:LK c s q k) (hk:k<100000) (h:LU c P s q):LU c P (stepM c s ⟨7,0,0,0⟩).2 (hAdd 7 (stepM c s ⟨7,0,0,0⟩).1 q):=by
 have hb:=hl.bk
 refine⟨step_ca hc hl.inv (by omega) _ h.ca,step_Sw hc hl.inv (by omega) ⟨7,0,0,0⟩ hl.jv h.sw,fun p hp=>?_⟩
 obtain ⟨b,v,A,hA⟩:=h.pr p hp
 have hS:=step_P hc hl.inv (by omega) h.ca hl.jv ⟨7,0,0,0⟩ (P:=[{p with asd:=b}]) (by simp only[List.mem_singleton];rintro x rfl;exact⟨v,A,hA⟩)
 have e:stepP c s ⟨7,0,0,0⟩ [{p with asd:=b}]=prM (stepM c s ⟨7,0,0,0⟩).1.asg [{p with asd:=b}]:=by
  unfold stepP
  simp[forcedB]
 rw[e,prM_map] at hS
 obtain ⟨v2,A2,h2⟩:=hS _ (by simp only[List.map_cons,List.map_nil,List.mem_singleton];rfl)
 have em:∀ (l:List Asg) (x:Pr),∃ b',l.foldl (fun p a=>mk1 a p) x={x with asd:=b'}:=fun l=>by
  induction l with
  | nil=>exact fun x=>⟨x.asd,rfl⟩
  | cons a r ih =>
   intro x
   obtain ⟨b',e⟩:=ih (mk1 a x)
   refine⟨b',?_⟩
   rw[List.foldl_cons,e]
   unfold mk1;split<;>rfl
 obtain ⟨b',e'⟩:=em (stepM c s ⟨7,0,0,0⟩).1.asg {p with asd:=b}
 rw[e'] at h2
 exact⟨b',v2,A2,h2⟩
theorem tick_bk (c:Cfg) (s:St):(stepM c s ⟨7,0,0,0⟩).2.bk=s.bk+1:=by
 unfold stepM
 rw[if_pos rfl]
 unfold tickM
 show(if _ then boundM c _ else _:Bd).s.bk=_
 split<;>rfl
theorem acc_ix {c:Cfg} {s:St} {o:Opn} (h:(stepM c s o).1.c=0) (hk:o.k=2∨o.k=3):0≤o.ix:=by
 unfold stepM opM at h
 rcases hk with hk|hk
 ·simp only[hk,Int.reduceEq,if_false,if_true] at h
  obtain ⟨_,_,h0,_⟩:=opLeave_ok h
  exact h0
 ·simp only[hk,Int.reduceEq,if_false,if_true] at h
  obtain ⟨_,_,h0,_⟩:=opLeave_ok h
  exact h0
end
end Go.Proofs.YtjbfcacmdahnhaaGreat
