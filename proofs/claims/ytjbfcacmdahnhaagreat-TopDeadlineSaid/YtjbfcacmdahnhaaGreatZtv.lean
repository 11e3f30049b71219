import Derived.Test.YtjbfcacmdahnhaaGreatZtu
set_option linter.unusedVariables false
set_option linter.unusedSimpArgs false
set_option linter.unusedSectionVars false
set_option maxRecDepth 100000
set_option maxHeartbeats 8000000
namespace Go.Proofs.YtjbfcacmdahnhaaGreat
section
open Go.RowKit
abbrev asO (q:HS) (i:Int):Int:=(getR i q.recs).ex.asg
abbrev clO (q:HS) (i:Int):Int:=(getR i q.recs).ex.cl
def Oq (q:HS) (cl:Int) (fo:List Nat):Prop:=∃ A:List Int,q.ord.filter (fun i=>decide ((getR i q.recs).ex.cl=cl))=A++fo.map (fun n:Nat=>(n:Int))∧(∀ a∈A,asO q a≠-1)∧A.Pairwise fun a b=>asO q a≤asO q b
structure FQ (s:St) (q:HS):Prop where
 ok:∀ i∈q.ord,∃ n:Nat,i=n∧n<s.V.length∧(getR i q.recs).rd=true
 o0:Oq q 0 s.fo
 o1:Oq q 1 s.vo
theorem FQ.ini:FQ St.ini ⟨[],[],0,0,[]⟩:=⟨by simp,⟨[],by simp[St.ini],by simp,.nil⟩,⟨[],by simp[St.ini],by simp,.nil⟩⟩
theorem Oq.sub {q:HS} {cl:Int} {A:List Int} {fo:List Nat} (h:q.ord.filter (fun i=>decide ((getR i q.recs).ex.cl=cl))=A++fo.map (fun n:Nat=>(n:Int))) {a:Int} (ha:a∈A):a∈q.ord :=
 (List.mem_filter.1 (h ▸ List.mem_append_left _ ha)).1
theorem Oq.same {q q':HS} {cl:Int} {fo:List Nat} (h:Oq q cl fo) (ho:q'.ord=q.ord) (hr:∀ i∈q.ord,clO q' i=clO q i∧asO q' i=asO q i):Oq q' cl fo:=by
 obtain ⟨A,h1,h2,h3⟩:=h
 refine⟨A,?_,fun a ha=>?_,h3.imp_of_mem fun {a b} ha hb hle=>?_⟩
 ·rw[← h1,ho]
  exact List.filter_congr fun x hx=>by
   show decide (clO q' x=cl)=decide (clO q x=cl)
   rw[(hr x hx).1]
 ·rw[(hr a (Oq.sub h1 ha)).2];exact h2 a ha
 ·rw[(hr a (Oq.sub h1 ha)).2,(hr b (Oq.sub h1 hb)).2];exact hle
theorem Oq.begin {q q':HS} {cl cl':Int} {fo:List Nat} (h:Oq q cl fo) (n:Nat) (ho:q'.ord=q.ord++[(n:Int)]) (hr:∀ i∈q.ord,clO q' i=clO q i∧asO q' i=asO q i) (hi:clO q' n=cl'):Oq q' cl (if cl'=cl then fo++[n] else fo):=by
 obtain ⟨A,h1,h2,h3⟩:=h
 refine⟨A,?_,fun a ha=>?_,h3.imp_of_mem fun {a b} ha hb hle=>?_⟩
 ·rw[ho,List.filter_append]
  have e1:q.ord.filter (fun i=>decide ((getR i q'.recs).ex.cl=cl))=A++fo.map (fun n:Nat=>(n:Int)):=by
   rw[← h1]
   exact List.filter_congr fun x hx=>by
    show decide (clO q' x=cl)=decide (clO q x=cl)
    rw[(hr x hx).1]
  rw[e1]
  by_cases hc:cl'=cl
  ·simp[hi,hc]
  ·simp[hi,hc]
 ·rw[(hr a (Oq.sub h1 ha)).2];exact h2 a ha
 ·rw[(hr a (Oq.sub h1 ha)).2,(hr b (Oq.sub h1 hb)).2];exact hle
theorem Oq.take {q q':HS} {cl E:Int} {fo:List Nat} (h:Oq q cl fo) (ho:q'.ord=q.ord) (hcl:∀ i∈q.ord,clO q' i=clO q i) (k:Nat) (hA:∀ a∈q.ord,asO q a≠-1→asO q' a=asO q a∧asO q a≤E) (hk:∀ n∈fo.take k,asO q' (n:Int)=E) (hE:E≠-1):Oq q' cl (fo.drop k):=by
 obtain ⟨A,h1,h2,h3⟩:=h
 refine⟨A++(fo.take k).map (fun n:Nat=>(n:Int)),?_,fun a ha=>?_,List.pairwise_append.2 ⟨h3.imp_of_mem fun {a b} ha hb hle=>?_,?_,fun a ha b hb=>?_⟩⟩
 ·rw[List.append_assoc,← List.map_append,List.take_append_drop,← h1,ho]
  exact List.filter_congr fun x hx=>by
   show decide (clO q' x=cl)=decide (clO q x=cl)
   rw[hcl x hx]
 ·rcases List.mem_append.1 ha with ha|ha
  ·rw[(hA a (Oq.sub h1 ha) (h2 a ha)).1];exact h2 a ha
  ·obtain ⟨n,hn,rfl⟩:=List.mem_map.1 ha
   rw[hk n hn];exact hE
 ·rw[(hA a (Oq.sub h1 ha) (h2 a ha)).1,(hA b (Oq.sub h1 hb) (h2 b hb)).1];exact hle
 ·rw[List.pairwise_map]
  exact List.Pairwise.imp_of_mem (R:=fun _ _=>True) (fun {a b} ha hb _=>by rw[hk a ha,hk b hb];exact Int.le_refl _) (List.pairwise_of_forall fun _ _=>trivial)
 ·obtain ⟨n,hn,rfl⟩:=List.mem_map.1 hb
  obtain ⟨e1,e2⟩:=hA a (Oq.sub h1 ha) (h2 a ha)
  rw[e1,hk n hn];exact e2
theorem foldA_cl:∀ (l:List Asg) (q:HS) (i:Int),clO (l.foldl addA q) i=clO q i∧(getR i (l.foldl addA q).recs).rd=(getR i q.recs).rd
 | [],q,i=>⟨rfl,rfl⟩
 | y::l,q,i=>by
  obtain ⟨h1,h2⟩:=foldA_cl l (addA q y) i
  have e:clO (addA q y) i=clO q i∧(getR i (addA q y).recs).rd=(getR i q.recs).rd:=by
   simp only[clO,addA]
   rw[getR_set]
   split
   ·rename_i h;subst h
    unfold hAsg;split<;>exact⟨rfl,rfl⟩
   ·exact⟨rfl,rfl⟩
  exact⟨h1.trans e.1,h2.trans e.2⟩
theorem foldP_cl (ep:Int):∀ (l:List Pm) (q:HS) (i:Int),clO (l.foldl (addP ep) q) i=clO q i∧(getR i (l.foldl (addP ep) q).recs).rd=(getR i q.recs).rd∧asO (l.foldl (addP ep) q) i=asO q i
 | [],q,i=>⟨rfl,rfl,rfl⟩
 | y::l,q,i=>by
  obtain ⟨h1,h2,h3⟩:=foldP_cl ep l (addP ep q y) i
  have e:clO (addP ep q y) i=clO q i∧(getR i (addP ep q y).recs).rd=(getR i q.recs).rd∧asO (addP ep q y) i=asO q i:=by
   simp only[clO,asO,addP]
   rw[getR_set]
   split
   ·rename_i h;subst h
    unfold hPayR;split<;>exact⟨rfl,rfl,rfl⟩
   ·exact⟨rfl,rfl,rfl⟩
  exact⟨h1.trans e.1,h2.trans e.2.1,h3.trans e.2.2⟩
theorem addS_keep (x:Rc) (q:HS) (i:Int):(getR i (addS x q).recs).rd=(getR i q.recs).rd∧clO (addS x q) i=clO q i∧asO (addS x q) i=asO q i:=by
 simp only[clO,asO,addS]
 rw[getR_set]
 split
 ·rename_i h;subst h
  unfold slashR;split<;>exact⟨rfl,rfl,rfl⟩
 ·exact⟨rfl,rfl,rfl⟩
theorem bound_ex {c:Cfg} (hc:CfOk c) {s:St} (h:Inv c s) (hb:s.bk<1000000000) (hz:((s.bk+1:Nat):Int) % c.epochLen=0):∃ (e:Int) (t:Nat),e=epo c {s with bk:=s.bk+1}∧1≤e∧epo c s=e - 1∧(boundM c {s with bk:=s.bk+1}).ag=asgs (e+1) s.fo s.vo t∧(boundM c {s with bk:=s.bk+1}).s.fo=s.fo.drop t∧(boundM c {s with bk:=s.bk+1}).s.vo=s.vo.drop (t - s.fo.length)∧(∀ i∈(s.fo++s.vo).take t,∃ v,s.V[i]? = some v∧v.st=3∧v.ex = -1)∧∀ (i:Nat) v,s.V[i]? = some v→∃ v',(boundM c {s with bk:=s.bk+1}).s.V[i]? = some v'∧v'.ex=if i∈(s.fo++s.vo).take t then e+1 else v.ex:=by
 obtain ⟨e,V2,V3,V4,t,n,he,he1,hV2,hV3,hV4,k1,k2,k3,k4,hval,hw,hp,_⟩:=bound_parts hc h hb hz
 have hnd:((s.fo++s.vo).take t).Nodup:=h.ex.nd.sublist (List.take_sublist _ _)
 have hep:=epo_next hc hz
 refine⟨e,t,he,he1,by omega,k2,k3,k4,fun i hi=>(h.ex.mem i).1 (List.mem_of_mem_take hi),fun i v hv=>?_⟩
 rw[k1]
 have g2:V2[i]? = some (gV e v):=by rw[hV2,List.getElem?_map,hv];rfl
 have g3:∃ u,V3[i]? = some u∧u.ex=if i∈(s.fo++s.vo).take t then e+1 else v.ex:=by
  rw[hV3,mods_get _ _ _ _ hnd,g2]
  split
  ·exact⟨_,rfl,rfl⟩
  ·exact⟨_,rfl,(gV_wd e v).2.1⟩
 obtain ⟨u,hu,hue⟩:=g3
 have g4:∃ u',V4[i]? = some u'∧u'.ex=u.ex:=by
  rw[hV4,mods_get _ _ _ _ (h.pe.nd.sublist (List.take_sublist _ _)),hu]
  split
  ·exact⟨_,rfl,rfl⟩
  ·exact⟨_,rfl,rfl⟩
 obtain ⟨u',hu',hue'⟩:=g4
 obtain ⟨u2,hu2,hue2⟩:=mers_ex c (s.me.take c.merges.toNat) V4 i u' hu'
 exact⟨u2,hu2,by rw[hue2,hue',hue]⟩
theorem FQ.same {s s':St} {q q':HS} (h:FQ s q) (hl:s.V.length≤s'.V.length) (h1:s'.fo=s.fo) (h2:s'.vo=s.vo) (ho:q'.ord=q.ord) (hr:∀ i∈q.ord,clO q' i=clO q i∧asO q' i=asO q i∧(getR i q'.recs).rd=(getR i q.recs).rd):FQ s' q' :=
 ⟨fun i hi=>by
  rw[ho] at hi
  obtain ⟨n,e1,e2,e3⟩:=h.ok i hi
  exact⟨n,e1,by omega,by rw[(hr i hi).2.2];exact e3⟩,by rw[h1];exact h.o0.same ho fun i hi=>⟨(hr i hi).1,(hr i hi).2.1⟩,by rw[h2];exact h.o1.same ho fun i hi=>⟨(hr i hi).1,(hr i hi).2.1⟩⟩
theorem pay_len {c:Cfg} (hc:CfOk c) {s:St} (h:Inv c s):(payM c s).s.V.length=s.V.length∧(payM c s).s.fo=s.fo∧(payM c s).s.vo=s.vo:=by
 obtain ⟨_,l,hP⟩:=payM_inv hc h
 refine⟨?_,rfl,rfl⟩
 rw[hP.V,mods_len]
 exact(pars_still c _ (s.V,[])).1
theorem bound_FQ {c:Cfg} (hc:CfOk c) {s:St} (h:Inv c s) (hb:s.bk<1000000000) (hz:((s.bk+1:Nat):Int) % c.epochLen=0) {q:HS} (hj:JV c s.V q) (hf:FQ s q):FQ (boundM c {s with bk:=s.bk+1}).s ((boundM c {s with bk:=s.bk+1}).ag.foldl addA q):=by
 have hj2:=bound_J hc h hb hz hj
 obtain ⟨e,t,he,he1,he2,k2,k3,k4,hw,hx⟩:=bound_ex hc h hb hz
 obtain ⟨ko,_,_⟩:=foldA_keep (boundM c {s with bk:=s.bk+1}).ag q
 have hcl:=foldA_cl (boundM c {s with bk:=s.bk+1}).ag q
 have hlen:s.V.length≤(boundM c {s with bk:=s.bk+1}).s.V.length:=by
  by_cases hl:s.V.length=0
  ·omega
  ·obtain ⟨v',hv',_⟩:=hx (s.V.length - 1) _ (List.getElem?_eq_getElem (by omega))
   have:=(List.getElem?_eq_some_iff.1 hv').1
   omega
 generalize (boundM c {s with bk:=s.bk+1}).ag.foldl addA q=q' at *
 generalize (boundM c {s with bk:=s.bk+1}).s=s' at *
 have has:∀ (i:Nat),i<s.V.length→asO q' i=if i∈(s.fo++s.vo).take t then e+1 else asO q i:=fun i hi=>by
  have hv:s.V[i]? = some s.V[i]:=List.getElem?_eq_getElem hi
  obtain ⟨v',hv',e1⟩:=hx i _ hv
  show(getR i q'.recs).ex.asg=_
  rw[(hj2.of hv').asg,e1]
  show _=if _ then _ else (getR i q.recs).ex.asg
  rw[(hj.of hv).asg]
 have hA:∀ a∈q.ord,asO q a≠-1→asO q' a=asO q a∧asO q a≤e+1:=fun a ha hne=>by
  obtain ⟨n,rfl,hn,_⟩:=hf.ok a ha
  have hv:s.V[n]? = some s.V[n]:=List.getElem?_eq_getElem hn
  have e1:=(hj.of hv).asg
  have e2:=(h.val n _ hv).ex
  rw[has n hn]
  split
  ·rename_i hi
   obtain ⟨v,hv2,_,hx2⟩:=hw n hi
   rw[hv] at hv2
   obtain rfl:=Option.some.inj hv2
   exact absurd (e1.trans hx2) hne
  ·refine⟨rfl,?_⟩
   show(getR n q.recs).ex.asg≤_
   omega
 have hk:∀ i∈(s.fo++s.vo).take t,asO q' (i:Int)=e+1:=fun i hi=>by
  obtain ⟨v,hv,_⟩:=hw i hi
  rw[has i (List.getElem?_eq_some_iff.1 hv).1,if_pos hi]
 refine⟨fun i hi=>?_,?_,?_⟩
 ·rw[ko] at hi
  obtain ⟨n,e1,e2,e3⟩:=hf.ok i hi
  exact⟨n,e1,by omega,by rw[(hcl i).2];exact e3⟩
 ·rw[k3]
  exact hf.o0.take ko (fun i _=>(hcl i).1) t hA (fun n hn=>hk n (by rw[List.take_append];exact List.mem_append_left _ hn)) (by omega)
 ·rw[k4]
  exact hf.o1.take ko (fun i _=>(hcl i).1) (t - s.fo.length) hA (fun n hn=>hk n (by rw[List.take_append];exact List.mem_append_right _ hn)) (by omega)
theorem step_FQ {c:Cfg} (hc:CfOk c) {s:St} (h:Inv c s) (hb:s.bk<1000000000) (o:Opn) {q:HS} (hj:JV c s.V q) (hf:FQ s q):FQ (stepM c s o).2 (hAdd o.k (stepM c s o).1 q):=by
 by_cases h7:o.k=7
 ·unfold stepM
  rw[if_pos h7]
  have key:∀ (B:Bd),Inv c B.s→FQ B.s (B.ag.foldl addA q)→FQ (payM c B.s).s (hAdd o.k ⟨7,0,-1,s.bk+1,epo c {s with bk:=s.bk+1},-1,(payM c B.s).vi,B.ag,(payM c B.s).pm⟩ q):=fun B hB hF=>by
   obtain ⟨p1,p2,p3⟩:=pay_len hc hB
   obtain ⟨o1,_,_,_⟩:=foldP_keep (epo c {s with bk:=s.bk+1}) (payM c B.s).pm (B.ag.foldl addA {q with n:=q.n+1,ep:=epo c {s with bk:=s.bk+1}})
   have er:=foldA_recs B.ag (q:=q) (q':={q with n:=q.n+1,ep:=epo c {s with bk:=s.bk+1}}) rfl
   have eo:=(foldA_keep B.ag {q with n:=q.n+1,ep:=epo c {s with bk:=s.bk+1}}).1
   have eo2:=(foldA_keep B.ag q).1
   unfold hAdd
   simp only[h7,ne_eq,not_true_eq_false,if_false,Int.reduceEq]
   refine hF.same (by omega) p2 p3 (by rw[o1,eo,eo2]) fun i hi=>?_
   obtain ⟨f1,f2,f3⟩:=foldP_cl (epo c {s with bk:=s.bk+1}) (payM c B.s).pm (B.ag.foldl addA {q with n:=q.n+1,ep:=epo c {s with bk:=s.bk+1}}) i
   exact⟨f1.trans (by simp only[clO,er]),f3.trans (by simp only[asO,er]),f2.trans (by rw[er])⟩
  unfold tickM
  by_cases hz:((s.bk+1:Nat):Int) % c.epochLen=0
  ·simp only[if_pos hz]
   exact key _ (boundM_inv hc h hb hz) (bound_FQ hc h hb hz hj hf)
  ·simp only[if_neg hz]
   exact key ⟨[],{s with bk:=s.bk+1}⟩ (Inv.same hc h hb hz) (hf.same (Nat.le_refl _) rfl rfl rfl fun _ _=>⟨rfl,rfl,rfl⟩)
 ·by_cases hr:(stepM c s o).1.c=0
  rotate_left
  ·obtain ⟨e,_⟩:=step_rej hr
   rw[e,hAdd,if_pos hr]
   exact hf.same (Nat.le_refl _) rfl rfl rfl fun _ _=>⟨rfl,rfl,rfl⟩
  unfold stepM at hr ⊢
  rw[if_neg h7] at hr ⊢
  simp only at hr
  rw[hAdd,if_neg (by simp only;rw[hr];simp)]
  simp only[List.foldl_nil]
  unfold opM at hr ⊢
  have fresh:∀ (n:Nat) (cl:Int) (f g:List Nat) (q2:HS),n<s.V.length→(getR n q.recs).rd=false→q2.ord=q.ord++[(n:Int)]→(∀ j:Int,j≠n→getR j q2.recs=getR j q.recs)→clO q2 n=cl→(getR n q2.recs).rd=true→f=(if cl=0 then s.fo++[n] else s.fo)→g=(if cl=1 then s.vo++[n] else s.vo)→∀ s':St,s'.V.length=s.V.length→s'.fo=f→s'.vo=g→FQ s' q2:=fun n cl f g q2 hn hnr ho hsame hc2 hrd ef eg s' hl e1 e2=>by
   have hne:∀ i∈q.ord,i≠(n:Int):=fun i hi e=>by
    obtain ⟨_,_,_,e3⟩:=hf.ok i hi
    rw[e,hnr] at e3;cases e3
   have hsm:∀ i∈q.ord,clO q2 i=clO q i∧asO q2 i=asO q i:=fun i hi=>by
    simp only[clO,asO,hsame i (hne i hi)];exact⟨trivial,trivial⟩
   refine⟨fun i hi=>?_,?_,?_⟩
   ·rw[ho] at hi
    rcases List.mem_append.1 hi with hi|hi
    ·obtain ⟨m,a1,a2,a3⟩:=hf.ok i hi
     exact⟨m,a1,by omega,by rw[hsame i (hne i hi)];exact a3⟩
    ·simp only[List.mem_singleton] at hi
     exact⟨n,hi,by omega,by rw[hi];exact hrd⟩
   ·rw[e1,ef];exact hf.o0.begin n ho hsm hc2
   ·rw[e2,eg];exact hf.o1.begin n ho hsm hc2
  have nord:∀ {n:Nat} {v:Val},s.V[n]? = some v→v.st=2→(getR n q.recs).rd=false:=fun hv h2=>by rw[(hj.of hv).rd,h2];rfl
  by_cases h1:o.k=1
  ·simp only[h1,if_true,Int.reduceEq,if_false] at hr ⊢
   rw[opDep_ok hr]
   exact hf.same (by simp) rfl rfl rfl fun _ _=>⟨rfl,rfl,rfl⟩
  have lv:∀ cl:Int,(cl=0∨cl=1)→(opLeave c s cl o.ix).c=0→∀ q3:HS,q3.recs=q.recs→q3.ord=q.ord→FQ (opLeave c s cl o.ix).s (addB cl ⟨o.k,(opLeave c s cl o.ix).c,(opLeave c s cl o.ix).ix,s.bk,epo c s,(opLeave c s cl o.ix).dl,0,[],[]⟩ q3):=fun cl hcl hr q3 r1 r2=>by
   obtain ⟨v,t,k0,k1,k2,_,k3⟩:=opLeave_ok hr
   obtain ⟨n,hn⟩:∃ n:Nat,o.ix=n:=⟨o.ix.toNat,by omega⟩
   rw[k3]
   rw[hn,Int.toNat_natCast] at k1 ⊢
   have hnl:=(List.getElem?_eq_some_iff.1 k1).1
   have hrd:=nord k1 k2
   refine fresh n cl _ _ _ hnl hrd ?_ (fun j hj2=>?_) ?_ ?_ rfl rfl _ ?_ ?_ ?_
   ·simp only[addB,r1,r2,beginO,hrd];simp
   ·simp only[addB];rw[getR_set,if_neg (Ne.symm hj2),r1]
   ·simp only[clO,addB];rw[getR_set,if_pos rfl,r1];unfold beginR;rw[hrd];simp
   ·simp only[addB];rw[getR_set,if_pos rfl,r1];unfold beginR;rw[hrd];simp
   ·rcases hcl with rfl|rfl<;>simp
   ·rcases hcl with rfl|rfl<;>simp
   ·rcases hcl with rfl|rfl<;>simp
  by_cases h2:o.k=2
  ·have e:=lv 1 (.inr rfl)
   simp only[h2,if_true,Int.reduceEq,if_false] at hr e ⊢
   exact e hr _ rfl rfl
  by_cases h3:o.k=3
  ·have e:=lv 0 (.inl rfl)
   simp only[h3,if_true,Int.reduceEq,if_false] at hr e ⊢
   exact e hr _ rfl rfl
  by_cases h4:o.k=4
  ·simp only[h4,if_true,Int.reduceEq,if_false] at hr ⊢
   obtain ⟨v,k0,k1,k2,k3,k4⟩:=opSlash_ok hr
   obtain ⟨n,hn⟩:∃ n:Nat,o.ix=n:=⟨o.ix.toNat,by omega⟩
   rw[k4]
   rw[hn,Int.toNat_natCast] at k1 ⊢
   have hnl:=(List.getElem?_eq_some_iff.1 k1).1
   simp only
   by_cases hv2:v.st=2
   ·have hrd:=nord k1 hv2
    refine fresh n 0 _ _ _ hnl hrd ?_ (fun j hj2=>?_) ?_ ?_ rfl rfl _ ?_ ?_ ?_
    ·show beginO _ (getR _ (addS _ _).recs) q.ord=_
     unfold beginO
     rw[if_neg (by rw[(addS_keep _ _ _).1];show ¬(getR (n:Int) q.recs).rd=true;rw[hrd];simp)]
    ·simp only[addB,addS];rw[getR_set,if_neg (Ne.symm hj2),getR_set,if_neg (Ne.symm hj2)]
    ·simp only[clO,addB,addS];rw[getR_set,if_pos rfl,getR_set,if_pos rfl];unfold beginR slashR;split<;>simp[hrd]
    ·simp only[addB,addS];rw[getR_set,if_pos rfl,getR_set,if_pos rfl];unfold beginR slashR;split<;>simp[hrd]
    ·simp
    ·simp[hv2]
    ·simp
   ·have hrd:(getR n q.recs).rd=true:=by rw[(hj.of k1).rd];simp;omega
    refine hf.same (by simp) (by simp[hv2]) rfl ?_ fun i hi=>?_
    ·show beginO _ (getR _ (addS _ _).recs) q.ord=_
     unfold beginO
     rw[if_pos (by rw[(addS_keep _ _ _).1];exact hrd)]
    ·simp only[clO,asO,addB,addS]
     by_cases hin:i=(n:Int)
     ·subst hin
      rw[getR_set,if_pos rfl,getR_set,if_pos rfl];unfold beginR slashR;split<;>simp[hrd]
     ·rw[getR_set,if_neg (Ne.symm hin),getR_set,if_neg (Ne.symm hin)];exact⟨rfl,rfl,rfl⟩
  by_cases h5:o.k=5
  ·simp only[h5,if_true,Int.reduceEq,if_false]
   obtain ⟨e1,e2,e3⟩:=opMerge_V c s o.ix o.tg
   exact hf.same (by rw[e1];exact Nat.le_refl _) e2 e3 rfl fun _ _=>⟨rfl,rfl,rfl⟩
  by_cases h6:o.k=6
  ·simp only[h6,if_true,Int.reduceEq,if_false]
   obtain ⟨e1,e2,e3⟩:=opPart_V c s o.ix o.am
   exact hf.same (by rw[e1];exact Nat.le_refl _) e2 e3 rfl fun _ _=>⟨rfl,rfl,rfl⟩
  simp only[h1,h2,h3,h4,h5,h6,if_false,no'] at hr
  simp at hr
end
section
open Go.RowKit
theorem merR_rng (c:Cfg) (V:List Val) (i j:Int):0≤merR c V i j∧merR c V i j≤20:=by
 unfold merR merC
 repeat' split
 all_goals omega
theorem parC_rng (V:List Val) (i x:Int):0≤parC V i x∧parC V i x≤20:=by
 unfold parC
 repeat' split
 all_goals omega
theorem opLeave_c (c:Cfg) (s:St) (cl ix:Int):0≤(opLeave c s cl ix).c∧(opLeave c s cl ix).c≤20:=by
 have ha:∀ v e,0≤(accR v e).1∧(accR v e).1≤20:=fun v e=>by unfold accR;split<;>simp
 unfold opLeave no'
 split
 ·simp
 ·split
  ·simp
  ·rename_i v _
   have:=ha v (epo c s)
   split
   ·exact this
   ·by_cases h3:c.queueSize≤(((if cl=0 then s.fo else s.vo).length:Nat):Int)
    ·rw[if_pos h3];simp
    ·rw[if_neg h3];split<;>simp
theorem opSlash_c (c:Cfg) (s:St) (ix:Int):0≤(opSlash c s ix).c∧(opSlash c s ix).c≤20:=by
 have ha:∀ v e,0≤(slaR v e c.slashDelay c.penNum c.penDen).1∧(slaR v e c.slashDelay c.penNum c.penDen).1≤20:=fun v e=>by
  unfold slaR;split
  ·simp
  ·split<;>simp
 unfold opSlash no'
 split
 ·simp
 ·split
  ·simp
  ·rename_i v _
   have:=ha v (epo c s)
   simp only
   split
   ·exact this
   ·split<;>simp
theorem opM_c (c:Cfg) (s:St) (o:Opn):0≤(opM c s o).c∧(opM c s o).c≤20:=by
 unfold opM
 split
 ·unfold opDep no'
  repeat' split
  all_goals simp
 split
 ·exact opLeave_c c s _ _
 split
 ·exact opLeave_c c s _ _
 split
 ·exact opSlash_c c s _
 split
 ·unfold opMerge no'
  split
  ·exact merR_rng c s.V _ _
  ·split<;>simp
 split
 ·unfold opPart no'
  split
  ·exact parC_rng s.V _ _
  ·split<;>simp
 ·simp[no']
theorem opM_rng {c:Cfg} (hc:CfOk c) {s:St} (h:Inv c s) (o:Opn) (ho:U64 o.am):(-1≤(opM c s o).ix∧(opM c s o).ix≤4096)∧(-1≤(opM c s o).dl∧(opM c s o).dl≤1099511627776):=by
 have hcap:=h.cap;have hca:=hc.ca
 by_cases hr:(opM c s o).c=0
 rotate_left
 ·obtain ⟨e1,e2⟩:=opM_no c s o hr
  rw[e1,e2];omega
 have lv:∀ cl:Int,(opLeave c s cl o.ix).c=0→Inv c (opLeave c s cl o.ix).s→(-1≤(opLeave c s cl o.ix).ix∧(opLeave c s cl o.ix).ix≤4096)∧(-1≤(opLeave c s cl o.ix).dl∧(opLeave c s cl o.ix).dl≤1099511627776):=fun cl hr hI=>by
  obtain ⟨v,t,k0,k1,_,_,k3⟩:=opLeave_ok hr
  have hl:=(List.getElem?_eq_some_iff.1 k1).1
  have hv:=hI.val o.ix.toNat (exV v (epo c s) t) (by
   rw[k3]
   simp only
   split<;>(simp only;rw[set_get k1,if_pos rfl]))
  have hd:=hv.dl
  rw[k3]
  simp only[exV] at hd ⊢
  omega
 have hI:=opM_inv hc h o ho
 unfold opM at hr hI ⊢
 by_cases h1:o.k=1
 ·simp only[h1,if_true] at hr ⊢
  rw[opDep_ok hr];simp only;omega
 by_cases h2:o.k=2
 ·simp only[h2,if_true,Int.reduceEq,if_false] at hr hI ⊢
  exact lv 1 hr hI
 by_cases h3:o.k=3
 ·simp only[h3,if_true,Int.reduceEq,if_false] at hr hI ⊢
  exact lv 0 hr hI
 by_cases h4:o.k=4
 ·simp only[h4,if_true,Int.reduceEq,if_false] at hr ⊢
  obtain ⟨v,k0,k1,_,_,k4⟩:=opSlash_ok hr
  have hl:=(List.getElem?_eq_some_iff.1 k1).1
  rw[k4];simp only;omega
 by_cases h5:o.k=5
 ·simp only[h5,if_true,Int.reduceEq,if_false] at hr ⊢
  unfold opMerge no' at hr ⊢
  split at hr
  ·rename_i hm;simp only at hr;exact absurd hr hm
  ·rename_i hm
   split at hr
   ·simp at hr
   ·rename_i hq
    rw[if_neg hm,if_neg hq]
    simp only[ne_eq,Decidable.not_not] at hm
    obtain ⟨a,b,hi,hj,hij,ha,hb,_⟩:=merR_zero hm
    have hl:=(List.getElem?_eq_some_iff.1 ha).1
    simp only;omega
 by_cases h6:o.k=6
 ·simp only[h6,if_true,Int.reduceEq,if_false] at hr ⊢
  unfold opPart no' at hr ⊢
  split at hr
  ·rename_i hm;simp only at hr;exact absurd hr hm
  ·rename_i hm
   split at hr
   ·simp at hr
   ·rename_i hq
    rw[if_neg hm,if_neg hq]
    simp only[ne_eq,Decidable.not_not] at hm
    unfold parC at hm
    split at hm
    ·simp at hm
    ·rename_i hi
     split at hm
     ·simp at hm
     ·rename_i v hv
      have hl:=(List.getElem?_eq_some_iff.1 hv).1
      simp only;omega
 simp only[h1,h2,h3,h4,h5,h6,if_false,no'] at hr
 simp at hr
theorem step_wf {c:Cfg} (hc:CfOk c) {s:St} (h:Inv c s) (hb:s.bk<1000000000) (o:Opn) (hk:I64 o.k) (ho:U64 o.am):(stepM c s o).1.wf∧((stepM c s o).1.asg.length:Int)≤c.capacity∧((stepM c s o).1.pms.length:Int)≤c.payments:=by
 obtain ⟨hI2,_⟩:=stepM_inv hc h hb o ho
 obtain ⟨hB,_⟩:=step_bg hc h hb o
 have hC:=step_cs hc h hb o
 have hvi:=hB.vi;have hnp:=hB.np
 have hv2:=hc.vi;have hca:=hc.ca
 have hpd:(stepM c s o).2.pd≤18446744073709551615:=by
  have h1:=sum_nonneg _ hI2.bal0
  have h2:=hI2.sum;have h3:=hI2.tot
  omega
 have hp0:=h.tot
 have hpm:∀ p∈(stepM c s o).1.pms,I64 p.ix∧U64 p.am:=fun p hp=>by
  obtain ⟨i,v,e1,e2,_⟩:=hB.pm p hp
  have hl:=(List.getElem?_eq_some_iff.1 e2).1
  have hcap:=hI2.cap
  have hs:=hC.pd
  have hle:p.am≤((stepM c s o).1.pms.map (·.am)).sum:=sum_mem_le _ (fun x hx=>by
   obtain ⟨y,hy,rfl⟩:=List.mem_map.1 hx
   exact hC.am y hy) p.am (List.mem_map.2 ⟨p,hp,rfl⟩)
  have h0:=hC.am p hp
  exact⟨⟨by omega,by omega⟩,⟨h0,by omega⟩⟩
 by_cases h7:o.k=7
 ·have he:=epo_range hc (s:={s with bk:=s.bk+1}) (by simp only;omega)
  unfold stepM at hpm hvi hnp ⊢
  rw[if_pos h7] at hpm hvi hnp ⊢
  have hag:∀ y∈(tickM c s).1.asg,I64 y.ix∧I64 y.cl∧I64 y.ep:=by
   unfold tickM
   by_cases hz:((s.bk+1:Nat):Int) % c.epochLen=0
   ·simp only[if_pos hz]
    obtain ⟨e,t,e0,e1,_,k2,_,_,hw,_⟩:=bound_ex hc h hb hz
    rw[k2]
    intro y hy
    have hix:y.ix∈(asgs (e+1) s.fo s.vo t).map (·.ix):=List.mem_map.2 ⟨y,hy,rfl⟩
    rw[asgs_ix] at hix
    obtain ⟨i,hi,hiy⟩:=List.mem_map.1 hix
    obtain ⟨v,hv,_⟩:=hw i hi
    have hl:=(List.getElem?_eq_some_iff.1 hv).1
    have hcap:=h.cap
    have hep:=asgs_ep _ _ _ _ y hy
    have hcl:y.cl=0∨y.cl=1:=by
     rcases List.mem_append.1 hy with hy|hy<;>(obtain ⟨j,_,rfl⟩:=List.mem_map.1 hy;simp)
    refine⟨⟨by omega,by omega⟩,⟨by omega,by omega⟩,⟨by omega,by omega⟩⟩
   ·simp only[if_neg hz]
    intro y hy;simp at hy
  have hal:((tickM c s).1.asg.length:Int)≤c.capacity:=by
   have hx:=h.ex.len;have hcap:=h.cap
   unfold tickM
   by_cases hz:((s.bk+1:Nat):Int) % c.epochLen=0
   ·simp only[if_pos hz]
    obtain ⟨e,t,_,_,_,k2,_⟩:=bound_ex hc h hb hz
    rw[k2]
    have e1:(asgs (e+1) s.fo s.vo t).length=((asgs (e+1) s.fo s.vo t).map (·.ix)).length:=by simp
    rw[e1,asgs_ix,List.length_map,List.length_take];omega
   ·simp only[if_neg hz,List.length_nil];omega
  refine⟨⟨(show I64 (7:Int) from ⟨by decide,by decide⟩),(show I64 (0:Int) from ⟨by decide,by decide⟩),(show I64 (-1:Int) from ⟨by decide,by decide⟩),?_,?_,(show I64 (-1:Int) from ⟨by decide,by decide⟩),⟨by omega,by omega⟩,hag,hpm⟩,hal,hnp⟩
  ·show I64 ((s.bk+1:Nat):Int)
   exact⟨by omega,by omega⟩
  ·show I64 (epo c {s with bk:=s.bk+1})
   exact⟨by omega,by omega⟩
 ·have he:=epo_range hc (s:=s) (by omega)
  obtain ⟨r1,r2⟩:=opM_rng hc h o ho
  have r3:=opM_c c s o
  unfold stepM
  rw[if_neg h7]
  have hpy:=hc.py
  refine⟨⟨hk,⟨by simp only;omega,by simp only;omega⟩,⟨by simp only;omega,by simp only;omega⟩,⟨by simp only;omega,by simp only;omega⟩,⟨by simp only;omega,by simp only;omega⟩,⟨by simp only;omega,by simp only;omega⟩,⟨by simp only;omega,by simp only;omega⟩,fun y hy=>by simp at hy,fun y hy=>by simp at hy⟩,by simp only[List.length_nil];omega,by simp only[List.length_nil];omega⟩
structure LK0 (c:Cfg) (s:St) (q:HS) (k:Nat):Prop where
 inv:Inv c s
 bk:s.bk≤k
 n:q.n=k
 le:q.le (301*k)
 ol:q.ord.length≤k
theorem hAdd_n (k:Int) (x:Rc) (q:HS):(hAdd k x q).n=q.n+1:=by
 have h:=(foldP_keep x.ep x.pms (x.asg.foldl addA {q with n:=q.n+1,ep:=x.ep})).2.1
 rw[(foldA_keep x.asg {q with n:=q.n+1,ep:=x.ep}).2.1] at h
 unfold hAdd
 split
 ·rfl
 ·simp only
  repeat' split
  all_goals exact h
theorem hAdd_ord (k:Int) (x:Rc) (q:HS):(hAdd k x q).ord.length≤q.ord.length+1:=by
 have h:=(foldP_keep x.ep x.pms (x.asg.foldl addA {q with n:=q.n+1,ep:=x.ep})).1
 rw[(foldA_keep x.asg {q with n:=q.n+1,ep:=x.ep}).1] at h
 have hb:∀ (cl:Int) (q2:HS),q2.ord=q.ord→(addB cl x q2).ord.length≤q.ord.length+1:=fun cl q2 e=>by
  simp only[addB,beginO,e]
  split
  ·omega
  ·simp
 unfold hAdd
 split
 ·exact Nat.le_succ _
 ·simp only
  split
  ·exact hb 1 _ h
  ·split
   ·exact hb 0 _ h
   ·split
    ·exact hb 0 _ h
    ·rw[h];exact Nat.le_succ _
theorem lk0_ini {c:Cfg} (hc:CfOk c):LK0 c St.ini ⟨[],[],0,0,[]⟩ 0:=⟨Inv.ini hc,Nat.le_refl _,rfl,⟨by simp,by simp,fun i=>by simp[getR,r0]⟩,Nat.le_refl _⟩
theorem lk0_step {c:Cfg} (hc:CfOk c) (hs:c.capacity≤100∧c.payments≤200) {s:St} {q:HS} {k:Nat} (h:LK0 c s q k) (hk:k<100000) (o:Opn) (ho1:I64 o.k) (ho2:U64 o.am):LK0 c (stepM c s o).2 (hAdd o.k (stepM c s o).1 q) (k+1):=by
 have hb:=h.bk
 obtain ⟨_,w1,w2⟩:=step_wf hc h.inv (by omega) o ho1 ho2
 obtain ⟨i1,i2⟩:=stepM_inv hc h.inv (by omega) o ho2
 exact⟨i1,by omega,by rw[hAdd_n,h.n];omega,(le_hAdd h.le).mono (by omega),by have:=h.ol;have:=hAdd_ord o.k (stepM c s o).1 q;omega⟩
end
section
open Go.RowKit
section
variable (c:Cfg) (hcf:CfOk c) (hsm:c.capacity≤100∧c.payments≤200) (eb lb:Nat) {s:St} {q:HS} {k:Nat} (hL:LK0 c s q k)
include hcf hsm hL
theorem tdo2 (hk:k≤10000) (o:Opn) (ho1:I64 o.k) (ho2:U64 o.am) (R:List Asn):Spec 12 [runV eb lb,opV o] (engB eb c s::logA lb q::R) fun u L'=>∃ ha hp,u=rcV (stepM c s o).1 ha hp∧L'=ownT 75 asgL 3 (sl ha) (stepM c s o).1.asg::ownT 57 pmL 3 (sl hp) (stepM c s o).1.pms::engB eb c (stepM c s o).2::logA lb (hAdd o.k (stepM c s o).1 q)::R:=by
 have hb:=hL.bk
 obtain ⟨w0,w1,w2⟩:=step_wf hcf hL.inv (by omega) o ho1 ho2
 exact tdo_spec c hcf R eb lb s q hL.inv (by omega) o ho1 ho2 w0 ⟨by rw[hL.n];omega,by rw[hL.n];omega⟩ (hL.le.mono (by omega)) ⟨by omega,by omega⟩
end
end
section
open Go.RowKit Go.Sort
def sortI (xs:List Int):List Int:=xs.mergeSort fun x y=>decide (x≤y)
theorem flat_intL (xs:List Int):xs.flatMap intL=xs.map (Value.int .i64):=by
 induction xs with
 | nil=>rfl
 | cons x r ih=>simp only[List.flatMap_cons,List.map_cons,ih];rfl
theorem putRow_heap {w:World} {g:Nat} {c:Array Value} {e:TypeId} {enc:Int→Value} {d:Array Int} {n:Nat} {os:Array Obj} (h:w.heap[g]? = some (.cells c e (0,0))) :
  (grow (putRow enc (Sort.ahead w n) g 0 d) os).heap[g]? = some (.cells (putCells enc 0 d c) e (0,0)):=by
 have hs:=(Array.getElem?_eq_some_iff.1 h).1
 simp only[grow,putRow,mapBlock,Sort.ahead]
 rw[Array.getElem?_append_left (by simpa using hs),Array.getElem?_modify,if_pos rfl,h]
 rfl
theorem putRow_chg {w:World} {g:Nat} {enc:Int→Value} {d:Array Int} {n:Nat} {os:Array Obj}:Chg [g] w (grow (putRow enc (Sort.ahead w n) g 0 d) os):=by
 refine⟨rfl,rfl,rfl,?_,fun k hk hg=>?_⟩
 ·simp[grow,putRow,mapBlock,Sort.ahead]
 ·simp only[grow,putRow,mapBlock,Sort.ahead]
  rw[Array.getElem?_append_left (by simpa using hk),Array.getElem?_modify,if_neg (by simpa using Ne.symm (by simpa using hg:k≠g))]
theorem putCells_take (enc:Int→Value) (d:List Int) (c:Array Value) (h:d.length≤c.size):(putCells enc 0 d.toArray c).toList.take d.length=d.map enc:=by
 apply List.ext_getElem?
 intro k
 rw[List.getElem?_take]
 by_cases hk:k<d.length
 ·rw[if_pos hk,Array.getElem?_toList]
  simp only[putCells,Array.getElem?_mapIdx,List.getElem?_map]
  rw[Array.getElem?_eq_getElem (by omega),List.getElem?_eq_getElem hk]
  simp only[Option.map_some]
  rw[if_pos ⟨by omega,by simpa using hk⟩]
  simp[hk]
 ·rw[if_neg hk]
  rw[List.getElem?_eq_none (by simpa using hk)]
theorem sort_spec (h:SlH) (xs:List Int) (hb:xs.length≤1000000) (R:List Asn):Spec 97 [sl h] (ownT 3 intL 1 (sl h) xs::R) fun u L'=>u=.tuple #[]∧L'=ownT 3 intL 1 (sl h) (sortI xs)::R:=by
 intro G w M
 have M:Mem w (ownT 3 intL 1 (sl h) xs::(R++G)):=M
 obtain ⟨s,hs,_⟩:=M.head
 have hls:(sortI xs).length=xs.length:=List.length_mergeSort xs
 rcases hs.2 with⟨h2,h3,h4⟩|⟨g,cap,cur,h2,h8,h3,h4,h5,h6,h7⟩
 ·obtain ⟨a,n,c⟩:=h
  simp only[sl,Value.slice.injEq] at h2
  obtain ⟨rfl,rfl,rfl⟩:=h2
  refine(Tryz.slices_Sort_int_none none 0 w).mono ?_
  rintro e w' ⟨h1,rfl⟩
  have hx:xs=[]:=List.eq_nil_of_length_eq_zero h3
  subst hx
  exact⟨_,_,h1,⟨rfl,rfl⟩,by rw[show sortI []=[] by simp[sortI]];exact M⟩
 ·obtain ⟨a,n,c⟩:=h
  simp only[sl,Value.slice.injEq] at h2
  obtain ⟨rfl,rfl,rfl⟩:=h2
  have h4':xs.length≤c:=h4
  rw[Nat.mul_one] at h6
  rw[Nat.mul_one,flat_intL] at h7
  have hg:=(Array.getElem?_eq_some_iff.1 h3).1
  have hH:Holds (Value.int .i64) w g 0 xs.toArray:=fun j hj=>by
   have hj:j<xs.length:=by simpa using hj
   have hc:cur[j]? = some (.int .i64 xs[j]):=by
    have:=congrArg (·[j]?) h7
    simp only[List.getElem?_take,if_pos hj,List.getElem?_map,List.getElem?_eq_getElem hj,Option.map_some,Array.getElem?_toList] at this
    exact this
   refine⟨?_,by simp[World.frozen?,h3]⟩
   simp[World.cell?,h3,hc,hj]
  refine(Tryz.slices_Sort_int g 0 c xs w hH hg (by omega)).mono ?_
  rintro e w' ⟨h1,n',os,rfl⟩
  refine⟨_,_,h1,⟨rfl,rfl⟩,?_⟩
  show Mem _ (ownT 3 intL 1 _ (sortI xs)::(R++G))
  refine M.change fun s' hs'=>?_
  obtain ⟨_,h9|⟨g2,cap2,cur2,h9,rfl,_⟩⟩:=hs'.now
  ·simp at h9
  simp only[Value.slice.injEq,Option.some.injEq,Addr.mk.injEq] at h9
  obtain ⟨⟨rfl,_⟩,_⟩:=h9
  refine⟨putRow_chg,[g],?_,fun x hx=>.inl hx⟩
  unfold ownT
  rw[show xs.length=(sortI xs).length from hls.symm]
  refine ok_own (by rw[flat_intL,List.length_map,Nat.mul_one]) (putRow_heap h3) (by show(sortI xs).length≤c;omega) h5 ?_ ?_
  ·simp[putCells,h6]
  ·rw[Nat.mul_one,flat_intL]
   exact putCells_take _ _ _ (by omega)
theorem sortI_perm (xs:List Int):(sortI xs).Perm xs:=List.mergeSort_perm xs _
end
section
open Go.RowKit Go.Maps
def HS.ok (q:HS):Prop:=∀ i∈q.ord,I64 i∧(getR i q.recs).rd=true
theorem opened {w:World} {L:List Asn} {lb:Nat} {q:HS} {i:Int} (M:Mem w (logA lb q::L)) (h:(getR i q.recs).rd=true):∃ m o' a' al l1 br l2 hh,abs al=q.recs∧al=l1++(i,br,getR i q.recs)::l2∧(Value.int .i64 i,ptr br)∈ptrs al∧Mem w (pt lb [.map (some m),sl o',.int .i64 q.n,.int .i64 q.ep,sl a'] 134::mp m 3 (ptrs al)::ownT 3 intL 1 (sl o') q.ord::ownT 75 asgL 3 (sl a') q.asg::pt br (recL (getR i q.recs) hh) 136::ownT 57 pmL 3 (sl hh) (getR i q.recs).pays::restA (l1++l2)::L):=by
 obtain ⟨m,o',a',al,hal,M⟩:=log_open M
 rcases abs_split i al with⟨l1,br,l2,h1,h2⟩|⟨h1,h2,h3⟩
 ·rw[hal] at h1
  have M:=M.perms (permsA:Perms _ (restA al::pt lb [.map (some m),sl o',.int .i64 q.n,.int .i64 q.ep,sl a'] 134::mp m 3 (ptrs al)::ownT 3 intL 1 (sl o') q.ord::ownT 75 asgL 3 (sl a') q.asg::L))
  rw[show restA al=restA (l1++(i,br,getR i q.recs)::l2) by rw[← h1]] at M
  obtain ⟨hh,M⟩:=rec_open M
  exact⟨m,o',a',al,l1,br,l2,hh,hal,h1,by rw[h1];exact in_ptrs _ _ _ _ _,M.perms permsA⟩
 ·rw[hal] at h2;rw[h2] at h;cases h
theorem closed {w:World} {L K:List Asn} {lb m:Nat} {o' a' hh:SlH} {al l1 l2:AL} {br:Nat} {q:HS} {i:Int} (M:Mem w K) (hp:Perms K (pt br (recL (getR i q.recs) hh) 136::ownT 57 pmL 3 (sl hh) (getR i q.recs).pays::restA (l1++l2)::pt lb [.map (some m),sl o',.int .i64 q.n,.int .i64 q.ep,sl a'] 134::mp m 3 (ptrs al)::ownT 3 intL 1 (sl o') q.ord::ownT 75 asgL 3 (sl a') q.asg::L)) (hal:abs al=q.recs) (h1:al=l1++(i,br,getR i q.recs)::l2):Mem w (logA lb q::L):=by
 have M:=rec_close (l1:=l1) (l2:=l2) (i:=i) (br:=br) (r:=getR i q.recs) (h:=hh) (M.perms hp)
 rw[← h1] at M
 exact log_close (M.perms permsA) (by rw[hal])
def lateB (ep:Int) (e:Ex):Bool:=if e.dl = -1∨e.sl≠-1 then false else if e.pd = -1 then decide (ep>e.dl) else decide (e.pd>e.dl)
theorem order1_keeps (lb b2 b3:Nat) (q:HS) (i cls:Int) (hi:I64 i) (hr:(getR i q.recs).rd=true):Keeps 57 [.int .i64 i,ptr b2,ptr b3] (.bool (decide ((getR i q.recs).ex.cl≠cls))) [pt b2 [ptr lb] 29,pt b3 [.int .i64 cls] 3,logA lb q]:=by
 intro G w M
 replace M:=M.perms (permsA:Perms _ (logA lb q::pt b2 [ptr lb] 29::pt b3 [.int .i64 cls] 3::G))
 obtain ⟨m,o',a',al,l1,br,l2,hh,hal,h1,hin,M2⟩:=opened M hr
 clear M
 have M:=M2
 clear M2
 refine sx_enter (vs:=([.int .i64 i,ptr b2,ptr b3]:List Value)) Tryz.func57 (n:=18) rfl rfl rfl rfl ?_
 intro a F
 (try refine zI zk57 F M ?_;clear F M a;try clear w);(repeat'(first|refine zA ?_;repeat intro b|refine zV (h:=⟨_,by(first|(apply rt_hit1;(exact rfl);(exact rfl);(exact rfl);(exact inferInstance);(exact gives_mp pullA);(exact intKey hi);(assumption))|(apply rt_miss1;(exact rfl);(exact rfl);(exact rfl);(exact inferInstance);(exact gives_mp pullA);(exact intKey hi);(assumption);(exact inferInstance))),?_⟩)|refine zB ?_ ?_<;>intro hc<;>try exact no hc|refine zH ?_ ?_<;>(intro hg;rw[hg];try exact no hg)));all_goals try refine zO fun a w F M=>?_
 all_goals(first|(refine svEnd F M ?_)|(refine svRet F M ?_))
 have M:=closed M permsA hal h1
 exact⟨_,_,rfl,⟨rfl,rfl⟩,M.perms permsA⟩
theorem lateF_keeps (lb:Nat) (q:HS) (e:Ex):Keeps 96 [ptr lb,.agg (exL e).toArray] (.bool (lateB q.ep e)) [logA lb q]:=by
 intro G w M
 obtain ⟨m,o',a',al,hal,M2⟩:=log_open M
 clear M
 have M:=M2
 clear M2
 refine sx_enter (vs:=([ptr lb,.agg (exL e).toArray]:List Value)) Tryz.func96 (n:=28) rfl rfl rfl rfl ?_
 intro a F
 (try refine zI zk96 F M ?_;clear F M a;try clear w);(repeat'(first|refine zA ?_;repeat intro b|refine zB ?_ ?_<;>intro hc<;>try exact no hc|refine zH ?_ ?_<;>(intro hg;rw[hg];try exact no hg)));all_goals try refine zO fun a w F M=>?_
 all_goals(first|(refine svEnd F M ?_)|(refine svRet F M ?_))
 all_goals refine⟨_,_,rfl,⟨?_,rfl⟩,log_close (M.perms permsA) (by rw[hal])⟩
 all_goals simp_all [tupOf,lateB]
theorem late1_keeps (lb b2:Nat) (q:HS) (i:Int) (hi:I64 i) (hr:(getR i q.recs).rd=true):Keeps 95 [.int .i64 i,ptr b2] (.bool (!lateB q.ep (getR i q.recs).ex)) [pt b2 [ptr lb] 29,logA lb q]:=by
 intro G w M
 replace M:=M.perms (permsA:Perms _ (logA lb q::pt b2 [ptr lb] 29::G))
 obtain ⟨m,o',a',al,l1,br,l2,hh,hal,h1,hin,M2⟩:=opened M hr
 clear M
 have M:=M2
 clear M2
 have hlate:∀ R,Spec 96 [ptr lb,.agg (exL (getR i q.recs).ex).toArray] (pt lb [.map (some m),sl o',.int .i64 q.n,.int .i64 q.ep,sl a'] 134::mp m 3 (ptrs al)::ownT 3 intL 1 (sl o') q.ord::ownT 75 asgL 3 (sl a') q.asg::pt br (recL (getR i q.recs) hh) 136::ownT 57 pmL 3 (sl hh) (getR i q.recs).pays::restA (l1++l2)::R) fun u L'=>u=.bool (lateB q.ep (getR i q.recs).ex)∧L'=logA lb q::R:=fun R G w M=>by
  have M:=closed (L:=R++G) M permsA hal h1
  refine((lateF_keeps lb q (getR i q.recs).ex) (R++G) w M).mono ?_
  rintro e w' ⟨v,L',k1,⟨k2,rfl⟩,k3⟩
  exact⟨v,_,k1,⟨k2,rfl⟩,k3⟩
 refine sx_enter (vs:=([.int .i64 i,ptr b2]:List Value)) Tryz.func95 (n:=17) rfl rfl rfl rfl ?_
 intro a F
 (try refine zI zk95 F M ?_;clear F M a;try clear w);(repeat'(first|refine zA ?_;repeat intro b|refine zC ?_;refine acCall (k:=96) ?_;refine Spec.mono (Spec.pre (hlate _) permsA) ?_;rintro u L' ⟨rfl,rfl⟩|refine zV (h:=⟨_,by(first|(apply rt_hit1;(exact rfl);(exact rfl);(exact rfl);(exact inferInstance);(exact gives_mp pullA);(exact intKey hi);(assumption))|(apply rt_miss1;(exact rfl);(exact rfl);(exact rfl);(exact inferInstance);(exact gives_mp pullA);(exact intKey hi);(assumption);(exact inferInstance))),?_⟩)|refine zB ?_ ?_<;>intro hc<;>try exact no hc|refine zH ?_ ?_<;>(intro hg;rw[hg];try exact no hg)));all_goals try refine zO fun a w F M=>?_
 all_goals(first|(refine svEnd F M ?_)|(refine svRet F M ?_))
 exact⟨_,_,rfl,⟨rfl,rfl⟩,M.perms permsA⟩
theorem order_spec (lb:Nat) (q:HS) (cls:Int) (hq:q.ok) (hl:q.ord.length≤100000) (R:List Asn):Spec 18 [ptr lb,.int .i64 cls] (logA lb q::R) fun u L'=>∃ h,u=sl h∧L'=ownT 3 intL 1 (sl h) (q.ord.filter fun i=>decide ((getR i q.recs).ex.cl=cls))::logA lb q::R:=by
 intro G w M
 obtain ⟨m,o',a',al,hal,M2⟩:=log_open (show Mem w (logA lb q::(R++G)) from M)
 clear M
 have M:=M2
 clear M2
 have hdel:∀ (b2 b3:Nat) (h':SlH) (T:List Asn),Spec 55 [sl h',.func (.func 57) #[] #[ptr b2,ptr b3]] (ownT 3 intL 1 (sl h') q.ord::pt b3 [.int .i64 cls] 3::pt b2 [ptr lb] 29::pt lb [.map (some m),sl o',.int .i64 q.n,.int .i64 q.ep,sl a'] 134::mp m 3 (ptrs al)::ownT 3 intL 1 (sl o') q.ord::ownT 75 asgL 3 (sl a') q.asg::restA al::T)
   fun u L'=>∃ h,u=sl h∧L'=ownT 3 intL 1 (sl h) (q.ord.filter fun i=>decide ((getR i q.recs).ex.cl=cls))::logA lb q::T:=fun b2 b3 h' T G w M=>by
  have M:=log_close (lb:=lb) (q:=q) (M.perms (permsA:Perms _ (pt lb [.map (some m),sl o',.int .i64 q.n,.int .i64 q.ep,sl a'] 134::mp m 3 (ptrs al)::ownT 3 intL 1 (sl o') q.ord::ownT 75 asgL 3 (sl a') q.asg::restA al::ownT 3 intL 1 (sl h') q.ord::pt b2 [ptr lb] 29::pt b3 [.int .i64 cls] 3::(T++G)))) (by rw[hal])
  have hd:=int_del 57 #[ptr b2,ptr b3] h' q.ord (fun i=>decide ((getR i q.recs).ex.cl≠cls)) [pt b2 [ptr lb] 29,pt b3 [.int .i64 cls] 3,logA lb q] (fun i hi=>order1_keeps lb b2 b3 q i cls (hq i hi).1 (hq i hi).2)
  refine(hd (T++G) w (M.perms permsA)).mono ?_
  rintro e w' ⟨v,L',k1,⟨h,k2,rfl⟩,k3⟩
  refine⟨v,_,k1,⟨h,k2,rfl⟩,?_⟩
  have e:(q.ord.filter fun i=>!decide ((getR i q.recs).ex.cl≠cls))=q.ord.filter fun i=>decide ((getR i q.recs).ex.cl=cls):=by congr 1;funext i;simp
  rw[e] at k3
  exact k3.perms permsA
 refine sx_enter (vs:=([ptr lb,.int .i64 cls]:List Value)) Tryz.func18 (n:=15) rfl rfl rfl rfl ?_
 intro a F
 (try refine zI zk18 F M ?_;clear F M a;try clear w);(repeat'(first|refine zA ?_;repeat intro b|refine zC ?_;(first|refine acCall (k:=56) ?_;refine Spec.of_eq (Spec.mono (clone_int o' q.ord (by(first|(focus ((repeat (first|assumption|apply GS.tail));done))|(apply gs_old;assumption;(focus ((repeat (first|exact Pull.here|apply Pull.there));done)))|(apply gs_oldT;assumption;(focus ((repeat (first|exact Pull.here|apply Pull.there));done)))|(apply gs_own;(focus ((repeat (first|exact Pull.here|apply Pull.there));done)))|(apply gs_ro;(focus ((repeat (first|exact Pull.here|apply Pull.there));done)))|exact GS.nil _ _)) (by omega)) ?_) rfl;rintro u L' ⟨h',rfl,rfl⟩|refine acCall (k:=55) ?_;refine Spec.mono (Spec.pre (hdel _ _ _ _) permsA) ?_;rintro u L' ⟨h2,rfl,rfl⟩)|refine zB ?_ ?_<;>intro hc<;>try exact no hc|refine zH ?_ ?_<;>(intro hg;rw[hg];try exact no hg)));all_goals try refine zO fun a w F M=>?_
 all_goals(first|(refine svEnd F M ?_)|(refine svRet F M ?_))
 exact⟨_,_,rfl,⟨h2,rfl,rfl⟩,M.perms permsA⟩
theorem late_spec (lb:Nat) (q:HS) (hq:q.ok) (hl:q.ord.length≤100000) (R:List Asn):Spec 33 [ptr lb] (logA lb q::R) fun u L'=>∃ h,u=sl h∧L'=ownT 3 intL 1 (sl h) (sortI (q.ord.filter fun i=>lateB q.ep (getR i q.recs).ex))::logA lb q::R:=by
 intro G w M
 obtain ⟨m,o',a',al,hal,M2⟩:=log_open (show Mem w (logA lb q::(R++G)) from M)
 clear M
 have M:=M2
 clear M2
 have hdel:∀ (b2:Nat) (h':SlH) (T:List Asn),Spec 55 [sl h',.func (.func 95) #[] #[ptr b2]] (ownT 3 intL 1 (sl h') q.ord::pt b2 [ptr lb] 29::pt lb [.map (some m),sl o',.int .i64 q.n,.int .i64 q.ep,sl a'] 134::mp m 3 (ptrs al)::ownT 3 intL 1 (sl o') q.ord::ownT 75 asgL 3 (sl a') q.asg::restA al::T)
   fun u L'=>∃ h,u=sl h∧L'=ownT 3 intL 1 (sl h) (q.ord.filter fun i=>lateB q.ep (getR i q.recs).ex)::logA lb q::T:=fun b2 h' T G w M=>by
  have M:=log_close (lb:=lb) (q:=q) (M.perms (permsA:Perms _ (pt lb [.map (some m),sl o',.int .i64 q.n,.int .i64 q.ep,sl a'] 134::mp m 3 (ptrs al)::ownT 3 intL 1 (sl o') q.ord::ownT 75 asgL 3 (sl a') q.asg::restA al::ownT 3 intL 1 (sl h') q.ord::pt b2 [ptr lb] 29::(T++G)))) (by rw[hal])
  have hd:=int_del 95 #[ptr b2] h' q.ord (fun i=>!lateB q.ep (getR i q.recs).ex) [pt b2 [ptr lb] 29,logA lb q] (fun i hi=>late1_keeps lb b2 q i (hq i hi).1 (hq i hi).2)
  refine(hd (T++G) w (M.perms permsA)).mono ?_
  rintro e w' ⟨v,L',k1,⟨h,k2,rfl⟩,k3⟩
  refine⟨v,_,k1,⟨h,k2,rfl⟩,?_⟩
  simp only[Bool.not_not] at k3
  exact k3.perms permsA
 refine sx_enter (vs:=([ptr lb]:List Value)) Tryz.func33 (n:=17) rfl rfl rfl rfl ?_
 intro a F
 have hfl:(q.ord.filter fun i=>lateB q.ep (getR i q.recs).ex).length≤1000000:=by
  have:=List.length_filter_le (fun i=>lateB q.ep (getR i q.recs).ex) q.ord
  omega
 (try refine zI zk33 F M ?_;clear F M a;try clear w);(repeat'(first|refine zA ?_;repeat intro b|refine zC ?_;(first|refine acCall (k:=56) ?_;refine Spec.of_eq (Spec.mono (clone_int o' q.ord (by(first|(focus ((repeat (first|assumption|apply GS.tail));done))|(apply gs_old;assumption;(focus ((repeat (first|exact Pull.here|apply Pull.there));done)))|(apply gs_oldT;assumption;(focus ((repeat (first|exact Pull.here|apply Pull.there));done)))|(apply gs_own;(focus ((repeat (first|exact Pull.here|apply Pull.there));done)))|(apply gs_ro;(focus ((repeat (first|exact Pull.here|apply Pull.there));done)))|exact GS.nil _ _)) (by omega)) ?_) rfl;rintro u L' ⟨h',rfl,rfl⟩|refine acCall (k:=55) ?_;refine Spec.mono (Spec.pre (hdel _ _ _) permsA) ?_;rintro u L' ⟨h2,rfl,rfl⟩|refine acCall (k:=97) ?_;refine Spec.mono (sort_spec _ _ hfl _) ?_;rintro u L' ⟨rfl,rfl⟩)|refine zB ?_ ?_<;>intro hc<;>try exact no hc|refine zH ?_ ?_<;>(intro hg;rw[hg];try exact no hg)));all_goals try refine zO fun a w F M=>?_
 all_goals(first|(refine svEnd F M ?_)|(refine svRet F M ?_))
 exact⟨_,_,rfl,⟨h2,rfl,rfl⟩,M.perms permsA⟩
end
section
open Go.RowKit Go.Maps
theorem hclone_pm (h:SlH) (xs:List Pm) {L:List Asn} (hu:GS L 3 (sl h) xs.length (xs.flatMap pmL)) (hb:xs.length≤5000000) :
  Spec 53 [sl h] L fun u L'=>∃ h',u=sl h'∧L'=ownT 57 pmL 3 (sl h') xs::L:=by
 (intro G w M;refine sx_enter (vs:=[sl h]) Tryz.func53 (n:=8) rfl rfl rfl rfl ?_;intro a F;(try simp only[zc,zn] at M))
 have hu':GS (L++G) 3 (sl h) xs.length (xs.flatMap pmL):=hu.imp fun w M=>M.drop_app
 have hlv:=hu'.len_le M
 obtain ⟨ha,hn,hc⟩:=h
 cases ha with
 | none =>
  have hx:xs=[]:=by
   have:=(hu' w M).nil_len
   exact List.eq_nil_of_length_eq_zero this
  subst hx
  (try refine zI zk53 F M ?_;clear F M a;try clear w);(repeat'(first|refine zA ?_;repeat intro b|refine zV (h:=⟨_,by(apply rt_nils;(exact rfl);(exact rfl);(exact rfl);(exact inferInstance)),?_⟩)|refine zB ?_ ?_<;>intro hc<;>try exact no hc|refine zH ?_ ?_<;>(intro hg;rw[hg];try exact no hg)));all_goals try refine zO fun a w F M=>?_
  all_goals(first|(refine svEnd F M ?_)|(refine svRet F M ?_))
  all_goals refine⟨_,_,rfl,⟨⟨none,0,0⟩,rfl,rfl⟩,?_⟩
  all_goals exact M.own_nil _ _
 | some ad =>
  (try refine zI zk53 F M ?_;clear F M a;try clear w);(repeat'(first|refine zA ?_;repeat intro b|refine zC ?_;apply ac_appendH (xs:=([]:List Pm)) (ys:=xs) (f:=pmL);exact rfl;exact rfl;exact inferInstance;exact rfl;exact rfl;(focus ((repeat (first|exact Pull.here|apply Pull.there));done));exact inferInstance;exact hu'.tail;exact rfl;exact rfl;simp;omega;intro v'|refine zV (h:=⟨_,by(apply rt_nils;(exact rfl);(exact rfl);(exact rfl);(exact inferInstance)),?_⟩)|refine zB ?_ ?_<;>intro hc<;>try exact no hc|refine zH ?_ ?_<;>(intro hg;rw[hg];try exact no hg)));all_goals try refine zO fun a w F M=>?_
  all_goals refine svC F M (h:=?_)
  all_goals(refine ac_appendH (f:=pmL) (xs:=[]) (ys:=xs) rfl rfl inferInstance rfl rfl (by(focus ((repeat (first|exact Pull.here|apply Pull.there));done))) inferInstance hu'.tail rfl rfl (by simp;omega) ?_)
  all_goals(intro v' a w F M)
  all_goals((try refine zI zk53 F M ?_;clear F M a;try clear w);(repeat'(first|refine zA ?_;repeat intro b|refine zC ?_;apply ac_appendH (xs:=([]:List Pm)) (ys:=xs) (f:=pmL);exact rfl;exact rfl;exact inferInstance;exact rfl;exact rfl;(focus ((repeat (first|exact Pull.here|apply Pull.there));done));exact inferInstance;exact hu'.tail;exact rfl;exact rfl;simp;omega;intro v'|refine zV (h:=⟨_,by(apply rt_nils;(exact rfl);(exact rfl);(exact rfl);(exact inferInstance)),?_⟩)|refine zB ?_ ?_<;>intro hc<;>try exact no hc|refine zH ?_ ?_<;>(intro hg;rw[hg];try exact no hg)));all_goals try refine zO fun a w F M=>?_)
  all_goals(first|(refine svEnd F M ?_)|(refine svRet F M ?_))
  all_goals(refine⟨_,_,rfl,⟨v',rfl,rfl⟩,?_⟩;(try simp only[zc,zn]);exact M.perms permsA)
theorem pays_spec (lb:Nat) (q:HS) (i:Int) (hi:I64 i) (hl:(getR i q.recs).pays.length≤5000000) (R:List Asn):Spec 15 [ptr lb,.int .i64 i] (logA lb q::R) fun u L'=>∃ h,u=sl h∧L'=ownT 57 pmL 3 (sl h) (getR i q.recs).pays::logA lb q::R:=by
 intro G w M
 obtain ⟨m,o',a',al,hal,M2⟩:=log_open (show Mem w (logA lb q::(R++G)) from M)
 clear M
 have M:=M2
 clear M2
 rcases abs_split i al with⟨l1,br,l2,h1,h2⟩|⟨h1,h2,h3⟩
 ·obtain ⟨r,hr⟩:∃ r,getR i (abs al)=r:=⟨_,rfl⟩
  rw[hr] at h1
  rw[← hal,hr] at hl
  rw[← hal,hr]
  have hin:(Value.int .i64 i,ptr br)∈ptrs al:=by rw[h1];exact in_ptrs _ _ _ _ _
  replace M:=M.perms (permsA:Perms _ (restA al::pt lb [.map (some m),sl o',.int .i64 q.n,.int .i64 q.ep,sl a'] 134::mp m 3 (ptrs al)::ownT 3 intL 1 (sl o') q.ord::ownT 75 asgL 3 (sl a') q.asg::(R++G)))
  rw[show restA al=restA (l1++(i,br,r)::l2) by rw[← h1]] at M
  obtain ⟨h,M2⟩:=rec_open M
  clear M
  have M:=M2
  clear M2
  refine sx_enter (vs:=([ptr lb,.int .i64 i]:List Value)) Tryz.func15 (n:=28) rfl rfl rfl rfl ?_
  intro a F
  (try refine zI zk15 F M ?_;clear F M a;try clear w);(repeat'(first|refine zA ?_;repeat intro b|refine zC ?_;refine acCall (k:=53) ?_;refine Spec.of_eq (Spec.mono (hclone_pm h r.pays (by(first|(focus ((repeat (first|assumption|apply GS.tail));done))|(apply gs_old;assumption;(focus ((repeat (first|exact Pull.here|apply Pull.there));done)))|(apply gs_oldT;assumption;(focus ((repeat (first|exact Pull.here|apply Pull.there));done)))|(apply gs_own;(focus ((repeat (first|exact Pull.here|apply Pull.there));done)))|(apply gs_ro;(focus ((repeat (first|exact Pull.here|apply Pull.there));done)))|exact GS.nil _ _)) hl) ?_) rfl;rintro u L' ⟨h',rfl,rfl⟩|refine zV (h:=⟨_,by(first|(apply rt_hit1;(exact rfl);(exact rfl);(exact rfl);(exact inferInstance);(exact gives_mp pullA);(exact intKey hi);(assumption))|(apply rt_miss1;(exact rfl);(exact rfl);(exact rfl);(exact inferInstance);(exact gives_mp pullA);(exact intKey hi);(assumption);(exact inferInstance))),?_⟩)|refine zB ?_ ?_<;>intro hc<;>try exact no hc|refine zH ?_ ?_<;>(intro hg;rw[hg];try exact no hg)));all_goals try refine zO fun a w F M=>?_
  all_goals(first|(refine svEnd F M ?_)|(refine svRet F M ?_))
  refine⟨_,_,rfl,⟨h',rfl,rfl⟩,?_⟩
  have M:=rec_close (l1:=l1) (l2:=l2) (i:=i) (br:=br) (r:=r) (h:=h) (M.perms permsA)
  rw[← h1] at M
  have M:=log_close (lb:=lb) (q:=q) (M.perms (permsA:Perms _ (pt lb [.map (some m),sl o',.int .i64 q.n,.int .i64 q.ep,sl a'] 134::mp m 3 (ptrs al)::ownT 3 intL 1 (sl o') q.ord::ownT 75 asgL 3 (sl a') q.asg::restA al::ownT 57 pmL 3 (sl h') r.pays::(R++G)))) (by rw[hal])
  exact M.perms permsA
 ·have hno:=no_ptrs h1
  rw[← hal,h2]
  refine sx_enter (vs:=([ptr lb,.int .i64 i]:List Value)) Tryz.func15 (n:=28) rfl rfl rfl rfl ?_
  intro a F
  (try refine zI zk15 F M ?_;clear F M a;try clear w);(repeat'(first|refine zA ?_;repeat intro b|refine zV (h:=⟨_,by(first|(apply rt_hit1;(exact rfl);(exact rfl);(exact rfl);(exact inferInstance);(exact gives_mp pullA);(exact intKey hi);(assumption))|(apply rt_miss1;(exact rfl);(exact rfl);(exact rfl);(exact inferInstance);(exact gives_mp pullA);(exact intKey hi);(assumption);(exact inferInstance))),?_⟩)|refine zB ?_ ?_<;>intro hc<;>try exact no hc|refine zH ?_ ?_<;>(intro hg;rw[hg];try exact no hg)));all_goals try refine zO fun a w F M=>?_
  all_goals(first|(refine svEnd F M ?_)|(refine svRet F M ?_))
  refine⟨_,_,rfl,⟨⟨none,0,0⟩,rfl,rfl⟩,?_⟩
  exact Mem.own_nil (log_close (M.perms permsA) (by rw[hal])) 57 3
end
section
open Go.RowKit
structure LK (c:Cfg) (s:St) (q:HS) (k:Nat):Prop extends LK0 c s q k where
 jv:JV c s.V q
 fo:FQ s q
theorem LK.iniL {c:Cfg} (hc:CfOk c):LK c St.ini ⟨[],[],0,0,[]⟩ 0:=⟨lk0_ini hc,JV.ini c,FQ.ini⟩
theorem LK.stepL {c:Cfg} (hc:CfOk c) (hs:c.capacity≤100∧c.payments≤200) {s:St} {q:HS} {k:Nat} (h:LK c s q k) (hk:k<100000) (o:Opn) (ho1:I64 o.k) (ho2:U64 o.am):LK c (stepM c s o).2 (hAdd o.k (stepM c s o).1 q) (k+1):=by
 have hb:=h.bk
 exact⟨lk0_step hc hs h.toLK0 hk o ho1 ho2,step_J hc h.inv (by omega) o h.jv,step_FQ hc h.inv (by omega) o h.jv h.fo⟩
end
section
open Go.RowKit
structure DyOk (c:Cfg) (e:Ex):Prop where
 asg:e.asg = -1∨0≤e.asg∧e.asg≤10000000000∧e.rq<e.asg
 pd:e.pd = -1∨e.asg≠-1∧e.asg+c.unbonding≤e.pd
 sl:e.sl = -1∨0≤e.sl∧e.sl≤10000000000∧(e.pd = -1∨e.sl+c.slashDelay≤e.pd)
theorem delays_ok {c:Cfg} (hc:CfOk c) {s:St} {q:HS} {k:Nat} (h:LK c s q k) (hk:k<100000) {i:Nat} {v:Val} (hv:s.V[i]? = some v):((getR i q.recs).rd=false→∀ p∈(getR i q.recs).pays,p.fl=false)∧((getR i q.recs).rd=true→DyOk c (getR i q.recs).ex):=by
 have hr:=h.jv.of hv
 have o:=h.inv.val i v hv
 have he:=epo_range hc (s:=s) (by have:=h.bk;omega)
 have hun:=hc.un;have hsd:=hc.sd
 generalize getR i q.recs=r at *
 have a1:=hr.rd;have a2:=hr.rq;have a3:=hr.asg;have a4:=hr.sl0;have a5:=hr.sl1;have a6:=hr.fu0;have a7:=hr.fu1
 have b1:=o.ex;have b2:=o.e4;have b3:=o.wd;have b4:=o.st
 refine⟨fun hd=>?_,fun hd=>⟨?_,?_,?_⟩⟩
 ·rw[hd,eq_comm,decide_eq_false_iff_not] at a1
  exact(a6 (by omega)).2
 ·have:=a2 hd
  rw[a3,this]
  omega
 ·by_cases h6:v.st=6
  ·have:=a7 h6
   have:=b2 (by omega)
   rw[a3]
   omega
  ·exact .inl (a6 h6).1
 ·cases hs:v.sl with
  | false=>exact .inl (a4 hs)
  | true =>
   have:=a5 hs
   refine .inr ⟨this.1,by omega,?_⟩
   by_cases h6:v.st=6
   ·have:=a7 h6;omega
   ·exact .inl (a6 h6).1
def FfP (c:Cfg) (q:HS) (A:List Int) (k:Nat) (ex wd:Int) (op:Bool):Prop:=(op=true→A.length≤k)∧∀ (j:Nat) (a:Int),k≤j→A[j]? = some a→ex≤asO q a∧wd≤asO q a+c.unbonding
theorem fifo_ini {c:Cfg} (hc:CfOk c) {s:St} {q:HS} {k:Nat} (h:LK c s q k) {cl:Int} {fo:List Nat} {A:List Int} (hA:q.ord.filter (fun i=>decide ((getR i q.recs).ex.cl=cl))=A++fo.map (fun n:Nat=>(n:Int))) (h2:∀ a∈A,asO q a≠-1):FfP c q A 0 0 0 false:=by
 refine⟨fun h=>Bool.noConfusion h,fun j a _ ha=>?_⟩
 have ham:=List.mem_of_getElem? ha
 obtain ⟨n,rfl,hn,_⟩:=h.fo.ok a (Oq.sub hA ham)
 have hv:s.V[n]? = some s.V[n]:=List.getElem?_eq_getElem hn
 have e1:asO q n=_:=(h.jv.of hv).asg
 have e2:=(h.inv.val n _ hv).ex
 have e3:=h2 _ ham
 have hun:=hc.un
 omega
theorem fifo_step {c:Cfg} (hc:CfOk c) {s:St} {q:HS} {k:Nat} (h:LK c s q k) {cl:Int} {fo:List Nat} (hfo:∀ n∈fo,n∈s.fo++s.vo) {A:List Int} (hA:q.ord.filter (fun i=>decide ((getR i q.recs).ex.cl=cl))=A++fo.map (fun n:Nat=>(n:Int))) (h2:∀ a∈A,asO q a≠-1) (h3:A.Pairwise fun a b=>asO q a≤asO q b) {j:Nat} {ex wd:Int} {op:Bool} (hP:FfP c q A j ex wd op) {i:Int} (hi:(q.ord.filter fun i=>decide ((getR i q.recs).ex.cl=cl))[j]? = some i) :
  ∃ (n:Nat) (v:Val),i=n∧s.V[n]? = some v∧(getR i q.recs).rd=true∧((asO q i = -1∧FfP c q A (j+1) ex wd true)∨(asO q i≠-1∧op=false∧ex≤asO q i∧v.ex=asO q i∧(((getR i q.recs).ex.sl = -1∧wd≤v.wd∧FfP c q A (j+1) (asO q i) v.wd false)∨((getR i q.recs).ex.sl≠-1∧FfP c q A (j+1) (asO q i) wd false)))):=by
 obtain ⟨p1,p2⟩:=hP
 have him:i∈q.ord:=(List.mem_filter.1 (List.mem_of_getElem? hi)).1
 obtain ⟨n,rfl,hn,hrd⟩:=h.fo.ok i him
 have hv:s.V[n]? = some s.V[n]:=List.getElem?_eq_getElem hn
 have hr:=h.jv.of hv
 have e1:asO q n=s.V[n].ex:=hr.asg
 refine⟨n,_,rfl,hv,hrd,?_⟩
 rw[hA] at hi
 by_cases hj:j<A.length
 ·have ha:A[j]? = some (n:Int):=by rw[List.getElem?_append_left hj] at hi;exact hi
  have hne:=h2 _ (List.mem_of_getElem? ha)
  obtain ⟨k1,k2⟩:=p2 j n (Nat.le_refl _) ha
  have hop:op=false:=by
   cases op with
   | false=>rfl
   | true=>have:=p1 rfl;omega
  have hnx:∀ (j':Nat) (a:Int),j+1≤j'→A[j']? = some a→asO q n≤asO q a:=fun j' a hj' ha'=>by
   obtain ⟨l1,m1⟩:=List.getElem?_eq_some_iff.1 ha
   obtain ⟨l2,m2⟩:=List.getElem?_eq_some_iff.1 ha'
   have:=List.pairwise_iff_getElem.1 h3 j j' l1 l2 (by omega)
   rw[m1,m2] at this
   exact this
  refine .inr ⟨hne,hop,k1,e1.symm,?_⟩
  by_cases hs:(getR n q.recs).ex.sl = -1
  ·have hsl:s.V[n].sl=false:=by
    cases hb:s.V[n].sl with
    | false=>rfl
    | true=>have:=(hr.sl1 hb).1;omega
   have hwd:=hr.wd hsl
   rw[if_neg (by rw[← e1];exact hne),← e1] at hwd
   exact .inl ⟨hs,by omega,fun h=>Bool.noConfusion h,fun j' a hj' ha'=>by have:=hnx j' a hj' ha';omega⟩
  ·exact .inr ⟨hs,fun h=>Bool.noConfusion h,fun j' a hj' ha'=>⟨hnx j' a hj' ha',(p2 j' a (by omega) ha').2⟩⟩
 ·rw[List.getElem?_append_right (by omega)] at hi
  obtain ⟨m,hm,hmn⟩:=List.mem_map.1 (List.mem_of_getElem? hi)
  obtain rfl:m=n:=by omega
  obtain ⟨v',hv',hw⟩:=(h.inv.ex.mem m).1 (hfo m hm)
  rw[hv] at hv'
  obtain rfl:=Option.some.inj hv'
  exact .inl ⟨by rw[e1];exact hw.2,fun _=>by omega,fun j' a hj' ha'=>p2 j' a (by omega) ha'⟩
end
section
open Go.RowKit
section
variable {o:Oper} {n:Nat} {l:List (Nat × Value)} {L:List Asn}
end
section
variable (b:Nat) (z:RH) (c:Cfg) (s:St) (hc:CfOk c) (hi:Inv c s) (h1 h2 h3 h4 h5 h6:SlH) (R:List Asn)
include hc hi
end
theorem configB (b:Nat) (c:Cfg) (s:St) (R:List Asn):Spec 29 [ptr b] (engB b c s::R) fun u L'=>u=cfgV c∧L'=engB b c s::R :=
 Spec.conv (fun H=>config_spec b H c s R) (fun G w M=>Mem.exo (f:=fun H:EH=>engL b H c s []) M) fun H v L' ⟨e,e2⟩=>⟨_,⟨e,rfl⟩,fun G w M=>by subst e2;exact Mem.exc (f:=fun H:EH=>engL b H c s []) H M⟩
end
section
open Go.RowKit
section
variable {o:Oper} {n:Nat} {l:List (Nat × Value)} {L:List Asn}
end
section
variable (R:List Asn)
end
theorem getB (b:Nat) (c:Cfg) (s:St) (R:List Asn) (hl:s.V.length≤4096) (i:Nat) (v:Val) (hv:s.V[i]? = some v):Spec 19 [ptr b,.int .i64 i] (engB b c s::R) fun u L'=>u=.tuple [valV v,.bool true].toArray∧L'=engB b c s::R :=
 Spec.conv (fun H=>get_spec b H c s R hl i v hv) (fun G w M=>Mem.exo (f:=fun H:EH=>engL b H c s []) M) fun H v L' ⟨e,e2⟩=>⟨_,⟨e,rfl⟩,fun G w M=>by subst e2;exact Mem.exc (f:=fun H:EH=>engL b H c s []) H M⟩
theorem getNB (b:Nat) (c:Cfg) (s:St) (R:List Asn) (hl:s.V.length≤4096) (i:Int) (hi:i<0∨(s.V.length:Int)≤i):Spec 19 [ptr b,.int .i64 i] (engB b c s::R) fun u L'=>u=.tuple [valV Val.zero,.bool false].toArray∧L'=engB b c s::R :=
 Spec.conv (fun H=>getN_spec b H c s R hl i hi) (fun G w M=>Mem.exo (f:=fun H:EH=>engL b H c s []) M) fun H v L' ⟨e,e2⟩=>⟨_,⟨e,rfl⟩,fun G w M=>by subst e2;exact Mem.exc (f:=fun H:EH=>engL b H c s []) H M⟩
def ipL (p:Int × Int):List Value:=[.int .i64 p.1,.int .i64 p.2]
theorem own_natI (e:TypeId) (v:Value) (xs:List Nat):ownT e natL 1 v xs=ownT e intL 1 v (xs.map Int.ofNat):=by
 unfold ownT
 rw[List.length_map,List.flatMap_map];rfl
theorem own_prI (e:TypeId) (v:Value) (xs:List (Nat × Nat)):ownT e prL 2 v xs=ownT e ipL 2 v (xs.map fun p=>((p.1:Int),(p.2:Int))):=by
 unfold ownT
 rw[List.length_map,List.flatMap_map];rfl
theorem snapO (b:Nat) (c:Cfg) (s:St) (R:List Asn) (hc:CfOk c) (hi:Inv c s):Spec 13 [ptr b] (engB b c s::R) fun u L'=>∃ h1 h2 h3 h4 h5 h6,u=snV (snOf c s h1 h2 h3 h4 h5 h6)∧L'=ownT 62 valL 7 (sl h1) s.V::ownT 3 intL 1 (sl h2) (s.pe.map Int.ofNat)::ownT 3 intL 1 (sl h3) (s.fo.map Int.ofNat)::ownT 3 intL 1 (sl h4) (s.vo.map Int.ofNat)::ownT 77 ipL 2 (sl h5) (s.me.map fun p=>((p.1:Int),(p.2:Int)))::ownT 79 rqL 2 (sl h6) s.pa::engB b c s::R :=
 Spec.conv (fun H=>snap_spec b H c s hc hi R) (fun G w M=>Mem.exo (f:=fun H:EH=>engL b H c s []) M) fun H v L' ⟨h1,h2,h3,h4,h5,h6,e,e2⟩=>⟨_,⟨h1,h2,h3,h4,h5,h6,e,rfl⟩,fun G w M=>by
  subst e2
  rw[← own_natI,← own_natI,← own_natI,← own_prI]
  have M2:Mem w (engL b H c s []++(ownT 62 valL 7 (sl h1) s.V::ownT 3 natL 1 (sl h2) s.pe::ownT 3 natL 1 (sl h3) s.fo::ownT 3 natL 1 (sl h4) s.vo::ownT 77 prL 2 (sl h5) s.me::ownT 79 rqL 2 (sl h6) s.pa::(R++G))):=M.perms permsA
  exact(Mem.exc (f:=fun H:EH=>engL b H c s []) H M2).perms permsA⟩
end
end Go.Proofs.YtjbfcacmdahnhaaGreat
