import Derived.Test.YtjbfcacmdahnhaaGreatZra
set_option linter.unusedVariables false
set_option linter.unusedSimpArgs false
set_option linter.unusedSectionVars false
set_option maxRecDepth 100000
set_option maxHeartbeats 8000000
namespace Go.Proofs.YtjbfcacmdahnhaaGreat
section
open Go.RowKit
def fixUpon (P:Program) (v:Value) (R:World→Prop):Result Next→Prop
 | .ok (.value u) w'=>u=v∧R w'
 | .ok .skip w'=>v=undef∧R w'
 | .ok (.enter f args) w'=>Calls P f args w' fun e w''=>e=.returned v∧R w''
 | _=>False
theorem Oper.wp_of_fix {P:Program} {o:Oper} {a:Act} {w:World} {v:Value} {R:World→Prop} {K:Act→World→Prop} {Q:Exit→Act→World→Prop}
  (h:fixUpon P v R ((execOp a.eval o).run P w)) (hK:∀ w',R w'→K (a.put o.dst v) w'):o.wp P a w K Q:=by
 unfold Oper.wp
 generalize (execOp a.eval o).run P w=r at *
 cases r with
 | ok n w' =>
  cases n<;>simp only[fixUpon] at h<;>simp only[Oper.upon]
  case value u=>rw[h.1];exact hK _ h.2
  case skip=>rw[← h.1];exact hK _ h.2
  case enter f args=>exact h.mono fun e w'' ⟨he,hr⟩=>by subst he;exact hK _ hr
 | halt x w'=>simp only[fixUpon] at h
def fixB (ops:Array Oper):Bool :=
 (List.range ops.size).all fun i =>
  match ops[i]? with
  | none=>false
  | some o =>
   (o.after.toList.all fun e=>!Region.binds .any e || decide (e.on<i)) &&
   (match o.op with|.select ..=>false|_=>true) &&
   ((List.range ops.size).all fun j =>
    match ops[j]? with
    | none=>false
    | some p =>
     match p.dst with
     | none=>true
     | some d =>
      (!(o.op.operands.toList.any fun x=>match x with|.tmp t=>t == d|_=>false) || (o.after.toList.any fun e=>Region.binds .any e && e.on == j)) &&
      (match o.guard with|none=>true|some (g,_)=>!(g == j) || (o.after.toList.any fun e=>Region.binds .any e && e.on == j)) &&
      (i == j || !(o.dst == some d)))
section
variable {P:Program} {ops:Array Oper} {a0:Act} {T:Array Value}
def AtFix (ops:Array Oper) (a0:Act) (T:Array Value) (listed:Array Bool) (a:Act):Prop :=
 a.defers=a0.defers∧a.tmps.size=a0.tmps.size∧∀ t,((∃ (j:Nat) (o:Oper),ops[j]? = some o∧o.dst=some t∧listed.getD j true=false)∨a.tmps.getD t undef=T.getD t undef) ∧
  ((∀ (j:Nat) (o:Oper),ops[j]? = some o→o.dst≠some t)→a.tmps.getD t undef=a0.tmps.getD t undef)
theorem fixB_spec (h:fixB ops=true) {i:Nat} {o:Oper} (hi:ops[i]? = some o) :
  (∀ e∈o.after,Region.binds .any e=true→e.on<i)∧(∀ cs b,o.op≠.select cs b) ∧
  (∀ (j:Nat) (p:Oper) (d:Tmp),ops[j]? = some p→p.dst=some d→((.tmp d)∈o.op.operands→∃ e∈o.after,Region.binds .any e=true∧e.on=j)∧(∀ g b,o.guard=some (g,b)→g=j→∃ e∈o.after,Region.binds .any e=true∧e.on=j)∧(i≠j→o.dst≠some d)):=by
 have hlt:i<ops.size:=(Array.getElem?_eq_some_iff.1 hi).1
 have h1:=List.all_eq_true.1 h i (List.mem_range.2 hlt)
 rw[hi] at h1
 simp only[Bool.and_eq_true] at h1
 obtain ⟨⟨ha,hs⟩,hj⟩:=h1
 refine⟨fun e he hb=>?_,fun cs b hc=>?_,fun j p d hp hd=>?_⟩
 ·have:=List.all_eq_true.1 ha e (by simpa using he)
  simpa[hb] using this
 ·rw[hc] at hs;simp at hs
 ·have hlj:j<ops.size:=(Array.getElem?_eq_some_iff.1 hp).1
  have h2:=List.all_eq_true.1 hj j (List.mem_range.2 hlj)
  rw[hp] at h2
  simp only[hd,Bool.and_eq_true,Bool.or_eq_true,Bool.not_eq_true'] at h2
  obtain ⟨⟨h3,h4⟩,h5⟩:=h2
  refine⟨fun hm=>?_,fun g b hg hgj=>?_,fun hij hdd=>?_⟩
  ·rcases h3 with h3|h3
   ·exfalso
    have:(o.op.operands.toList.any fun x=>match x with|.tmp t=>t == d|_=>false)=true:=List.any_eq_true.2 ⟨.tmp d,by simpa using hm,by simp⟩
    rw[this] at h3;cases h3
   ·obtain ⟨e,he,hb⟩:=List.any_eq_true.1 h3
    simp only[Bool.and_eq_true,beq_iff_eq] at hb
    exact⟨e,by simpa using he,hb.1,hb.2⟩
  ·rw[hg] at h4
   simp only[Bool.or_eq_true,Bool.not_eq_true'] at h4
   rcases h4 with h4|h4
   ·exfalso;simp[hgj] at h4
   ·obtain ⟨e,he,hb⟩:=List.any_eq_true.1 h4
    simp only[Bool.and_eq_true,beq_iff_eq] at hb
    exact⟨e,by simpa using he,hb.1,hb.2⟩
  ·rcases h5 with h5|h5
   ·exact hij (by simpa using h5)
   ·rw[hdd] at h5;simp at h5
theorem AtFix.slot {listed:Array Bool} {a:Act} (hB:fixB ops=true) (h:AtFix ops a0 T listed a) {i:Nat} {o:Oper} (hi:ops[i]? = some o) (hall:∀ e∈o.after,Region.binds .any e=true→listed.getD e.on false=true)
  (hl:listed.size=ops.size) (t:Tmp) (ht:∀ (j:Nat) (p:Oper),ops[j]? = some p→p.dst=some t→∃ e∈o.after,Region.binds .any e=true∧e.on=j):a.tmps.getD t undef=T.getD t undef:=by
 rcases (h.2.2 t).1 with⟨j,p,hp,hd,hn⟩|h1
 ·exfalso
  obtain ⟨e,he,hb,rfl⟩:=ht j p hp hd
  have h2:=hall e he hb
  have hlt:e.on<ops.size:=(Array.getElem?_eq_some_iff.1 hp).1
  simp[hl,hlt] at hn h2
  rw[hn] at h2;cases h2
 ·exact h1
theorem AtFix.put {listed:Array Bool} {a:Act} (hB:fixB ops=true) (h:AtFix ops a0 T listed a) {i:Nat} {o:Oper} (hi:ops[i]? = some o) (hl:listed.size=ops.size) {v:Value} (hv:∀ d,o.dst=some d→v=T.getD d undef∧d<a0.tmps.size) :
  AtFix ops a0 T (listed.setIfInBounds i true) (a.put o.dst v):=by
 have hlt:i<ops.size:=(Array.getElem?_eq_some_iff.1 hi).1
 cases hd:o.dst with
 | none =>
  refine⟨h.1,h.2.1,fun t=>⟨?_,(h.2.2 t).2⟩⟩
  rcases (h.2.2 t).1 with⟨j,p,hp,hpd,hn⟩|h1
  ·left
   refine⟨j,p,hp,hpd,?_⟩
   have hij:i≠j:=fun e=>by subst e;rw[hi] at hp;cases hp;rw[hd] at hpd;cases hpd
   rw[getD_set_ne true hij];exact hn
  ·exact .inr h1
 | some d =>
  obtain ⟨hv1,hv2⟩:=hv d hd
  refine⟨h.1,by simp[Act.put,h.2.1],fun t=>?_⟩
  by_cases htd:t=d
  ·subst htd
   refine⟨.inr ?_,fun hno=>absurd hd (hno i o hi)⟩
   simp[Act.put,h.2.1,hv2,hv1]
  ·have e:(a.put (some d) v).tmps.getD t undef=a.tmps.getD t undef:=by
    simp[Act.put,Array.getElem?_setIfInBounds,Ne.symm htd]
   rw[e]
   refine⟨?_,(h.2.2 t).2⟩
   rcases (h.2.2 t).1 with⟨j,p,hp,hpd,hn⟩|h1
   ·left
    refine⟨j,p,hp,hpd,?_⟩
    have hij:i≠j:=fun e=>by
     subst e;rw[hi] at hp;cases hp;rw[hd] at hpd;exact htd (Option.some.inj hpd).symm
    rw[getD_set_ne true hij];exact hn
   ·exact .inr h1
theorem ready_nil_all (hB:fixB ops=true) {listed:Array Bool} (hl:listed.size=ops.size) (h:Region.ready .any ops listed=[]):∀ i,i<ops.size→listed.getD i true=true:=by
 intro i
 induction i using Nat.strongRecOn with
 | ind i ih =>
  intro hi
  cases hu:listed.getD i true with
  | true=>rfl
  | false =>
   exfalso
   have:i∈Region.ready .any ops listed:=mem_ready.2 ⟨hu,ops[i],Array.getElem?_eq_getElem hi,fun e he hb=>by
    have h1:=(fixB_spec hB (Array.getElem?_eq_getElem hi)).1 e he hb
    have h2:=ih e.on h1 (by omega)
    simpa[hl,Nat.lt_trans h1 hi] using h2⟩
   rw[h] at this;cases this
def unlisted (listed:Array Bool):Nat:=(listed.toList.filter (fun b=>!b)).length
theorem unlisted_set {listed:Array Bool} {i:Nat} (h:i<listed.size) (hf:listed.getD i true=false):unlisted (listed.setIfInBounds i true)+1=unlisted listed:=by
 unfold unlisted
 have hf':listed.toList[i]? = some false:=by
  have:listed[i]=false:=by simpa[h] using hf
  simp[h,this]
 rw[Array.toList_setIfInBounds]
 generalize listed.toList=l at *
 clear hf h
 induction l generalizing i with
 | nil=>simp at hf'
 | cons b l ih =>
  cases i with
  | zero=>simp at hf';subst hf';simp
  | succ i =>
   simp only[List.set_cons_succ,List.filter_cons]
   have:=ih (by simpa using hf')
   cases b<;>simp<;>omega
theorem wpAny_fix {Q:Exit→Act→World→Prop} {J:Array Bool→World→Prop} (hB:fixB ops=true) (hT:∀ (i:Nat) (o:Oper) (d:Tmp),ops[i]? = some o→o.dst=some d→d<a0.tmps.size)
  (hstep:∀ (i:Nat) (o:Oper) (listed:Array Bool) (w:World),ops[i]? = some o→listed.size=ops.size→listed.getD i true=false→(∀ e∈o.after,Region.binds .any e=true→listed.getD e.on false=true)→J listed w →
   if Region.wanted o (yielded ops T) then ∃ v,(∀ d,o.dst=some d→v=T.getD d undef)∧fixUpon P v (J (listed.setIfInBounds i true)) ((execOp (⟨T,a0.defers⟩:Act).eval o).run P w)
   else (∀ d,o.dst=some d→T.getD d undef=undef)∧J (listed.setIfInBounds i true) w)
  (hsz:T.size=a0.tmps.size)
  (hend:∀ a w,AtFix ops a0 T (Array.replicate ops.size true) a→J (Array.replicate ops.size true) w→Q .normal a w) :
  ∀ (fuel:Nat) (listed:Array Bool) (a:Act) (w:World),listed.size=ops.size→unlisted listed≤fuel→AtFix ops a0 T listed a→J listed w→wpAny P .any ops Q fuel listed a w:=by
 have stop:∀ (listed:Array Bool) (a:Act) (w:World),listed.size=ops.size→AtFix ops a0 T listed a→J listed w→Region.ready .any ops listed=[]→Q .normal a w:=fun listed a w hl hA hJ hr=>by
  have e:listed=Array.replicate ops.size true:=Array.ext (by simp[hl]) fun i h1 h2=>by
   have:=ready_nil_all hB hl hr i (by omega)
   simpa[h1] using this
  subst e
  exact hend a w hA hJ
 intro fuel
 induction fuel with
 | zero =>
  intro listed a w hl hu hA hJ
  have hr:Region.ready .any ops listed=[]:=by
   apply List.eq_nil_iff_forall_not_mem.2
   intro i hi
   obtain ⟨h1,o,ho,_⟩:=mem_ready.1 hi
   have hlt:i<listed.size:=by rw[hl];exact(Array.getElem?_eq_some_iff.1 ho).1
   have:=unlisted_set hlt h1
   omega
  exact⟨hr,stop listed a w hl hA hJ hr⟩
 | succ fuel ih =>
  intro listed a w hl hu hA hJ
  refine⟨fun hr=>stop listed a w hl hA hJ hr,fun i hi=>?_⟩
  obtain ⟨h1,o,ho,hall⟩:=mem_ready.1 hi
  have hlt:i<listed.size:=by rw[hl];exact(Array.getElem?_eq_some_iff.1 ho).1
  have hun:=unlisted_set hlt h1
  obtain ⟨hb1,hb2,hb3⟩:=fixB_spec hB ho
  have hev:execOp a.eval o=execOp (⟨T,a0.defers⟩:Act).eval o:=execOp_congr o hb2 fun x hx=>by
   cases x with
   | tmp t=>exact hA.slot hB ho hall hl t fun j p hp hd=>(hb3 j p t hp hd).1 hx
   | const v=>rfl
   | global g=>rfl
   | func f=>rfl
  have hwa:Region.wanted o (yielded ops a.tmps)=Region.wanted o (yielded ops T):=by
   unfold Region.wanted
   cases hg:o.guard with
   | none=>rfl
   | some gw =>
    obtain ⟨g,b⟩:=gw
    simp only[]
    have:yielded ops a.tmps g=yielded ops T g:=by
     unfold yielded
     cases hp:ops[g]? with
     | none=>rfl
     | some p =>
      simp only[Option.bind_some]
      cases hd:p.dst with
      | none=>rfl
      | some d =>
       simp only[Option.bind_some]
       have h2:=hA.slot hB ho hall hl d fun j p' hp' hd'=>by
        by_cases hgj:g=j
        ·subst hgj;exact(hb3 g p d hp hd).2.1 g b hg rfl
        ·exact absurd hd' ((fixB_spec hB hp').2.2 g p d hp hd |>.2.2 (Ne.symm hgj))
       have hda:d<a.tmps.size:=by rw[hA.2.1];exact hT g p d hp hd
       have hdT:d<T.size:=by rw[hsz];exact hT g p d hp hd
       simp only[Array.getD,hda,hdT,dif_pos] at h2
       rw[Array.getElem?_eq_getElem hda,Array.getElem?_eq_getElem hdT]
       have h3:a.tmps[d]=T[d]:=by simpa using h2
       rw[h3]
    rw[this]
  have hs:=hstep i o listed w ho hl h1 hall hJ
  unfold wpOp
  rw[ho]
  simp only[]
  rw[hwa]
  split
  ·rename_i hw
   rw[if_pos hw] at hs
   obtain ⟨v,hv,hf⟩:=hs
   left
   rw[← hev] at hf
   exact Oper.wp_of_fix hf fun w' hJ'=>ih _ _ _ (by simp[hl]) (by omega) (hA.put hB ho hl fun d hd=>⟨hv d hd,hT i o d ho hd⟩) hJ'
  ·rename_i hw
   rw[if_neg hw] at hs
   exact ih _ _ _ (by simp[hl]) (by omega) (hA.put hB ho hl fun d hd=>⟨(hs.1 d hd).symm,hT i o d ho hd⟩) hs.2
theorem wp_region_fix {id:Nat} {Q:Exit→Act→World→Prop} {w:World} (J:Array Bool→World→Prop) (T:Array Value) (hm:P.follows .mixedOrders=true) (hB:fixB ops=true)
  (hT:∀ (i:Nat) (o:Oper) (d:Tmp),ops[i]? = some o→o.dst=some d→d<a0.tmps.size) (hsz:T.size=a0.tmps.size) (hrest:∀ t,(∀ (j:Nat) (o:Oper),ops[j]? = some o→o.dst≠some t)→T.getD t undef=a0.tmps.getD t undef)
  (h0:J (Array.replicate ops.size false) {w with drawn:=w.drawn+1})
  (hstep:∀ (i:Nat) (o:Oper) (listed:Array Bool) (w:World),ops[i]? = some o→listed.size=ops.size→listed.getD i true=false→(∀ e∈o.after,Region.binds .any e=true→listed.getD e.on false=true)→J listed w →
   if Region.wanted o (yielded ops T) then ∃ v,(∀ d,o.dst=some d→v=T.getD d undef)∧fixUpon P v (J (listed.setIfInBounds i true)) ((execOp (⟨T,a0.defers⟩:Act).eval o).run P w)
   else (∀ d,o.dst=some d→T.getD d undef=undef)∧J (listed.setIfInBounds i true) w)
  (hend:∀ w',J (Array.replicate ops.size true) w'→Q .normal ⟨T,a0.defers⟩ w'):(Code.region id ops true).wp P Q a0 w:=by
 refine wp_region_any hm (wpAny_fix (a0:=a0) (T:=T) hB hT hstep hsz (fun a w' hA hJ=>?_) ops.size _ a0 _ (by simp) (by simp[unlisted]) ?_ h0)
 ·have e:a=⟨T,a0.defers⟩:=by
   obtain ⟨h1,h2,h3⟩:=hA
   obtain ⟨tm,df⟩:=a
   simp only at h1 h2 h3
   subst h1
   congr 1
   refine Array.ext (by omega) fun i hi1 hi2=>?_
   rcases (h3 i).1 with⟨j,o,ho,_,hn⟩|h4
   ·have hlt:j<ops.size:=(Array.getElem?_eq_some_iff.1 ho).1
    simp[hlt] at hn
   ·simpa[hi1,hi2] using h4
  rw[e]
  exact hend w' hJ
 ·refine⟨rfl,rfl,fun t=>⟨?_,fun _=>rfl⟩⟩
  by_cases h:∃ (j:Nat) (o:Oper),ops[j]? = some o∧o.dst=some t
  ·obtain ⟨j,o,ho,hd⟩:=h
   have hlt:j<ops.size:=(Array.getElem?_eq_some_iff.1 ho).1
   exact .inl ⟨j,o,ho,hd,by simp[hlt]⟩
  ·exact .inr (hrest t fun j o ho hd=>h ⟨j,o,ho,hd⟩).symm
end
end
section
open Go.RowKit
def UponD (P:Program) (Φ:Value→World→Prop):Result Next→Prop
  | .ok (.value u) w'=>Φ u w'
  | .ok .skip w'=>Φ undef w'
  | .ok (.enter f args) w'=>Calls P f args w' fun e w''=>∃ v,e=.returned v∧Φ v w''
  | _=>False
theorem UponD.mono {P:Program} {Φ Ψ:Value→World→Prop} {r:Result Next} (h:UponD P Φ r) (hi:∀ v w,Φ v w→Ψ v w):UponD P Ψ r:=by
  cases r with
  | ok x w =>
    cases x<;>simp only[UponD] at h ⊢
    case value u=>exact hi _ _ h
    case skip=>exact hi _ _ h
    case enter f args=>exact h.mono fun e w ⟨v,he,hv⟩=>⟨v,he,hi _ _ hv⟩
  | halt x w=>exact h
theorem UponD.wp {P:Program} {o:Oper} {a:Act} {w:World} {Φ:Value→World→Prop} {K:Act→World→Prop} {Q:Exit→Act→World→Prop}
    (h:UponD P Φ ((execOp a.eval o).run P w)) (hK:∀ v w',Φ v w'→K (a.put o.dst v) w'):o.wp P a w K Q:=by
  unfold Oper.wp
  generalize (execOp a.eval o).run P w=r at *
  cases r with
  | ok x w' =>
    cases x<;>simp only[UponD] at h<;>simp only[Oper.upon]
    case value u=>exact hK _ _ h
    case skip=>exact hK _ _ h
    case enter f args=>exact h.mono fun e w'' ⟨v,he,hr⟩=>by subst he;exact hK _ _ hr
  | halt x w'=>simp only[UponD] at h
def befStep (acc:Array Nat) (o:Oper):Array Nat:=acc.push (o.after.foldl (fun s e=>if Region.binds .any e then s ||| 2 ^ e.on ||| acc.getD e.on 0 else s) 0)
theorem before_eq (ops:Array Oper):Region.before ops=ops.toList.foldl befStep #[]:=by
  unfold Region.before
  rw[← Array.foldl_toList];rfl
theorem bef_old:∀ (l:List Oper) (acc:Array Nat) (k:Nat),k<acc.size→(l.foldl befStep acc).getD k 0=acc.getD k 0
  | [],acc,k,_=>rfl
  | o::l,acc,k,h=>by
    rw[List.foldl_cons,bef_old l _ k (by simp[befStep];omega)]
    simp[befStep,Array.getElem?_push,Nat.ne_of_lt h]
theorem bef_at:∀ (l:List Oper) (acc:Array Nat) (i:Nat) (o:Oper),l[i]? = some o→∃ acc':Array Nat,acc'.size=acc.size+i∧(∀ k,k<acc.size+i→(l.foldl befStep acc).getD k 0=acc'.getD k 0) ∧
    (l.foldl befStep acc).getD (acc.size+i) 0=o.after.foldl (fun s e=>if Region.binds .any e then s ||| 2 ^ e.on ||| acc'.getD e.on 0 else s) 0
  | [],_,_,_,h=>by simp at h
  | p::l,acc,0,o,h=>by
    simp at h;subst h
    refine⟨acc,rfl,fun k hk=>?_,?_⟩
    · exact bef_old (p::l) acc k hk
    · rw[List.foldl_cons,Nat.add_zero,bef_old l _ acc.size (by simp[befStep])]
      simp[befStep]
  | p::l,acc,i+1,o,h=>by
    obtain ⟨acc',h1,h2,h3⟩:=bef_at l (befStep acc p) i o (by simpa using h)
    have hs:(befStep acc p).size=acc.size+1:=by simp[befStep]
    rw[hs] at h1 h2 h3
    refine⟨acc',by omega,fun k hk=>by rw[List.foldl_cons];exact h2 k (by omega),?_⟩
    rw[List.foldl_cons,show acc.size+(i+1)=acc.size+1+i by omega]
    exact h3
theorem fold_bits (f:Edge→Nat) (j:Nat):∀ (l:List Edge) (s:Nat),(l.foldl (fun s e=>if Region.binds .any e then s ||| 2 ^ e.on ||| f e else s) s).testBit j=true→s.testBit j=true∨∃ e∈l,Region.binds .any e=true∧(e.on=j∨(f e).testBit j=true)
  | [],s,h=>.inl h
  | e::l,s,h=>by
    rw[List.foldl_cons] at h
    rcases fold_bits f j l _ h with h1|⟨e',he,hb⟩
    · split at h1
      · rename_i hb
        rw[Nat.testBit_or,Nat.testBit_or,Nat.testBit_two_pow] at h1
        simp only[Bool.or_eq_true,decide_eq_true_eq] at h1
        rcases h1 with(h1|h1)|h1
        · exact .inl h1
        · exact .inr ⟨e,by simp,hb,.inl h1⟩
        · exact .inr ⟨e,by simp,hb,.inr h1⟩
      · exact .inl h1
    · exact .inr ⟨e',by simp[he],hb⟩
theorem anc_listed {ops:Array Oper} {S:Nat→Prop} (hback:∀ (i:Nat) (o:Oper),ops[i]? = some o→∀ e∈o.after,Region.binds .any e=true→e.on<i)
    (hclosed:∀ (i:Nat) (o:Oper),ops[i]? = some o→S i→∀ e∈o.after,Region.binds .any e=true→S e.on) :
    ∀ (i:Nat) (o:Oper),ops[i]? = some o→(∀ e∈o.after,Region.binds .any e=true→S e.on)→∀ j,((Region.before ops).getD i 0).testBit j=true→S j:=by
  intro i
  induction i using Nat.strongRecOn with
  | ind i ih =>
    intro o ho he j hj
    have ho':ops.toList[i]? = some o:=by simpa using ho
    obtain ⟨acc',h1,h2,h3⟩:=bef_at ops.toList #[] i o ho'
    rw[before_eq] at hj
    simp only[List.size_toArray,List.length_nil,Nat.zero_add] at h1 h2 h3
    rw[h3,← Array.foldl_toList] at hj
    rcases fold_bits (fun e=>acc'.getD e.on 0) j o.after.toList 0 hj with h|⟨e,hm,hb,h⟩
    · simp at h
    · have hm':e∈o.after:=by simpa using hm
      have hlt:=hback i o ho e hm' hb
      rcases h with h|h
      · rw[← h];exact he e hm' hb
      · cases hoe:ops[e.on]? with
        | none =>
          have:ops.size≤e.on:=by simpa using hoe
          have:i<ops.size:=(Array.getElem?_eq_some_iff.1 ho).1
          omega
        | some oe =>
          refine ih e.on hlt oe hoe (fun e' he' hb'=>hclosed e.on oe hoe (he e hm' hb) e' he' hb') j ?_
          rw[before_eq,h2 e.on hlt];exact h
def lookS:List (Nat × List Nat)→Nat→List Nat
  | [],_=>[]
  | (s,v)::r,t=>cond (Nat.beq s t) v (lookS r t)
def ordOK (ops:Array Oper) (B:Array Nat) (E Fl:List Nat) (S:List (Nat × List Nat)):List Nat→List Nat→Bool
  | _,[]=>true
  | done,i::rest =>
    (match ops[i]? with
     | none=>false
     | some o=>o.after.all fun e=>!Region.binds .any e || done.contains e.on) &&
    (Fl.contains i || done.all fun e=>!(E.contains e || Fl.contains e) || (B.getD i 0).testBit e) && !done.contains i && (!E.contains i || done.all fun j=>E.contains j || Fl.contains j || (B.getD i 0).testBit j || (lookS S i).contains j) && ordOK ops B E Fl S (i::done) rest
def drawOK (ops:Array Oper) (E Fl:List Nat) (S:List (Nat × List Nat)) (σ:List Nat) (n:Nat):Bool :=
  fixB ops && ordOK ops (Region.before ops) E Fl S [] σ && Nat.beq σ.length ops.size && ((List.range ops.size).all fun i=>σ.contains i) && (Fl.all fun i=>!E.contains i && (match ops[i]? with|some o=>(match o.op,o.guard,o.dst with|.alloc _,none,some _=>true|_,_,_=>false)|none=>false)) && ops.all fun o=>match o.dst with|none=>true|some d=>Nat.ble (d+1) n
section
variable {P:Program} {ops:Array Oper} {Q:Exit→Act→World→Prop} {n:Nat} {E Fl:List Nat} {S:List (Nat × List Nat)}
def RdV (P:Program) (ops:Array Oper) (n:Nat) (o:Oper) (v:Value) (l:List (Nat × Value)) (L:List Asn):Prop :=
  (Wanted o ops l=some true∧∀ a w,Fr a n l→Mem w L→(execOp a.eval o).run P w=.ok (.value v) w)∨(Wanted o ops l=some false∧v=undef)
def Rv (P:Program) (ops:Array Oper) (n:Nat) (j:Nat) (l:List (Nat × Value)) (L:List Asn):Prop :=
  ∃ o v,ops[j]? = some o∧RdV P ops n o v l L∧∀ t,o.dst=some t→look l t=some v
def Rvs (P:Program) (ops:Array Oper) (n:Nat):List Nat→List (Nat × Value)→List Asn→Prop
  | [],_,_=>True
  | j::r,l,L=>Rv P ops n j l L∧Rvs P ops n r l L
theorem Rvs.mem {l:List (Nat × Value)} {L:List Asn}:∀ {js:List Nat},Rvs P ops n js l L→∀ j∈js,Rv P ops n j l L
  | [],_,j,hj=>by simp at hj
  | i::r,h,j,hj=>by
    rcases List.mem_cons.1 hj with rfl|hj
    · exact h.1
    · exact Rvs.mem h.2 j hj
def Acts (P:Program) (o:Oper) (l:List (Nat × Value)) (L:List Asn) (n:Nat) (C:Value→List Asn→Prop):Prop:=∀ F a w,Fr a n l→Mem w (L++F)→UponD P (fun v w'=>∃ L',C v L'∧Mem w' (L'++F)) ((execOp a.eval o).run P w)
def News (P:Program) (o:Oper) (cs:List Value) (t:TypeId):Prop:=∀ ρ w,(execOp ρ o).run P w=.ok (.value (.pointer (some ⟨w.heap.size,0,none⟩))) (w.alloc (.cells cs.toArray t))
def PW (P:Program) (ops:Array Oper) (n:Nat) (Q:Exit→Act→World→Prop) (E Fl:List Nat) (S:List (Nat × List Nat)):List Nat→List Nat→List (Nat × Value)→List Asn→Prop
  | [],_,l,L=>∀ a w,Fr a n l→Mem w L→Q .normal a w
  | i::rest,done,l,L =>
    match ops[i]? with
    | none=>False
    | some o =>
      if Fl.contains i then
        ∃ cs t,News P o cs t∧∀ b,PW P ops n Q E Fl S rest (i::done) (putL o.dst (.pointer (some ⟨b,0,none⟩)) l) (pt b cs t::L)
      else if E.contains i then
        (Wanted o ops l=some true∧Acts P o l L n fun v L'=>Rvs P ops n (lookS S i) (putL o.dst v l) L'∧PW P ops n Q E Fl S rest (i::done) (putL o.dst v l) L') ∨
        (Wanted o ops l=some false∧PW P ops n Q E Fl S rest (i::done) (putL o.dst undef l) L)
      else ∃ v,RdV P ops n o v l L∧PW P ops n Q E Fl S rest (i::done) (putL o.dst v l) L
def over (a:Act) (l:List (Nat × Value)):Act:={a with tmps:=Array.ofFn (n:=a.tmps.size) fun i=>(look l i.1).getD (a.tmps.getD i.1 undef)}
theorem over_fr {a:Act} {l:List (Nat × Value)} (hd:a.defers=[]) (hs:a.tmps.size=n) (hl:∀ t v,look l t=some v→t<n):Fr (over a l) n l:=by
  refine⟨hd,by simp[over,hs],fun t v h=>⟨hl t v h,?_⟩⟩
  have:=hl t v h
  simp[over,hs,this,h]
theorem over_get {a:Act} {l:List (Nat × Value)} {t:Nat} (h:∀ v,look l t=some v→a.tmps.getD t undef=v):(over a l).tmps.getD t undef=a.tmps.getD t undef:=by
  by_cases ht:t<a.tmps.size
  · cases hl:look l t with
    | none=>simp[over,ht,hl]
    | some v =>
      have:=h v hl
      simp only[Array.getD_eq_getD_getElem?] at this
      simp[over,ht,hl]
      simpa[ht] using this.symm
  · simp[over,ht]
theorem over_size (a:Act) (l:List (Nat × Value)):(over a l).tmps.size=a.tmps.size:=by simp[over]
def looksAt (ops:Array Oper) (o:Oper) (t:Nat):Prop:=(.tmp t)∈o.op.operands∨∃ g b p,o.guard=some (g,b)∧ops[g]? = some p∧p.dst=some t
theorem congr_over {a:Act} {l:List (Nat × Value)} {o:Oper} (hB:∀ cs b,o.op≠.select cs b) (h:∀ t,looksAt ops o t→∀ v,look l t=some v→a.tmps.getD t undef=v) :
    execOp a.eval o=execOp (over a l).eval o∧Region.wanted o (yielded ops a.tmps)=Region.wanted o (yielded ops (over a l).tmps):=by
  constructor
  · refine execOp_congr o hB fun x hx=>?_
    cases x with
    | tmp t=>exact(over_get (h t (.inl hx))).symm
    | const v=>rfl
    | global g=>rfl
    | func f=>rfl
  · unfold Region.wanted
    cases hg:o.guard with
    | none=>rfl
    | some gw =>
      obtain ⟨g,b⟩:=gw
      simp only[]
      have:yielded ops a.tmps g=yielded ops (over a l).tmps g:=by
        unfold yielded
        cases hp:ops[g]? with
        | none=>rfl
        | some p =>
          simp only[Option.bind_some]
          cases hd:p.dst with
          | none=>rfl
          | some d =>
            simp only[Option.bind_some]
            have h2:=over_get (a:=a) (l:=l) (h d (.inr ⟨g,b,p,hg,hp,hd⟩))
            have hsz:=over_size a l
            by_cases hda:d<a.tmps.size
            · have hda':d<(over a l).tmps.size:=by rw[hsz];exact hda
              simp only[Array.getD,hda,hda',dif_pos] at h2
              rw[Array.getElem?_eq_getElem hda,Array.getElem?_eq_getElem hda']
              have h3:(over a l).tmps[d]=a.tmps[d]:=by simpa using h2
              rw[h3]
            · rw[Array.getElem?_eq_none (Nat.le_of_not_lt hda),Array.getElem?_eq_none (Nat.le_of_not_lt (by rw[hsz];exact hda))]
      rw[this]
def Valid (P:Program) (ops:Array Oper) (n:Nat) (l:List (Nat × Value)) (L:List Asn) (j:Nat):Prop :=
  ∃ (o:Oper) (v:Value) (lj:List (Nat × Value)),ops[j]? = some o∧(∀ t,o.dst=some t→look l t=some v)∧(∀ t v,look lj t=some v→t<n)∧(∀ t,looksAt ops o t→∀ u,look lj t=some u→look l t=some u)∧RdV P ops n o v lj L
theorem look_put {d t:Nat} {v:Value} {l:List (Nat × Value)} (h:d≠t):look ((d,v)::l) t=look l t:=by simp[look,nbeq h]
theorem look_put_self {d:Nat} {v:Value} {l:List (Nat × Value)}:look ((d,v)::l) d=some v:=by simp[look,Nat.beq_refl]
theorem look_putL {ops:Array Oper} {l:List (Nat × Value)} (hn:∀ (i:Nat) (o:Oper) (d:Nat),ops[i]? = some o→o.dst=some d→d<n) (hl:∀ t u,look l t=some u→t<n) {k:Nat} {o:Oper} (ho:ops[k]? = some o) (v:Value):∀ t u,look (putL o.dst v l) t=some u→t<n:=fun t u hu=>by
  cases hd:o.dst with
  | none=>rw[hd] at hu;exact hl t u hu
  | some t0 =>
    rw[hd] at hu
    by_cases ht:t0=t
    · subst ht;exact hn k o t0 ho hd
    · rw[putL,look_put ht] at hu;exact hl t u hu
theorem look_put_cases {o:Oper} {v u:Value} {l:List (Nat × Value)} {t:Nat} (h:look (putL o.dst v l) t=some u):(o.dst=some t∧u=v)∨(o.dst≠some t∧look l t=some u):=by
  cases hd:o.dst with
  | none=>rw[hd] at h;exact .inr ⟨by simp,h⟩
  | some t0 =>
    rw[hd] at h
    by_cases ht:t0=t
    · subst ht;rw[putL,look_put_self] at h;exact .inl ⟨rfl,(Option.some.inj h).symm⟩
    · rw[putL,look_put ht] at h;exact .inr ⟨by simp[ht],h⟩
theorem not_looks (hB:fixB ops=true) {done:List Nat} (hcl:∀ j∈done,∀ oj,ops[j]? = some oj→∀ e∈oj.after,Region.binds .any e=true→e.on∈done) {i:Nat} {o:Oper} (hoi:ops[i]? = some o) (hni:i∉done) {t:Nat} (ht:o.dst=some t) :
    (∀ j∈done,∀ oj,ops[j]? = some oj→¬looksAt ops oj t∧oj.dst≠some t)∧¬looksAt ops o t:=by
  have key:∀ (j:Nat) (oj:Oper),ops[j]? = some oj→looksAt ops oj t→∃ e∈oj.after,Region.binds .any e=true∧e.on=i:=by
    intro j oj hoj hlk
    have h1:=(fixB_spec hB hoj).2.2 i o t hoi ht
    rcases hlk with hlk|⟨g,b,p,hg,hp,hpd⟩
    · exact h1.1 hlk
    · have hgi:g=i:=by
        by_cases hgi:g=i
        · exact hgi
        · exact absurd ht ((fixB_spec hB hoi).2.2 g p t hp hpd |>.2.2 (Ne.symm hgi))
      exact h1.2.1 g b hg hgi
  refine⟨fun j hj oj hoj=>⟨fun hlk=>?_,?_⟩,fun hlk=>?_⟩
  · obtain ⟨e,hem,heb,heo⟩:=key j oj hoj hlk
    exact hni (heo ▸ hcl j hj oj hoj e hem heb)
  · have hij:j≠i:=fun e=>hni (e ▸ hj)
    exact((fixB_spec hB hoj).2.2 i o t hoi ht).2.2 hij
  · obtain ⟨e,hem,heb,heo⟩:=key i o hoi hlk
    have:=(fixB_spec hB hoi).1 e hem heb
    omega
theorem Valid.put (hB:fixB ops=true) {done:List Nat} (hcl:∀ j∈done,∀ oj,ops[j]? = some oj→∀ e∈oj.after,Region.binds .any e=true→e.on∈done) {i:Nat} {o:Oper} (hoi:ops[i]? = some o) (hni:i∉done) {l:List (Nat × Value)} {L:List Asn} {v:Value} {j:Nat} (hj:j∈done)
    (h:Valid P ops n l L j):Valid P ops n (putL o.dst v l) L j:=by
  obtain ⟨oj,u,lj,h1,h2,h3,h4,h5⟩:=h
  cases hd:o.dst with
  | none=>exact⟨oj,u,lj,h1,h2,h3,h4,h5⟩
  | some t0 =>
    obtain ⟨k1,k2⟩:=(not_looks hB hcl hoi hni hd).1 j hj oj h1
    refine⟨oj,u,lj,h1,fun t ht=>?_,h3,fun t hlk x hx=>?_,h5⟩
    · show look ((t0,v)::l) t=some u
      rw[look_put (fun e=>k2 (by rw[ht,e]))];exact h2 t ht
    · show look ((t0,v)::l) t=some x
      rw[look_put (fun e=>by subst e;exact k1 hlk)];exact h4 t hlk x hx
theorem RdV.more {o:Oper} {v:Value} {l:List (Nat × Value)} {L L':List Asn} (h:RdV P ops n o v l L) (hp:∀ w,Mem w L'→Mem w L):RdV P ops n o v l L':=by
  rcases h with⟨h1,h2⟩|h
  · exact .inl ⟨h1,fun a w F M=>h2 a w F (hp w M)⟩
  · exact .inr h
theorem Valid.more {l:List (Nat × Value)} {L L':List Asn} {j:Nat} (h:Valid P ops n l L j) (hp:∀ w,Mem w L'→Mem w L):Valid P ops n l L' j:=by
  obtain ⟨oj,u,lj,h1,h2,h3,h4,h5⟩:=h
  exact⟨oj,u,lj,h1,h2,h3,h4,h5.more hp⟩
theorem Mem.drop_app {L F:List Asn} {w:World} (M:Mem w (L++F)):Mem w L:=by
  induction L generalizing w with
  | nil=>exact Mem.nil w
  | cons A L ih =>
    obtain ⟨s,hs⟩:=M
    have key:∀ (L:List Asn) (s:List Nat) (w:World),Sat (L++F) s w→∃ s',Sat L s' w∧∀ b∈s',b∈s:=by
      intro L
      induction L with
      | nil=>exact fun s w _=>⟨[],.nil w,by simp⟩
      | cons A L ih =>
        intro s w hs
        cases hs with
        | cons h1 h2 h3 =>
          obtain ⟨s',k1,k2⟩:=ih _ _ h2
          refine⟨_,.cons h1 k1 fun b hb hm=>h3 b hb (k2 b hm),fun b hb=>?_⟩
          rcases List.mem_append.1 hb with hb|hb
          · exact List.mem_append.2 (.inl hb)
          · exact List.mem_append.2 (.inr (k2 b hb))
    obtain ⟨s',h,_⟩:=key (A::L) s w hs
    exact⟨s',h⟩
theorem pull_mid (L1 L2:List Asn) (A:Asn):Pull (L1++A::L2) A (L1++L2):=by
  induction L1 with
  | nil=>exact .here
  | cons X L1 ih=>exact .there ih
theorem News.uniq {o:Oper} {cs cs':List Value} {t t':TypeId} (h:News P o cs t) (h':News P o cs' t'):cs=cs'∧t=t':=by
  have h1:=h (fun _=>undef) {heap:=#[],tape:=fun _ _=>0,drawn:=0,os:=default,output:=#[]}
  rw[h' (fun _=>undef) _] at h1
  have h2:=Result.ok.inj h1
  have h3:=congrArg World.heap h2.2
  simp[World.alloc] at h3
  exact⟨h3.1.symm,h3.2.symm⟩
structure Pre (P:Program) (ops:Array Oper) (n:Nat) (Q:Exit→Act→World→Prop) (E Fl:List Nat) (S:List (Nat × List Nat)) (listed:Array Bool) (a:Act) (w:World) (done rest:List Nat) (l:List (Nat × Value)) (L:List Asn) (ear:List (Nat × Nat × Asn)):Prop where
  pw:PW P ops n Q E Fl S rest done l L
  ord:ordOK ops (Region.before ops) E Fl S done rest=true
  perm:∀ i,i<ops.size→i∈done∨i∈rest
  mem:Mem w (L++ear.map (·.2.2))
  early:∀ x∈ear,∃ o cs t d,ops[x.1]? = some o∧News P o cs t∧x.2.2=pt x.2.1 cs t∧o.dst=some d∧a.tmps.getD d undef=.pointer (some ⟨x.2.1,0,none⟩)∧Fl.contains x.1=true∧listed.getD x.1 true=true∧x.1∉done
  once:(ear.map (·.1)).Nodup
  sub:∀ j,j<ops.size→listed.getD j true=true→j∈done∨j∈ear.map (·.1)
  effs:∀ j∈done,(E.contains j=true∨Fl.contains j=true)→listed.getD j true=true
  dcl:∀ j∈done,∀ oj,ops[j]? = some oj→∀ e∈oj.after,Region.binds .any e=true→e.on∈done
  closed:∀ (j:Nat) (o:Oper),ops[j]? = some o→listed.getD j true=true→∀ e∈o.after,Region.binds .any e=true→listed.getD e.on true=true
  ds:a.defers=[]
  size:a.tmps.size=n
  lt:∀ t v,look l t=some v→t<n
  slots:∀ t v,look l t=some v→a.tmps.getD t undef=v∨(∃ j o,ops[j]? = some o∧listed.getD j true=false∧o.dst=some t)∨∃ x∈ear,∃ o,ops[x.1]? = some o∧o.dst=some t
  valid:∀ j∈done,listed.getD j true=false→Valid P ops n l L j
def Head (E Fl:List Nat) (listed:Array Bool) (rest:List Nat):Prop:=∀ i r,rest=i::r→Fl.contains i=false∧E.contains i=true∨Fl.contains i=true∧listed.getD i true=false
theorem norm (hB:fixB ops=true) (hn:∀ (i:Nat) (o:Oper) (d:Nat),ops[i]? = some o→o.dst=some d→d<n) {listed:Array Bool} {a:Act} {w:World} :
    ∀ (rest done:List Nat) (l:List (Nat × Value)) (L:List Asn) (ear:List (Nat × Nat × Asn)),Pre P ops n Q E Fl S listed a w done rest l L ear→∃ done' rest' l' L' ear',Pre P ops n Q E Fl S listed a w done' rest' l' L' ear'∧Head E Fl listed rest':=by
  intro rest
  induction rest with
  | nil=>exact fun done l L ear I=>⟨done,[],l,L,ear,I,fun i r h=>by cases h⟩
  | cons i rest ih =>
    intro done l L ear I
    have ho:=I.ord
    rw[ordOK] at ho
    simp only[Bool.and_eq_true] at ho
    obtain ⟨⟨⟨⟨ho1,ho2⟩,ho3⟩,ho5⟩,ho4⟩:=ho
    have hni:i∉done:=by simpa using ho3
    have h:=I.pw
    rw[PW] at h
    cases hoi:ops[i]? with
    | none=>rw[hoi] at h;exact h.elim
    | some o =>
      rw[hoi] at h ho1
      simp only at h
      have hlo:i<ops.size:=(Array.getElem?_eq_some_iff.1 hoi).1
      have hedges:∀ e∈o.after,Region.binds .any e=true→e.on∈done:=fun e hem heb=>by
        have:=Array.all_eq_true_iff_forall_mem.1 ho1 e hem
        simpa[heb] using this
      have hcl':∀ j∈i::done,∀ oj,ops[j]? = some oj→∀ e∈oj.after,Region.binds .any e=true→e.on∈i::done:=fun j hj oj hoj e hem heb=>by
        rcases List.mem_cons.1 hj with rfl|hj
        · rw[hoi] at hoj;cases hoj
          exact List.mem_cons_of_mem _ (hedges e hem heb)
        · exact List.mem_cons_of_mem _ (I.dcl j hj oj hoj e hem heb)
      have hperm':∀ k,k<ops.size→k∈i::done∨k∈rest:=fun k hk=>by
        rcases I.perm k hk with h|h
        · exact .inl (List.mem_cons_of_mem _ h)
        · rcases List.mem_cons.1 h with rfl|h
          · exact .inl (by simp)
          · exact .inr h
      by_cases hf:Fl.contains i=true
      ·
        by_cases hli:listed.getD i true=true
        · have hear:=(I.sub i hlo hli).resolve_left hni
          obtain ⟨x,hx,hxi⟩:=List.mem_map.1 hear
          obtain ⟨e1,e2,rfl⟩:=List.append_of_mem hx
          obtain ⟨j,b,A⟩:=x
          simp only at hxi
          subst hxi
          obtain ⟨o',cs',t',d,q1,q2,q3,q4,q5,q6,q7,q8⟩:=I.early (j,b,A) hx
          simp only at q1 q3 q5 q6 q7 q8
          rw[hoi] at q1;cases q1
          simp only[hf,if_true] at h
          obtain ⟨cs,t,hnew,hpw⟩:=h
          obtain ⟨rfl,rfl⟩:=hnew.uniq q2
          subst q3
          have honce:=I.once
          simp only[List.map_append,List.map_cons,List.nodup_append,List.nodup_cons,List.mem_cons] at honce
          obtain ⟨n1,⟨n2,n3⟩,n4⟩:=honce
          have hjne:∀ y∈e1++e2,y.1≠j:=fun y hy e=>by
            rcases List.mem_append.1 hy with hy|hy
            · exact n4 y.1 (List.mem_map.2 ⟨y,hy,rfl⟩) j (.inl rfl) e
            · exact n2 (List.mem_map.2 ⟨y,hy,e⟩)
          refine ih (j::done) (putL o.dst (.pointer (some ⟨b,0,none⟩)) l) (pt b cs t::L) (e1++e2) ⟨hpw b,ho4,hperm',?_,fun y hy=>?_,?_,fun k hk hkl=>?_,fun k hk hke=>?_,hcl',I.closed,I.ds,I.size,look_putL hn I.lt hoi _,fun s u hu=>?_,fun k hk hkl=>?_⟩
          · have M:=I.mem
            simp only[List.map_append,List.map_cons] at M
            rw[← List.append_assoc] at M
            have:=M.pull (pull_mid _ _ _)
            simpa using this
          · have hy':y∈e1++(j,b,pt b cs t)::e2:=by
              rcases List.mem_append.1 hy with h|h
              · exact List.mem_append.2 (.inl h)
              · exact List.mem_append.2 (.inr (List.mem_cons_of_mem _ h))
            obtain ⟨oy,csy,ty,dy,r1,r2,r3,r4,r5,r6,r7,r8⟩:=I.early y hy'
            exact⟨oy,csy,ty,dy,r1,r2,r3,r4,r5,r6,r7,fun hm=>(List.mem_cons.1 hm).elim (fun e=>hjne y hy e) r8⟩
          · simp only[List.map_append,List.nodup_append]
            exact⟨n1,n3,fun p hp q hq=>n4 p hp q (.inr hq)⟩
          · rcases I.sub k hk hkl with h|h
            · exact .inl (List.mem_cons_of_mem _ h)
            · simp only[List.map_append,List.map_cons,List.mem_append,List.mem_cons] at h
              rcases h with h|rfl|h
              · exact .inr (by simp[h])
              · exact .inl (by simp)
              · exact .inr (by simp only[List.map_append,List.mem_append];exact .inr h)
          · rcases List.mem_cons.1 hk with rfl|hk
            · exact hli
            · exact I.effs k hk hke
          · rcases look_put_cases hu with⟨h1,rfl⟩|⟨hne,h1⟩
            · rw[q4] at h1;cases h1;exact .inl q5
            · rcases I.slots s u h1 with h|h|⟨x,hx2,ox,hox,hoxd⟩
              · exact .inl h
              · exact .inr (.inl h)
              · refine .inr (.inr ⟨x,?_,ox,hox,hoxd⟩)
                rcases List.mem_append.1 hx2 with h|h
                · exact List.mem_append.2 (.inl h)
                · rcases List.mem_cons.1 h with rfl|h
                  · simp only at hox;rw[hoi] at hox;cases hox;exact absurd hoxd hne
                  · exact List.mem_append.2 (.inr h)
          · rcases List.mem_cons.1 hk with rfl|hk
            · rw[hli] at hkl;cases hkl
            · exact((I.valid k hk hkl).put hB I.dcl hoi hni hk).more fun w M=>M.drop
        · exact⟨done,i::rest,l,L,ear,I,fun k r e=>by cases e;exact .inr ⟨hf,by simpa using hli⟩⟩
      · have hf':Fl.contains i=false:=by simpa using hf
        simp only[hf',Bool.false_eq_true,if_false] at h
        by_cases he:E.contains i=true
        · exact⟨done,i::rest,l,L,ear,I,fun k r e=>by cases e;exact .inl ⟨hf',he⟩⟩
        · have he':E.contains i=false:=by simpa using he
          simp only[he',Bool.false_eq_true,if_false] at h
          obtain ⟨v,hrd,hpw⟩:=h
          have hli:listed.getD i true=false:=by
            cases hli:listed.getD i true with
            | false=>rfl
            | true =>
              rcases I.sub i hlo hli with h|h
              · exact absurd h hni
              · obtain ⟨x,hx,hxi⟩:=List.mem_map.1 h
                obtain ⟨_,_,_,_,_,_,_,_,_,q6,_⟩:=I.early x hx
                rw[hxi,hf'] at q6;cases q6
          have hvi:Valid P ops n (putL o.dst v l) L i:=by
            refine⟨o,v,l,hoi,fun t ht=>by rw[ht];exact look_put_self,I.lt,fun t hlk u hu=>?_,hrd⟩
            cases hd:o.dst with
            | none=>exact hu
            | some t0 =>
              have:=(not_looks hB I.dcl hoi hni hd).2
              show look ((t0,v)::l) t=some u
              rw[look_put (fun e=>by subst e;exact this hlk)];exact hu
          refine ih (i::done) (putL o.dst v l) L ear ⟨hpw,ho4,hperm',I.mem,fun y hy=>?_,I.once,fun k hk hkl=>?_,fun k hk hke=>?_,hcl',I.closed,I.ds,I.size,look_putL hn I.lt hoi _,fun s u hu=>?_,fun k hk hkl=>?_⟩
          · obtain ⟨oy,csy,ty,dy,r1,r2,r3,r4,r5,r6,r7,r8⟩:=I.early y hy
            exact⟨oy,csy,ty,dy,r1,r2,r3,r4,r5,r6,r7,fun hm=>(List.mem_cons.1 hm).elim (fun e=>by rw[e,hf'] at r6;cases r6) r8⟩
          · rcases I.sub k hk hkl with h|h
            · exact .inl (List.mem_cons_of_mem _ h)
            · exact .inr h
          · rcases List.mem_cons.1 hk with rfl|hk
            · rw[he',hf'] at hke;rcases hke with h|h<;>cases h
            · exact I.effs k hk hke
          · rcases look_put_cases hu with⟨h1,rfl⟩|⟨_,h1⟩
            · exact .inr (.inl ⟨i,o,hoi,hli,h1⟩)
            · exact I.slots s u h1
          · rcases List.mem_cons.1 hk with rfl|hk
            · exact hvi
            · exact(I.valid k hk hkl).put hB I.dcl hoi hni hk
theorem getD_set {listed:Array Bool} {i j:Nat} (hi:i<listed.size):(listed.setIfInBounds i true).getD j true=(if i=j then true else listed.getD j true):=by
  by_cases h:i=j
  · subst h;simp[hi]
  · rw[if_neg h]
    simp[Array.getElem?_setIfInBounds,h]
def FlOK (P:Program) (ops:Array Oper) (Fl:List Nat):Prop:=∀ i,Fl.contains i=true→∀ o,ops[i]? = some o→o.guard=none∧(∃ d,o.dst=some d)∧∃ cs t,News P o cs t
theorem pw_any (hB:fixB ops=true) (hn:∀ (i:Nat) (o:Oper) (d:Nat),ops[i]? = some o→o.dst=some d→d<n) (hFl:FlOK P ops Fl) (hEF:∀ i,Fl.contains i=true→E.contains i=false) :
    ∀ (fuel:Nat) (listed:Array Bool) (a:Act) (w:World),listed.size=ops.size→unlisted listed≤fuel→(∃ done rest l L ear,Pre P ops n Q E Fl S listed a w done rest l L ear∧Head E Fl listed rest)→wpAny P .any ops Q fuel listed a w:=by
  have stop:∀ (listed:Array Bool) (a:Act) (w:World),listed.size=ops.size→(∃ done rest l L ear,Pre P ops n Q E Fl S listed a w done rest l L ear∧Head E Fl listed rest)→Region.ready .any ops listed=[]→Q .normal a w:=by
    intro listed a w hl ⟨done,rest,l,L,ear,I,hhead⟩ hr
    have hall:=ready_nil_all hB hl hr
    cases rest with
    | cons i r =>
      exfalso
      have ho:=I.ord
      rw[ordOK] at ho
      simp only[Bool.and_eq_true] at ho
      have hlt:i<ops.size:=by
        cases hoi:ops[i]? with
        | none=>have h1:=ho.1.1.1.1;rw[hoi] at h1;cases h1
        | some o=>exact(Array.getElem?_eq_some_iff.1 hoi).1
      have hli:=hall i hlt
      rcases hhead i r rfl with⟨h1,h2⟩|⟨_,h2⟩
      · rcases I.sub i hlt hli with h|h
        · simp[h] at ho
        · obtain ⟨x,hx,hxi⟩:=List.mem_map.1 h
          obtain ⟨_,_,_,_,_,_,_,_,_,q6,_⟩:=I.early x hx
          rw[hxi,h1] at q6;cases q6
      · rw[hli] at h2;cases h2
    | nil =>
      have hpw:=I.pw
      rw[PW] at hpw
      refine hpw a w ⟨I.ds,I.size,fun t v ht=>⟨I.lt t v ht,?_⟩⟩ I.mem.drop_app
      rcases I.slots t v ht with h|⟨j,o,hj,hf,_⟩|⟨x,hx,ox,hox,_⟩
      · exact h
      · have:=hall j (Array.getElem?_eq_some_iff.1 hj).1
        rw[this] at hf;cases hf
      · obtain ⟨_,_,_,_,_,_,_,_,_,_,_,q8⟩:=I.early x hx
        exact absurd ((I.perm x.1 (Array.getElem?_eq_some_iff.1 hox).1).resolve_right (by simp)) q8
  intro fuel
  induction fuel with
  | zero =>
    intro listed a w hl hu hI
    have hr:Region.ready .any ops listed=[]:=by
      apply List.eq_nil_iff_forall_not_mem.2
      intro i hi
      obtain ⟨h1,o,ho,_⟩:=mem_ready.1 hi
      have hlt:i<listed.size:=by rw[hl];exact(Array.getElem?_eq_some_iff.1 ho).1
      have:=unlisted_set hlt h1
      omega
    exact⟨hr,stop listed a w hl hI hr⟩
  | succ fuel ih =>
    intro listed a w hl hu hI
    refine⟨fun hr=>stop listed a w hl hI hr,fun i hi=>?_⟩
    obtain ⟨done,rest,l,L,ear,I,hhead⟩:=hI
    obtain ⟨h1,o,ho,hall0⟩:=mem_ready.1 hi
    have hlt:i<listed.size:=by rw[hl];exact(Array.getElem?_eq_some_iff.1 ho).1
    have hlo:i<ops.size:=by rw[← hl];exact hlt
    have hun:=unlisted_set hlt h1
    obtain ⟨hb1,hb2,hb3⟩:=fixB_spec hB ho
    have hall:∀ e∈o.after,Region.binds .any e=true→listed.getD e.on true=true:=fun e hem heb=>by
      have h2:=hall0 e hem heb
      have h3:=hb1 e hem heb
      have h4:e.on<listed.size:=by omega
      simpa[h4] using h2
    have hedge:∀ (j:Nat) (oj:Oper) (t:Nat),ops[j]? = some oj→oj.dst=some t→looksAt ops o t→∃ e∈o.after,Region.binds .any e=true∧e.on=j:=fun j oj t hj hd hlk=>by
      rcases hlk with hlk|⟨g,b,p,hg,hp,hpd⟩
      · exact(hb3 j oj t hj hd).1 hlk
      · have hgj:g=j:=by
          by_cases hgj:g=j
          · exact hgj
          · exact absurd hpd ((fixB_spec hB hp).2.2 j oj t hj hd |>.2.2 hgj)
        exact(hb3 j oj t hj hd).2.1 g b hg hgj
    have hslot:(∀ e∈o.after,Region.binds .any e=true→e.on∈done)→∀ t,looksAt ops o t→∀ u,look l t=some u→a.tmps.getD t undef=u:=fun hdn t hlk u hu=>by
      rcases I.slots t u hu with h|⟨j,oj,hj,hf,hd⟩|⟨x,hx,ox,hox,hoxd⟩
      · exact h
      · exfalso
        obtain ⟨e,hem,heb,heo⟩:=hedge j oj t hj hd hlk
        have:=hall e hem heb
        rw[heo,hf] at this;cases this
      · exfalso
        obtain ⟨e,hem,heb,heo⟩:=hedge x.1 ox t hox hoxd hlk
        obtain ⟨_,_,_,_,_,_,_,_,_,_,_,q8⟩:=I.early x hx
        exact q8 (heo ▸ hdn e hem heb)
    have hnd:∀ t,o.dst=some t→t<n:=fun t ht=>hn i o t ho ht
    have hclosed':∀ (j:Nat) (oj:Oper),ops[j]? = some oj→(listed.setIfInBounds i true).getD j true=true→∀ e∈oj.after,Region.binds .any e=true→(listed.setIfInBounds i true).getD e.on true=true:=fun j oj hj hjl e hem heb=>by
      rw[getD_set hlt] at hjl ⊢
      split
      · rfl
      · by_cases hij:i=j
        · subst hij;rw[ho] at hj;cases hj;exact hall e hem heb
        · rw[if_neg hij] at hjl;exact I.closed j oj hj hjl e hem heb
    have hother:∀ (v:Value) (t:Nat),o.dst≠some t→(a.put o.dst v).tmps.getD t undef=a.tmps.getD t undef:=fun v t htd=>by
      cases hod:o.dst with
      | none=>rfl
      | some t0 =>
        have:t0≠t:=fun e=>htd (by rw[hod,e])
        simp[Act.put,Array.getElem?_setIfInBounds,this]
    have hown:∀ (v:Value) (t:Nat),o.dst=some t→(a.put o.dst v).tmps.getD t undef=v:=fun v t htd=>by
      rw[htd];simp[Act.put,I.size,hnd t htd]
    have hdst:∀ (j:Nat) (oj:Oper) (t:Nat),ops[j]? = some oj→oj.dst=some t→i≠j→o.dst≠some t:=fun j oj t hj ht hij h=>(hb3 j oj t hj ht).2.2 hij h
    have hslots':∀ (v:Value) (t:Nat) (u:Value),look l t=some u→o.dst≠some t→(a.put o.dst v).tmps.getD t undef=u∨(∃ j oj,ops[j]? = some oj∧(listed.setIfInBounds i true).getD j true=false∧oj.dst=some t)∨∃ x∈ear,∃ o,ops[x.1]? = some o∧o.dst=some t:=fun v t u hu htd=>by
      rcases I.slots t u hu with h|⟨j,oj,hj,hf,hd'⟩|h
      · exact .inl (by rw[hother v t htd];exact h)
      · refine .inr (.inl ⟨j,oj,hj,?_,hd'⟩)
        have hij:i≠j:=fun e=>by subst e;rw[ho] at hj;cases hj;exact htd hd'
        rw[getD_set hlt,if_neg hij];exact hf
      · exact .inr (.inr h)
    have hearly':∀ (v:Value) (done':List Nat),(∀ k∈done',k∈done∨k=i)→Fl.contains i=false→∀ x∈ear,∃ o' cs t d,ops[x.1]? = some o'∧News P o' cs t∧x.2.2=pt x.2.1 cs t∧o'.dst=some d∧(a.put o.dst v).tmps.getD d undef=.pointer (some ⟨x.2.1,0,none⟩)∧Fl.contains x.1=true∧(listed.setIfInBounds i true).getD x.1 true=true∧x.1∉done':=fun v done' hd' hfi x hx=>by
      obtain ⟨o',cs,t,d,q1,q2,q3,q4,q5,q6,q7,q8⟩:=I.early x hx
      have hix:i≠x.1:=fun e=>by rw[← e,hfi] at q6;cases q6
      refine⟨o',cs,t,d,q1,q2,q3,q4,by rw[hother v d (hdst x.1 o' d q1 q4 hix)];exact q5,q6,by rw[getD_set hlt,if_neg hix];exact q7,fun hm=>?_⟩
      rcases hd' _ hm with h|h
      · exact q8 h
      · exact hix h.symm
    unfold wpOp
    rw[ho]
    simp only[]
    by_cases hdone:i∈done
    ·
      have hnE:E.contains i=false∧Fl.contains i=false:=by
        constructor
        · cases hE:E.contains i with
          | false=>rfl
          | true=>have:=I.effs i hdone (.inl hE);rw[this] at h1;cases h1
        · cases hE:Fl.contains i with
          | false=>rfl
          | true=>have:=I.effs i hdone (.inr hE);rw[this] at h1;cases h1
      obtain ⟨o',v,lj,ho',hv1,hv2,hv3,hrd⟩:=I.valid i hdone h1
      rw[ho] at ho';cases ho'
      have hsl:∀ t,looksAt ops o t→∀ u,look lj t=some u→a.tmps.getD t undef=u:=fun t hlk u hu=>hslot (I.dcl i hdone o ho) t hlk u (hv3 t hlk u hu)
      obtain ⟨c1,c2⟩:=congr_over (a:=a) (l:=lj) hb2 hsl
      have hF:Fr (over a lj) n lj:=over_fr I.ds I.size hv2
      rw[c2]
      have next:Pre P ops n Q E Fl S (listed.setIfInBounds i true) (a.put o.dst v) w done rest l L ear:=by
        refine⟨I.pw,I.ord,I.perm,I.mem,hearly' v done (fun k hk=>.inl hk) hnE.2,I.once,fun j hj hjl=>?_,fun j hj he=>?_,I.dcl,hclosed',(by cases o.dst<;>exact I.ds),?_,I.lt,fun t u hu=>?_,fun j hj hjl=>?_⟩
        · rw[getD_set hlt] at hjl
          by_cases hij:i=j
          · exact .inl (hij ▸ hdone)
          · rw[if_neg hij] at hjl;exact I.sub j hj hjl
        · rw[getD_set hlt];split
          · rfl
          · exact I.effs j hj he
        · cases o.dst<;>simp[Act.put,I.size]
        · by_cases htd:o.dst=some t
          · have hvt:=hv1 t htd
            rw[hvt] at hu;cases hu
            exact .inl (hown _ t htd)
          · exact hslots' v t u hu htd
        · rw[getD_set hlt] at hjl
          split at hjl
          · cases hjl
          · exact I.valid j hj hjl
      have nhead:Head E Fl (listed.setIfInBounds i true) rest:=fun k r hk=>by
        rcases hhead k r hk with h|⟨h2,h3⟩
        · exact .inl h
        · refine .inr ⟨h2,?_⟩
          have hik:i≠k:=fun e=>by rw[e,h2] at hnE;exact absurd hnE.2 (by simp)
          rw[getD_set hlt,if_neg hik];exact h3
      rcases hrd with⟨k1,k2⟩|⟨k1,rfl⟩
      · rw[if_pos (hF.wanted k1)]
        left
        unfold Oper.wp
        rw[c1,k2 _ w hF I.mem.drop_app]
        exact ih _ _ _ (by simp[hl]) (by omega) ⟨_,_,_,_,_,next,nhead⟩
      · rw[if_neg (by rw[hF.wanted k1];simp)]
        exact ih _ _ _ (by simp[hl]) (by omega) ⟨_,_,_,_,_,next,nhead⟩
    · have hirest:i∈rest:=(I.perm i hlo).resolve_left hdone
      have hfin:∀ (a':Act) (w':World) (done' rest':List Nat) (l':List (Nat × Value)) (L':List Asn) (ear':List (Nat × Nat × Asn)),Pre P ops n Q E Fl S (listed.setIfInBounds i true) a' w' done' rest' l' L' ear'→wpAny P .any ops Q fuel (listed.setIfInBounds i true) a' w':=fun a' w' done' rest' l' L' ear' hp=>by
        obtain ⟨d2,r2,l2,L2,e2,hp2,hh2⟩:=norm hB hn rest' done' l' L' ear' hp
        exact ih _ _ _ (by simp[hl]) (by omega) ⟨d2,r2,l2,L2,e2,hp2,hh2⟩
      by_cases hfi:Fl.contains i=true
      ·
        obtain ⟨hg,⟨d,hd⟩,cs,t,hnew⟩:=hFl i hfi o ho
        rw[if_pos (by simp[Region.wanted,hg])]
        left
        unfold Oper.wp
        rw[hnew a.eval w]
        have hnear:i∉ear.map (·.1):=fun hm=>by
          obtain ⟨x,hx,hxi⟩:=List.mem_map.1 hm
          obtain ⟨_,_,_,_,_,_,_,_,_,_,q7,_⟩:=I.early x hx
          rw[hxi,h1] at q7;cases q7
        refine hfin _ _ done rest l L ((i,w.heap.size,pt w.heap.size cs t)::ear) ⟨I.pw,I.ord,I.perm,?_,fun x hx=>?_,?_,fun j hj hjl=>?_,fun j hj he=>?_,I.dcl,hclosed',(by cases o.dst<;>exact I.ds),?_,I.lt,fun t u hu=>?_,fun j hj hjl=>?_⟩
        · exact(I.mem.alloc cs t).push (pull_mid _ _ _)
        · rcases List.mem_cons.1 hx with rfl|hx
          · exact⟨o,cs,t,d,ho,hnew,rfl,hd,hown _ d hd,hfi,by rw[getD_set hlt,if_pos rfl],hdone⟩
          · obtain ⟨o',cs',t',d',q1,q2,q3,q4,q5,q6,q7,q8⟩:=I.early x hx
            have hix:i≠x.1:=fun e=>hnear (e ▸ List.mem_map.2 ⟨x,hx,rfl⟩)
            exact⟨o',cs',t',d',q1,q2,q3,q4,by rw[hother _ d' (hdst x.1 o' d' q1 q4 hix)];exact q5,q6,by rw[getD_set hlt,if_neg hix];exact q7,q8⟩
        · simp only[List.map_cons,List.nodup_cons]
          exact⟨hnear,I.once⟩
        · rw[getD_set hlt] at hjl
          by_cases hij:i=j
          · exact .inr (by simp[hij])
          · rw[if_neg hij] at hjl
            rcases I.sub j hj hjl with h|h
            · exact .inl h
            · exact .inr (by simp only[List.map_cons,List.mem_cons];exact .inr h)
        · rw[getD_set hlt];split
          · rfl
          · exact I.effs j hj he
        · cases o.dst<;>simp[Act.put,I.size]
        · by_cases htd:o.dst=some t
          · exact .inr (.inr ⟨_,List.mem_cons_self ..,o,ho,htd⟩)
          · rcases hslots' (.pointer (some ⟨w.heap.size,0,none⟩)) t u hu htd with h|h|⟨x,hx,h⟩
            · exact .inl h
            · exact .inr (.inl h)
            · exact .inr (.inr ⟨x,List.mem_cons_of_mem _ hx,h⟩)
        · rw[getD_set hlt] at hjl
          split at hjl
          · cases hjl
          · exact I.valid j hj hjl
      ·
        have hfi':Fl.contains i=false:=by simpa using hfi
        have hanc:=anc_listed (S:=fun j=>j<ops.size→listed.getD j true=true) (fun k ok hk=>(fixB_spec hB hk).1) (fun k ok hk hS e hem heb hlt2=>I.closed k ok hk (hS (Array.getElem?_eq_some_iff.1 hk).1) e hem heb) i o ho (fun e hem heb _=>hall e hem heb)
        cases rest with
        | nil=>simp at hirest
        | cons k r =>
          have hord0:=I.ord
          rw[ordOK] at hord0
          simp only[Bool.and_eq_true] at hord0
          obtain ⟨⟨⟨⟨g1,g2⟩,g3⟩,g5⟩,g4⟩:=hord0
          have hlk:k<ops.size:=by
            cases hok:ops[k]? with
            | none=>rw[hok] at g1;cases g1
            | some ok=>exact(Array.getElem?_eq_some_iff.1 hok).1
          have hkd:k∉done:=by simpa using g3
          have hkl:listed.getD k true=false:=by
            rcases hhead k r rfl with⟨q1,q2⟩|⟨_,q2⟩
            · cases hkl:listed.getD k true with
              | false=>rfl
              | true =>
                rcases I.sub k hlk hkl with h|h
                · exact absurd h hkd
                · obtain ⟨x,hx,hxi⟩:=List.mem_map.1 h
                  obtain ⟨_,_,_,_,_,_,_,_,_,q6,_⟩:=I.early x hx
                  rw[hxi,q1] at q6;cases q6
            · exact q2
          have hEF':E.contains k=true∨Fl.contains k=true:=by
            rcases hhead k r rfl with⟨_,q2⟩|⟨q2,_⟩
            · exact .inl q2
            · exact .inr q2
          have hki:k=i:=by
            by_cases hki:k=i
            · exact hki
            · exfalso
              have hir:i∈r:=by
                rcases List.mem_cons.1 hirest with h|h
                · exact absurd h.symm hki
                · exact h
              have hka:∀ (r done:List Nat),ordOK ops (Region.before ops) E Fl S done r=true→i∈r→k∈done→((Region.before ops).getD i 0).testBit k=true:=by
                intro r
                induction r with
                | nil=>intro done _ h;simp at h
                | cons x r ihr =>
                  intro done hor hix hkd
                  rw[ordOK] at hor
                  simp only[Bool.and_eq_true] at hor
                  obtain ⟨⟨⟨⟨_,q2⟩,_⟩,_⟩,q4⟩:=hor
                  rcases List.mem_cons.1 hix with rfl|hix
                  · rw[hfi',Bool.false_or] at q2
                    have:=List.all_eq_true.1 q2 k hkd
                    rcases hEF' with h|h<;>rw[h] at this<;>simpa using this
                  · exact ihr (x::done) q4 hix (List.mem_cons_of_mem _ hkd)
              have hb:=hka r (k::done) g4 hir (by simp)
              have:=hanc k hb hlk
              rw[this] at hkl;cases hkl
          subst hki
          have hkE:E.contains k=true:=hEF'.resolve_right (by rw[hfi'];simp)
          rw[ho] at g1
          have hedges:∀ e∈o.after,Region.binds .any e=true→e.on∈done:=fun e hem heb=>by
            have:=Array.all_eq_true_iff_forall_mem.1 g1 e hem
            simpa[heb] using this
          have hpw:=I.pw
          rw[PW,ho] at hpw
          simp only[hfi',hkE,Bool.false_eq_true,if_false,if_true] at hpw
          obtain ⟨c1,c2⟩:=congr_over (a:=a) (l:=l) hb2 (hslot hedges)
          have hF:Fr (over a l) n l:=over_fr I.ds I.size I.lt
          rw[c2]
          have hgo:∀ (v:Value) (w':World) (L':List Asn),Mem w' (L'++ear.map (·.2.2))→(∀ j∈done,listed.getD j true=false→Valid P ops n (putL o.dst v l) L' j)→PW P ops n Q E Fl S r (k::done) (putL o.dst v l) L'→wpAny P .any ops Q fuel (listed.setIfInBounds k true) (a.put o.dst v) w':=by
            intro v w' L' hM hval hpw'
            refine hfin _ _ (k::done) r (putL o.dst v l) L' ear ⟨hpw',g4,fun j hj=>?_,hM,hearly' v _ (fun j hj=>(List.mem_cons.1 hj).symm) hfi',I.once,fun j hj hjl=>?_,fun j hj he=>?_,fun j hj oj hoj e hem heb=>?_,hclosed',(by cases o.dst<;>exact I.ds),?_,look_putL hn I.lt ho _,fun t u hu=>?_,fun j hj hjl=>?_⟩
            · rcases I.perm j hj with h|h
              · exact .inl (List.mem_cons_of_mem _ h)
              · rcases List.mem_cons.1 h with rfl|h
                · exact .inl (by simp)
                · exact .inr h
            · rw[getD_set hlt] at hjl
              by_cases hkj:k=j
              · subst hkj;exact .inl (by simp)
              · rw[if_neg hkj] at hjl
                rcases I.sub j hj hjl with h|h
                · exact .inl (List.mem_cons_of_mem _ h)
                · exact .inr h
            · rw[getD_set hlt]
              by_cases hkj:k=j
              · rw[if_pos hkj]
              · rw[if_neg hkj]
                exact I.effs j ((List.mem_cons.1 hj).resolve_left (fun e=>hkj e.symm)) he
            · rcases List.mem_cons.1 hj with rfl|hj
              · rw[ho] at hoj;cases hoj
                exact List.mem_cons_of_mem _ (hedges e hem heb)
              · exact List.mem_cons_of_mem _ (I.dcl j hj oj hoj e hem heb)
            · cases o.dst<;>simp[Act.put,I.size]
            · rcases look_put_cases hu with⟨h,rfl⟩|⟨hne,h⟩
              · exact .inl (hown _ t h)
              · exact hslots' v t u h hne
            · rw[getD_set hlt] at hjl
              split at hjl
              · cases hjl
              · rename_i hkj
                exact hval j ((List.mem_cons.1 hj).resolve_left (fun e=>hkj e.symm)) hjl
          rcases hpw with⟨k1,k2⟩|⟨k1,k2⟩
          · rw[if_pos (hF.wanted k1)]
            left
            have hup:=k2 (ear.map (·.2.2)) _ w hF I.mem
            rw[← c1] at hup
            refine hup.wp fun v w' ⟨L',⟨hrev,e2⟩,hM⟩=>hgo v w' L' hM (fun j hjd hjl=>?_) e2
            have hjs:j<ops.size:=by
              by_cases hjs:j<ops.size
              · exact hjs
              · have:listed.getD j true=true:=by simp[hl,hjs]
                rw[this] at hjl;cases hjl
            have hej:E.contains j=false:=by
              cases hej:E.contains j with
              | false=>rfl
              | true=>have:=I.effs j hjd (.inl hej);rw[this] at hjl;cases hjl
            have hfj:Fl.contains j=false:=by
              cases hej:Fl.contains j with
              | false=>rfl
              | true=>have:=I.effs j hjd (.inr hej);rw[this] at hjl;cases hjl
            have hbj:((Region.before ops).getD k 0).testBit j=false:=by
              cases hbj:((Region.before ops).getD k 0).testBit j with
              | false=>rfl
              | true=>have:=hanc j hbj hjs;rw[this] at hjl;cases hjl
            have hjS:j∈lookS S k:=by
              have h5:(done.all fun j=>E.contains j || Fl.contains j || ((Region.before ops).getD k 0).testBit j || (lookS S k).contains j)=true:=by
                rw[hkE] at g5;simpa using g5
              have:=List.all_eq_true.1 h5 j hjd
              simp only[hej,hfj,hbj,Bool.false_or] at this
              simpa using this
            obtain ⟨oj,vj,e1,e2,e3⟩:=hrev.mem j hjS
            exact⟨oj,vj,putL o.dst v l,e1,e3,look_putL hn I.lt ho _,fun t _ u hu=>hu,e2⟩
          · rw[if_neg (by rw[hF.wanted k1];simp)]
            exact hgo undef w L I.mem (fun j hjd hjl=>(I.valid j hjd hjl).put hB I.dcl ho hkd hjd) k2
theorem region_pw {id:Nat} {a:Act} {w:World} {l:List (Nat × Value)} {L:List Asn} {σ:List Nat} (hm:P.follows .mixedOrders=true) (hok:drawOK ops E Fl S σ n=true) (hFl:FlOK P ops Fl) (F:Fr a n l) (M:Mem w L) (h:PW P ops n Q E Fl S σ [] l L):(Code.region id ops true).wp P Q a w:=by
  simp only[drawOK,Bool.and_eq_true] at hok
  obtain ⟨⟨⟨⟨⟨hB,ho⟩,hlen⟩,hall⟩,hfl⟩,hds⟩:=hok
  have hn:∀ (i:Nat) (o:Oper) (d:Nat),ops[i]? = some o→o.dst=some d→d<n:=fun i o d hi hd=>by
    have:=Array.all_eq_true_iff_forall_mem.1 hds o (Array.mem_of_getElem? hi)
    rw[hd] at this
    exact Nat.le_of_ble_eq_true this
  have hEF:∀ i,Fl.contains i=true→E.contains i=false:=fun i hi=>by
    have:=List.all_eq_true.1 hfl i (by simpa using hi)
    simp only[Bool.and_eq_true,Bool.not_eq_true'] at this
    exact this.1
  have hrep:∀ j,(Array.replicate ops.size false).getD j true=true→ops.size≤j:=fun j hj=>by
    by_cases hlt:j<ops.size
    · simp[hlt] at hj
    · omega
  obtain ⟨done',rest',l',L',ear',hp,hh⟩:=norm hB hn (listed:=Array.replicate ops.size false) (a:=a) (w:={w with drawn:=w.drawn+1}) σ [] l L [] ⟨h,ho,fun i hi=>.inr (by simpa using List.all_eq_true.1 hall i (List.mem_range.2 hi)),by rw[List.map_nil,List.append_nil];exact M.drew _,by simp,by simp,fun j hj hjl=>by have:=hrep j hjl;omega,by simp,by simp,
    fun j o hj hjl=>by have:=hrep j hjl;have:=(Array.getElem?_eq_some_iff.1 hj).1;omega,F.ds,F.size,fun t v ht=>(F.val t v ht).1,fun t v ht=>.inl (F.val t v ht).2,by simp⟩
  exact wp_region_any hm (pw_any hB hn hFl hEF ops.size _ a _ (by simp) (by simp[unlisted]) ⟨done',rest',l',L',ear',hp,hh⟩)
end
end
end Go.Proofs.YtjbfcacmdahnhaaGreat
