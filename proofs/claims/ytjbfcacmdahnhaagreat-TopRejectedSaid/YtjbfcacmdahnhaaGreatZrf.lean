import Derived.Test.YtjbfcacmdahnhaaGreatZre
set_option linter.unusedVariables false
set_option linter.unusedSimpArgs false
set_option linter.unusedSectionVars false
set_option maxRecDepth 100000
set_option maxHeartbeats 8000000
namespace Go.Proofs.YtjbfcacmdahnhaaGreat
section
open Go.RowKit
inductive Tr where
  | nil
  | cons (i:Nat) (js:List Nat) (r:Tr)
  | alt (l r:Tr)
def firstsT (E:List Nat):Tr→List Nat
  | .nil=>[]
  | .cons i _ r=>cond (E.contains i) [i] (firstsT E r)
  | .alt l r=>firstsT E l++firstsT E r
def startsT (E:List Nat):Tr→Bool
  | .nil=>false
  | .cons i _ _=>E.contains i
  | .alt l r=>startsT E l && startsT E r
def memT (i:Nat):Tr→Bool
  | .nil=>false
  | .cons j _ r=>Nat.beq j i || memT i r
  | .alt l r=>memT i l && memT i r
def chkT (B:Array Nat) (E Fl done:List Nat) (i:Nat):Bool :=
  ((done.takeWhile fun e=>!E.contains e).all fun e=>!Fl.contains e || (B.getD i 0).testBit e) && (E.contains i || match done.find? (fun e=>E.contains e) with|none=>true|some m=>(B.getD i 0).testBit m)
def complT (B:Array Nat) (E done:List Nat) (t:Tr):Bool :=
  E.all fun i=>done.contains i || (firstsT E t).contains i || E.any fun e=>!done.contains e && (B.getD i 0).testBit e
def ordT (ops:Array Oper) (B:Array Nat) (E Fl:List Nat):List Nat→Tr→Bool
  | _,.nil=>true
  | done,.cons i js r =>
    (match ops[i]? with
     | none=>false
     | some o=>o.after.all fun e=>!Region.binds .any e || done.contains e.on) &&
    (Fl.contains i || chkT B E Fl done i) && !done.contains i && (!E.contains i || done.all fun j=>E.contains j || Fl.contains j || (B.getD i 0).testBit j || js.contains j) && complT B E (i::done) r && ordT ops B E Fl (i::done) r
  | done,.alt l r=>startsT E l && startsT E r && ordT ops B E Fl done l && ordT ops B E Fl done r
def drawT (ops:Array Oper) (E Fl:List Nat) (t:Tr) (n:Nat):Bool :=
  fixB ops && ordT ops (Region.before ops) E Fl [] t && ((List.range ops.size).all fun i=>memT i t) && (Fl.all fun i=>!E.contains i && (match ops[i]? with|some o=>(match o.op,o.guard,o.dst with|.alloc _,none,some _=>true|_,_,_=>false)|none=>false)) && (ops.all fun o=>match o.dst with|none=>true|some d=>Nat.ble (d+1) n) && (E.all fun i=>Nat.ble (i+1) ops.size) && complT (Region.before ops) E [] t
section
variable {P:Program} {ops:Array Oper} {Q:Exit→Act→World→Prop} {n:Nat} {E Fl:List Nat}
def PV (P:Program) (ops:Array Oper) (n:Nat) (Q:Exit→Act→World→Prop) (E Fl:List Nat):Tr→List (Nat × Value)→List Asn→Prop
  | .nil,l,L=>∀ a w,Fr a n l→Mem w L→Q .normal a w
  | .alt t1 t2,l,L=>PV P ops n Q E Fl t1 l L∧PV P ops n Q E Fl t2 l L
  | .cons i js rest,l,L =>
    match ops[i]? with
    | none=>False
    | some o =>
      if Fl.contains i then
        ∃ cs t,News P o cs t∧∀ b,PV P ops n Q E Fl rest (putL o.dst (.pointer (some ⟨b,0,none⟩)) l) (pt b cs t::L)
      else if E.contains i then
        (Wanted o ops l=some true∧Acts P o l L n fun v L'=>Rvs P ops n js (putL o.dst v l) L'∧PV P ops n Q E Fl rest (putL o.dst v l) L') ∨
        (Wanted o ops l=some false∧PV P ops n Q E Fl rest (putL o.dst undef l) L)
      else ∃ v,RdV P ops n o v l L∧PV P ops n Q E Fl rest (putL o.dst v l) L
structure PreT (P:Program) (ops:Array Oper) (n:Nat) (Q:Exit→Act→World→Prop) (E Fl:List Nat) (listed:Array Bool) (a:Act) (w:World) (done:List Nat) (rest:Tr) (l:List (Nat × Value)) (L:List Asn) (ear:List (Nat × Nat × Asn)):Prop where
  pw:PV P ops n Q E Fl rest l L
  ord:ordT ops (Region.before ops) E Fl done rest=true
  perm:∀ i,i<ops.size→i∈done∨memT i rest=true
  mem:Mem w (L++ear.map (·.2.2))
  early:∀ x∈ear,∃ o cs t d,ops[x.1]? = some o∧News P o cs t∧x.2.2=pt x.2.1 cs t∧o.dst=some d∧a.tmps.getD d undef=.pointer (some ⟨x.2.1,0,none⟩)∧Fl.contains x.1=true∧listed.getD x.1 true=true∧x.1∉done
  once:(ear.map (·.1)).Nodup
  sub:∀ j,j<ops.size→listed.getD j true=true→j∈done∨j∈ear.map (·.1)
  effs:∀ j∈done,(E.contains j=true∨Fl.contains j=true)→listed.getD j true=true
  dcl:∀ j∈done,∀ oj,ops[j]? = some oj→∀ e∈oj.after,Region.binds .any e=true→e.on∈done
  closed:∀ (j:Nat) (o:Oper),ops[j]? = some o→listed.getD j true=true→∀ e∈o.after,Region.binds .any e=true→listed.getD e.on true=true
  ds:a.defers=[]
  size:a.tmps.size=n
  lt:∀ t v,look l t=some v→t<n
  slots:∀ t v,look l t=some v→a.tmps.getD t undef=v∨(∃ j o,ops[j]? = some o∧listed.getD j true=false∧o.dst=some t)∨∃ x∈ear,∃ o,ops[x.1]? = some o∧o.dst=some t
  valid:∀ j∈done,listed.getD j true=false→Valid P ops n l L j
def HeadT (E Fl:List Nat) (listed:Array Bool):Tr→Prop
  | .nil=>True
  | .cons i _ _=>Fl.contains i=false∧E.contains i=true∨Fl.contains i=true∧listed.getD i true=false
  | .alt l r=>startsT E l=true∧startsT E r=true
theorem normT (hB:fixB ops=true) (hn:∀ (i:Nat) (o:Oper) (d:Nat),ops[i]? = some o→o.dst=some d→d<n) {listed:Array Bool} {a:Act} {w:World} :
    ∀ (rest:Tr) (done:List Nat) (l:List (Nat × Value)) (L:List Asn) (ear:List (Nat × Nat × Asn)),PreT P ops n Q E Fl listed a w done rest l L ear→complT (Region.before ops) E done rest=true→∃ done' rest' l' L' ear',PreT P ops n Q E Fl listed a w done' rest' l' L' ear'∧HeadT E Fl listed rest'∧complT (Region.before ops) E done' rest'=true:=by
  intro rest
  induction rest with
  | nil=>exact fun done l L ear I hcm=>⟨done,.nil,l,L,ear,I,trivial,hcm⟩
  | alt t1 t2 _ _ =>
    intro done l L ear I hcm
    have ho:=I.ord
    rw[ordT] at ho
    simp only[Bool.and_eq_true] at ho
    exact⟨done,.alt t1 t2,l,L,ear,I,⟨ho.1.1.1,ho.1.1.2⟩,hcm⟩
  | cons i js rest ih =>
    intro done l L ear I hcm
    have ho:=I.ord
    rw[ordT] at ho
    simp only[Bool.and_eq_true] at ho
    obtain ⟨⟨⟨⟨⟨ho1,ho2⟩,ho3⟩,ho5⟩,ho6⟩,ho4⟩:=ho
    have hni:i∉done:=by simpa using ho3
    have h:=I.pw
    rw[PV] at h
    cases hoi:ops[i]? with
    | none=>rw[hoi] at h;exact h.elim
    | some o =>
      rw[hoi] at h ho1
      simp only at h
      have hlo:i<ops.size:=(Array.getElem?_eq_some_iff.1 hoi).1
      have hedges:∀ e∈o.after,Region.binds .any e=true→e.on∈done:=fun e hem heb=>by
        have:=Array.all_eq_true_iff_forall_mem.1 ho1 e hem
        simpa[heb] using this
      have hcl':∀ j∈i::done,∀ oj,ops[j]? = some oj→∀ e∈oj.after,Region.binds .any e=true→e.on∈i::done:=fun j hj oj hoj e hem heb=>by
        rcases List.mem_cons.1 hj with rfl|hj
        · rw[hoi] at hoj;cases hoj
          exact List.mem_cons_of_mem _ (hedges e hem heb)
        · exact List.mem_cons_of_mem _ (I.dcl j hj oj hoj e hem heb)
      have hperm':∀ k,k<ops.size→k∈i::done∨memT k rest=true:=fun k hk=>by
        rcases I.perm k hk with h|h
        · exact .inl (List.mem_cons_of_mem _ h)
        · rw[memT,Bool.or_eq_true] at h
          rcases h with h|h
          · exact .inl (by rw[Nat.eq_of_beq_eq_true h];simp)
          · exact .inr h
      by_cases hf:Fl.contains i=true
      ·
        by_cases hli:listed.getD i true=true
        · have hear:=(I.sub i hlo hli).resolve_left hni
          obtain ⟨x,hx,hxi⟩:=List.mem_map.1 hear
          obtain ⟨e1,e2,rfl⟩:=List.append_of_mem hx
          obtain ⟨j,b,A⟩:=x
          simp only at hxi
          subst hxi
          obtain ⟨o',cs',t',d,q1,q2,q3,q4,q5,q6,q7,q8⟩:=I.early (j,b,A) hx
          simp only at q1 q3 q5 q6 q7 q8
          rw[hoi] at q1;cases q1
          simp only[hf,if_true] at h
          obtain ⟨cs,t,hnew,hpw⟩:=h
          obtain ⟨rfl,rfl⟩:=hnew.uniq q2
          subst q3
          have honce:=I.once
          simp only[List.map_append,List.map_cons,List.nodup_append,List.nodup_cons,List.mem_cons] at honce
          obtain ⟨n1,⟨n2,n3⟩,n4⟩:=honce
          have hjne:∀ y∈e1++e2,y.1≠j:=fun y hy e=>by
            rcases List.mem_append.1 hy with hy|hy
            · exact n4 y.1 (List.mem_map.2 ⟨y,hy,rfl⟩) j (.inl rfl) e
            · exact n2 (List.mem_map.2 ⟨y,hy,e⟩)
          refine ih (j::done) (putL o.dst (.pointer (some ⟨b,0,none⟩)) l) (pt b cs t::L) (e1++e2) ⟨hpw b,ho4,hperm',?_,fun y hy=>?_,?_,fun k hk hkl=>?_,fun k hk hke=>?_,hcl',I.closed,I.ds,I.size,look_putL hn I.lt hoi _,fun s u hu=>?_,fun k hk hkl=>?_⟩ ho6
          · have M:=I.mem
            simp only[List.map_append,List.map_cons] at M
            rw[← List.append_assoc] at M
            have:=M.pull (pull_mid _ _ _)
            simpa using this
          · have hy':y∈e1++(j,b,pt b cs t)::e2:=by
              rcases List.mem_append.1 hy with h|h
              · exact List.mem_append.2 (.inl h)
              · exact List.mem_append.2 (.inr (List.mem_cons_of_mem _ h))
            obtain ⟨oy,csy,ty,dy,r1,r2,r3,r4,r5,r6,r7,r8⟩:=I.early y hy'
            exact⟨oy,csy,ty,dy,r1,r2,r3,r4,r5,r6,r7,fun hm=>(List.mem_cons.1 hm).elim (fun e=>hjne y hy e) r8⟩
          · simp only[List.map_append,List.nodup_append]
            exact⟨n1,n3,fun p hp q hq=>n4 p hp q (.inr hq)⟩
          · rcases I.sub k hk hkl with h|h
            · exact .inl (List.mem_cons_of_mem _ h)
            · simp only[List.map_append,List.map_cons,List.mem_append,List.mem_cons] at h
              rcases h with h|rfl|h
              · exact .inr (by simp[h])
              · exact .inl (by simp)
              · exact .inr (by simp only[List.map_append,List.mem_append];exact .inr h)
          · rcases List.mem_cons.1 hk with rfl|hk
            · exact hli
            · exact I.effs k hk hke
          · rcases look_put_cases hu with⟨h1,rfl⟩|⟨hne,h1⟩
            · rw[q4] at h1;cases h1;exact .inl q5
            · rcases I.slots s u h1 with h|h|⟨x,hx2,ox,hox,hoxd⟩
              · exact .inl h
              · exact .inr (.inl h)
              · refine .inr (.inr ⟨x,?_,ox,hox,hoxd⟩)
                rcases List.mem_append.1 hx2 with h|h
                · exact List.mem_append.2 (.inl h)
                · rcases List.mem_cons.1 h with rfl|h
                  · simp only at hox;rw[hoi] at hox;cases hox;exact absurd hoxd hne
                  · exact List.mem_append.2 (.inr h)
          · rcases List.mem_cons.1 hk with rfl|hk
            · rw[hli] at hkl;cases hkl
            · exact((I.valid k hk hkl).put hB I.dcl hoi hni hk).more fun w M=>M.drop
        · exact⟨done,.cons i js rest,l,L,ear,I,.inr ⟨hf,by simpa using hli⟩,hcm⟩
      · have hf':Fl.contains i=false:=by simpa using hf
        simp only[hf',Bool.false_eq_true,if_false] at h
        by_cases he:E.contains i=true
        · exact⟨done,.cons i js rest,l,L,ear,I,.inl ⟨hf',he⟩,hcm⟩
        · have he':E.contains i=false:=by simpa using he
          simp only[he',Bool.false_eq_true,if_false] at h
          obtain ⟨v,hrd,hpw⟩:=h
          have hli:listed.getD i true=false:=by
            cases hli:listed.getD i true with
            | false=>rfl
            | true =>
              rcases I.sub i hlo hli with h|h
              · exact absurd h hni
              · obtain ⟨x,hx,hxi⟩:=List.mem_map.1 h
                obtain ⟨_,_,_,_,_,_,_,_,_,q6,_⟩:=I.early x hx
                rw[hxi,hf'] at q6;cases q6
          have hvi:Valid P ops n (putL o.dst v l) L i:=by
            refine⟨o,v,l,hoi,fun t ht=>by rw[ht];exact look_put_self,I.lt,fun t hlk u hu=>?_,hrd⟩
            cases hd:o.dst with
            | none=>exact hu
            | some t0 =>
              have:=(not_looks hB I.dcl hoi hni hd).2
              show look ((t0,v)::l) t=some u
              rw[look_put (fun e=>by subst e;exact this hlk)];exact hu
          refine ih (i::done) (putL o.dst v l) L ear ⟨hpw,ho4,hperm',I.mem,fun y hy=>?_,I.once,fun k hk hkl=>?_,fun k hk hke=>?_,hcl',I.closed,I.ds,I.size,look_putL hn I.lt hoi _,fun s u hu=>?_,fun k hk hkl=>?_⟩ ho6
          · obtain ⟨oy,csy,ty,dy,r1,r2,r3,r4,r5,r6,r7,r8⟩:=I.early y hy
            exact⟨oy,csy,ty,dy,r1,r2,r3,r4,r5,r6,r7,fun hm=>(List.mem_cons.1 hm).elim (fun e=>by rw[e,hf'] at r6;cases r6) r8⟩
          · rcases I.sub k hk hkl with h|h
            · exact .inl (List.mem_cons_of_mem _ h)
            · exact .inr h
          · rcases List.mem_cons.1 hk with rfl|hk
            · rw[he',hf'] at hke;rcases hke with h|h<;>cases h
            · exact I.effs k hk hke
          · rcases look_put_cases hu with⟨h1,rfl⟩|⟨_,h1⟩
            · exact .inr (.inl ⟨i,o,hoi,hli,h1⟩)
            · exact I.slots s u h1
          · rcases List.mem_cons.1 hk with rfl|hk
            · exact hvi
            · exact(I.valid k hk hkl).put hB I.dcl hoi hni hk
theorem headT_starts (hEF:∀ i,Fl.contains i=true→E.contains i=false) {listed:Array Bool}:∀ {t:Tr},startsT E t=true→HeadT E Fl listed t
  | .nil,h=>trivial
  | .cons i js r,h=>by
    refine .inl ⟨?_,h⟩
    cases hf:Fl.contains i with
    | false=>rfl
    | true=>have:=hEF i hf;rw[startsT] at h;rw[h] at this;cases this
  | .alt l r,h=>by rw[startsT,Bool.and_eq_true] at h;exact h
theorem hreadT (hEF:∀ i,Fl.contains i=true→E.contains i=false) {listed:Array Bool} {i:Nat} (hiE:E.contains i=false) (hiF:Fl.contains i=false) (hanc:∀ j,((Region.before ops).getD i 0).testBit j=true→listed.getD j true=true) {done0:List Nat} (hU:∀ j,E.contains j=true→listed.getD j true=true→j∈done0):∀ (t:Tr) (done:List Nat),(∀ j∈done0,j∈done)→ordT ops (Region.before ops) E Fl done t=true→memT i t=true →
    ((∃ m,done.find? (fun e=>E.contains e)=some m∧listed.getD m true=false)∨(∃ e∈done.takeWhile fun e=>!E.contains e,Fl.contains e=true∧listed.getD e true=false)∨HeadT E Fl listed t)→False
  | .nil,done,h0,ho,hm,h=>by cases hm
  | .alt l r,done,h0,ho,hm,h=>by
    rw[ordT] at ho
    simp only[Bool.and_eq_true] at ho
    rw[memT,Bool.and_eq_true] at hm
    refine hreadT hEF hiE hiF hanc hU l done h0 ho.1.2 hm.1 ?_
    rcases h with h|h|h
    · exact .inl h
    · exact .inr (.inl h)
    · exact .inr (.inr (headT_starts hEF h.1))
  | .cons k js r,done,h0,ho,hm,h=>by
    rw[ordT] at ho
    simp only[Bool.and_eq_true] at ho
    obtain ⟨⟨⟨⟨⟨ho1,ho2⟩,ho3⟩,ho5⟩,ho6⟩,ho4⟩:=ho
    have hkd:k∉done:=by simpa using ho3
    by_cases hki:k=i
    · subst hki
      rcases h with h|h|h
      · obtain ⟨m,hf,hl⟩:=h
        rw[hiF,Bool.false_or,chkT,Bool.and_eq_true,hiE,Bool.false_or,hf] at ho2
        have:=hanc m ho2.2
        rw[this] at hl;cases hl
      · obtain ⟨e,he,hf,hl⟩:=h
        rw[hiF,Bool.false_or,chkT,Bool.and_eq_true] at ho2
        have:=List.all_eq_true.1 ho2.1 e he
        rw[hf] at this
        have:=hanc e (by simpa using this)
        rw[this] at hl;cases hl
      · rcases h with⟨_,h⟩|⟨h,_⟩
        · rw[hiE] at h;cases h
        · rw[hiF] at h;cases h
    · have hm':memT i r=true:=by
        rw[memT,Bool.or_eq_true] at hm
        rcases hm with h|h
        · exact absurd (Nat.eq_of_beq_eq_true h) hki
        · exact h
      refine hreadT hEF hiE hiF hanc hU r (k::done) (fun j hj=>List.mem_cons_of_mem _ (h0 j hj)) ho4 hm' ?_
      by_cases hkE:E.contains k=true
      · refine .inl ⟨k,by simp only[List.find?_cons,hkE],?_⟩
        cases hl:listed.getD k true with
        | false=>rfl
        | true=>exact absurd (h0 k (hU k hkE hl)) hkd
      · have hkE':E.contains k=false:=by simpa using hkE
        rcases h with⟨m,h,hl⟩|⟨e,he,h⟩|h
        · exact .inl ⟨m,by simp only[List.find?_cons,hkE'];exact h,hl⟩
        · exact .inr (.inl ⟨e,by simp only[List.takeWhile_cons,hkE',Bool.not_false,if_true];exact List.mem_cons_of_mem _ he,h⟩)
        · rcases h with⟨_,h⟩|h
          · exact absurd h hkE
          · exact .inr (.inl ⟨k,by simp only[List.takeWhile_cons,hkE',Bool.not_false,if_true];exact List.mem_cons_self ..,h⟩)
theorem hactT {listed:Array Bool} {i:Nat} (hiE:E.contains i=true) (hiF:Fl.contains i=false) (hanc:∀ j,((Region.before ops).getD i 0).testBit j=true→listed.getD j true=true):∀ (t:Tr) (done:List Nat),ordT ops (Region.before ops) E Fl done t=true→i∈firstsT E t →
    (∃ e∈done.takeWhile fun e=>!E.contains e,Fl.contains e=true∧listed.getD e true=false)→False
  | .nil,done,ho,hm,h=>by cases hm
  | .alt l r,done,ho,hm,h=>by
    rw[ordT] at ho
    simp only[Bool.and_eq_true] at ho
    rw[firstsT,List.mem_append] at hm
    rcases hm with hm|hm
    · exact hactT hiE hiF hanc l done ho.1.2 hm h
    · exact hactT hiE hiF hanc r done ho.2 hm h
  | .cons k js r,done,ho,hm,h=>by
    rw[ordT] at ho
    simp only[Bool.and_eq_true] at ho
    obtain ⟨⟨⟨⟨⟨ho1,ho2⟩,ho3⟩,ho5⟩,ho6⟩,ho4⟩:=ho
    rw[firstsT] at hm
    by_cases hkE:E.contains k=true
    · rw[hkE] at hm
      have hik:i=k:=by simpa using hm
      subst hik
      obtain ⟨e,he,hf,hl⟩:=h
      rw[hiF,Bool.false_or,chkT,Bool.and_eq_true] at ho2
      have:=List.all_eq_true.1 ho2.1 e he
      rw[hf] at this
      have:=hanc e (by simpa using this)
      rw[this] at hl;cases hl
    · have hkE':E.contains k=false:=by simpa using hkE
      rw[hkE'] at hm
      obtain ⟨e,he,h⟩:=h
      exact hactT hiE hiF hanc r (k::done) ho4 hm ⟨e,by simp only[List.takeWhile_cons,hkE',Bool.not_false,if_true];exact List.mem_cons_of_mem _ he,h⟩
theorem descT (hEF:∀ i,Fl.contains i=true→E.contains i=false) {listed:Array Bool} {a:Act} {w:World} {i:Nat} (hiE:E.contains i=true) (hiF:Fl.contains i=false) (hanc:∀ j,((Region.before ops).getD i 0).testBit j=true→listed.getD j true=true) {done:List Nat} {l:List (Nat × Value)} {L:List Asn} {ear:List (Nat × Nat × Asn)}:∀ (t:Tr),PreT P ops n Q E Fl listed a w done t l L ear→HeadT E Fl listed t→i∈firstsT E t→∃ js r,PreT P ops n Q E Fl listed a w done (.cons i js r) l L ear
  | .nil,I,hh,hm=>by cases hm
  | .cons k js r,I,hh,hm=>by
    rcases hh with⟨_,hk⟩|⟨hk,hl⟩
    · rw[firstsT,hk] at hm
      have hik:i=k:=by simpa using hm
      subst hik
      exact⟨js,r,I⟩
    · have hkE':=hEF k hk
      have ho:=I.ord
      rw[ordT] at ho
      simp only[Bool.and_eq_true] at ho
      rw[firstsT,hkE'] at hm
      exact(hactT hiE hiF hanc r (k::done) ho.2 hm ⟨k,by simp only[List.takeWhile_cons,hkE',Bool.not_false,if_true];exact List.mem_cons_self ..,hk,hl⟩).elim
  | .alt t1 t2,I,hh,hm=>by
    have ho:=I.ord
    rw[ordT] at ho
    simp only[Bool.and_eq_true] at ho
    have hp:=I.pw
    rw[PV] at hp
    rw[firstsT,List.mem_append] at hm
    rcases hm with hm|hm
    · exact descT hEF hiE hiF hanc t1 {I with pw:=hp.1,ord:=ho.1.2,perm:=fun k hk=>(I.perm k hk).imp id fun h=>by rw[memT,Bool.and_eq_true] at h;exact h.1} (headT_starts hEF ho.1.1.1) hm
    · exact descT hEF hiE hiF hanc t2 {I with pw:=hp.2,ord:=ho.2,perm:=fun k hk=>(I.perm k hk).imp id fun h=>by rw[memT,Bool.and_eq_true] at h;exact h.2} (headT_starts hEF ho.1.1.2) hm
theorem startsT_has:∀ {t:Tr} {done:List Nat},ordT ops (Region.before ops) E Fl done t=true→startsT E t=true→∃ i,E.contains i=true∧i∉done∧i<ops.size
  | .nil,done,ho,h=>by cases h
  | .cons k js r,done,ho,h=>by
    rw[ordT] at ho
    simp only[Bool.and_eq_true] at ho
    obtain ⟨⟨⟨⟨⟨ho1,ho2⟩,ho3⟩,ho5⟩,ho6⟩,ho4⟩:=ho
    refine⟨k,h,by simpa using ho3,?_⟩
    cases hok:ops[k]? with
    | none=>rw[hok] at ho1;cases ho1
    | some o=>exact(Array.getElem?_eq_some_iff.1 hok).1
  | .alt l r,done,ho,h=>by
    rw[ordT] at ho
    simp only[Bool.and_eq_true] at ho
    exact startsT_has ho.1.2 ho.1.1.1
theorem pt_any (hB:fixB ops=true) (hn:∀ (i:Nat) (o:Oper) (d:Nat),ops[i]? = some o→o.dst=some d→d<n) (hFl:FlOK P ops Fl) (hEF:∀ i,Fl.contains i=true→E.contains i=false) (hEs:∀ i,E.contains i=true→i<ops.size) :
    ∀ (fuel:Nat) (listed:Array Bool) (a:Act) (w:World),listed.size=ops.size→unlisted listed≤fuel→(∃ done rest l L ear,PreT P ops n Q E Fl listed a w done rest l L ear∧HeadT E Fl listed rest∧complT (Region.before ops) E done rest=true)→wpAny P .any ops Q fuel listed a w:=by
  have stop:∀ (listed:Array Bool) (a:Act) (w:World),listed.size=ops.size→(∃ done rest l L ear,PreT P ops n Q E Fl listed a w done rest l L ear∧HeadT E Fl listed rest∧complT (Region.before ops) E done rest=true)→Region.ready .any ops listed=[]→Q .normal a w:=by
    intro listed a w hl ⟨done,rest,l,L,ear,I,hhead,hcompl⟩ hr
    have hall:=ready_nil_all hB hl hr
    cases rest with
    | alt t1 t2 =>
      exfalso
      have ho:=I.ord
      rw[ordT] at ho
      simp only[Bool.and_eq_true] at ho
      obtain ⟨i,hiE,hid,hlt⟩:=startsT_has ho.1.2 ho.1.1.1
      rcases I.sub i hlt (hall i hlt) with h|h
      · exact hid h
      · obtain ⟨x,hx,hxi⟩:=List.mem_map.1 h
        obtain ⟨_,_,_,_,_,_,_,_,_,q6,_⟩:=I.early x hx
        have:=hEF _ q6
        rw[hxi,hiE] at this;cases this
    | cons i js r =>
      exfalso
      have ho:=I.ord
      rw[ordT] at ho
      simp only[Bool.and_eq_true] at ho
      have hlt:i<ops.size:=by
        cases hoi:ops[i]? with
        | none=>have h1:=ho.1.1.1.1.1;rw[hoi] at h1;cases h1
        | some o=>exact(Array.getElem?_eq_some_iff.1 hoi).1
      have hli:=hall i hlt
      rcases hhead with⟨h1,h2⟩|⟨_,h2⟩
      · rcases I.sub i hlt hli with h|h
        · simp[h] at ho
        · obtain ⟨x,hx,hxi⟩:=List.mem_map.1 h
          obtain ⟨_,_,_,_,_,_,_,_,_,q6,_⟩:=I.early x hx
          rw[hxi,h1] at q6;cases q6
      · rw[hli] at h2;cases h2
    | nil =>
      have hpw:=I.pw
      rw[PV] at hpw
      refine hpw a w ⟨I.ds,I.size,fun t v ht=>⟨I.lt t v ht,?_⟩⟩ I.mem.drop_app
      rcases I.slots t v ht with h|⟨j,o,hj,hf,_⟩|⟨x,hx,ox,hox,_⟩
      · exact h
      · have:=hall j (Array.getElem?_eq_some_iff.1 hj).1
        rw[this] at hf;cases hf
      · obtain ⟨_,_,_,_,_,_,_,_,_,_,_,q8⟩:=I.early x hx
        exact absurd ((I.perm x.1 (Array.getElem?_eq_some_iff.1 hox).1).resolve_right (by simp[memT])) q8
  intro fuel
  induction fuel with
  | zero =>
    intro listed a w hl hu hI
    have hr:Region.ready .any ops listed=[]:=by
      apply List.eq_nil_iff_forall_not_mem.2
      intro i hi
      obtain ⟨h1,o,ho,_⟩:=mem_ready.1 hi
      have hlt:i<listed.size:=by rw[hl];exact(Array.getElem?_eq_some_iff.1 ho).1
      have:=unlisted_set hlt h1
      omega
    exact⟨hr,stop listed a w hl hI hr⟩
  | succ fuel ih =>
    intro listed a w hl hu hI
    refine⟨fun hr=>stop listed a w hl hI hr,fun i hi=>?_⟩
    obtain ⟨done,rest,l,L,ear,I,hhead,hcompl⟩:=hI
    obtain ⟨h1,o,ho,hall0⟩:=mem_ready.1 hi
    have hlt:i<listed.size:=by rw[hl];exact(Array.getElem?_eq_some_iff.1 ho).1
    have hlo:i<ops.size:=by rw[← hl];exact hlt
    have hun:=unlisted_set hlt h1
    obtain ⟨hb1,hb2,hb3⟩:=fixB_spec hB ho
    have hall:∀ e∈o.after,Region.binds .any e=true→listed.getD e.on true=true:=fun e hem heb=>by
      have h2:=hall0 e hem heb
      have h3:=hb1 e hem heb
      have h4:e.on<listed.size:=by omega
      simpa[h4] using h2
    have hedge:∀ (j:Nat) (oj:Oper) (t:Nat),ops[j]? = some oj→oj.dst=some t→looksAt ops o t→∃ e∈o.after,Region.binds .any e=true∧e.on=j:=fun j oj t hj hd hlk=>by
      rcases hlk with hlk|⟨g,b,p,hg,hp,hpd⟩
      · exact(hb3 j oj t hj hd).1 hlk
      · have hgj:g=j:=by
          by_cases hgj:g=j
          · exact hgj
          · exact absurd hpd ((fixB_spec hB hp).2.2 j oj t hj hd |>.2.2 hgj)
        exact(hb3 j oj t hj hd).2.1 g b hg hgj
    have hslot:(∀ e∈o.after,Region.binds .any e=true→e.on∈done)→∀ t,looksAt ops o t→∀ u,look l t=some u→a.tmps.getD t undef=u:=fun hdn t hlk u hu=>by
      rcases I.slots t u hu with h|⟨j,oj,hj,hf,hd⟩|⟨x,hx,ox,hox,hoxd⟩
      · exact h
      · exfalso
        obtain ⟨e,hem,heb,heo⟩:=hedge j oj t hj hd hlk
        have:=hall e hem heb
        rw[heo,hf] at this;cases this
      · exfalso
        obtain ⟨e,hem,heb,heo⟩:=hedge x.1 ox t hox hoxd hlk
        obtain ⟨_,_,_,_,_,_,_,_,_,_,_,q8⟩:=I.early x hx
        exact q8 (heo ▸ hdn e hem heb)
    have hnd:∀ t,o.dst=some t→t<n:=fun t ht=>hn i o t ho ht
    have hclosed':∀ (j:Nat) (oj:Oper),ops[j]? = some oj→(listed.setIfInBounds i true).getD j true=true→∀ e∈oj.after,Region.binds .any e=true→(listed.setIfInBounds i true).getD e.on true=true:=fun j oj hj hjl e hem heb=>by
      rw[getD_set hlt] at hjl ⊢
      split
      · rfl
      · by_cases hij:i=j
        · subst hij;rw[ho] at hj;cases hj;exact hall e hem heb
        · rw[if_neg hij] at hjl;exact I.closed j oj hj hjl e hem heb
    have hother:∀ (v:Value) (t:Nat),o.dst≠some t→(a.put o.dst v).tmps.getD t undef=a.tmps.getD t undef:=fun v t htd=>by
      cases hod:o.dst with
      | none=>rfl
      | some t0 =>
        have:t0≠t:=fun e=>htd (by rw[hod,e])
        simp[Act.put,Array.getElem?_setIfInBounds,this]
    have hown:∀ (v:Value) (t:Nat),o.dst=some t→(a.put o.dst v).tmps.getD t undef=v:=fun v t htd=>by
      rw[htd];simp[Act.put,I.size,hnd t htd]
    have hdst:∀ (j:Nat) (oj:Oper) (t:Nat),ops[j]? = some oj→oj.dst=some t→i≠j→o.dst≠some t:=fun j oj t hj ht hij h=>(hb3 j oj t hj ht).2.2 hij h
    have hslots':∀ (v:Value) (t:Nat) (u:Value),look l t=some u→o.dst≠some t→(a.put o.dst v).tmps.getD t undef=u∨(∃ j oj,ops[j]? = some oj∧(listed.setIfInBounds i true).getD j true=false∧oj.dst=some t)∨∃ x∈ear,∃ o,ops[x.1]? = some o∧o.dst=some t:=fun v t u hu htd=>by
      rcases I.slots t u hu with h|⟨j,oj,hj,hf,hd'⟩|h
      · exact .inl (by rw[hother v t htd];exact h)
      · refine .inr (.inl ⟨j,oj,hj,?_,hd'⟩)
        have hij:i≠j:=fun e=>by subst e;rw[ho] at hj;cases hj;exact htd hd'
        rw[getD_set hlt,if_neg hij];exact hf
      · exact .inr (.inr h)
    have hearly':∀ (v:Value) (done':List Nat),(∀ k∈done',k∈done∨k=i)→Fl.contains i=false→∀ x∈ear,∃ o' cs t d,ops[x.1]? = some o'∧News P o' cs t∧x.2.2=pt x.2.1 cs t∧o'.dst=some d∧(a.put o.dst v).tmps.getD d undef=.pointer (some ⟨x.2.1,0,none⟩)∧Fl.contains x.1=true∧(listed.setIfInBounds i true).getD x.1 true=true∧x.1∉done':=fun v done' hd' hfi x hx=>by
      obtain ⟨o',cs,t,d,q1,q2,q3,q4,q5,q6,q7,q8⟩:=I.early x hx
      have hix:i≠x.1:=fun e=>by rw[← e,hfi] at q6;cases q6
      refine⟨o',cs,t,d,q1,q2,q3,q4,by rw[hother v d (hdst x.1 o' d q1 q4 hix)];exact q5,q6,by rw[getD_set hlt,if_neg hix];exact q7,fun hm=>?_⟩
      rcases hd' _ hm with h|h
      · exact q8 h
      · exact hix h.symm
    unfold wpOp
    rw[ho]
    simp only[]
    by_cases hdone:i∈done
    ·
      have hnE:E.contains i=false∧Fl.contains i=false:=by
        constructor
        · cases hE:E.contains i with
          | false=>rfl
          | true=>have:=I.effs i hdone (.inl hE);rw[this] at h1;cases h1
        · cases hE:Fl.contains i with
          | false=>rfl
          | true=>have:=I.effs i hdone (.inr hE);rw[this] at h1;cases h1
      obtain ⟨o',v,lj,ho',hv1,hv2,hv3,hrd⟩:=I.valid i hdone h1
      rw[ho] at ho';cases ho'
      have hsl:∀ t,looksAt ops o t→∀ u,look lj t=some u→a.tmps.getD t undef=u:=fun t hlk u hu=>hslot (I.dcl i hdone o ho) t hlk u (hv3 t hlk u hu)
      obtain ⟨c1,c2⟩:=congr_over (a:=a) (l:=lj) hb2 hsl
      have hF:Fr (over a lj) n lj:=over_fr I.ds I.size hv2
      rw[c2]
      have next:PreT P ops n Q E Fl (listed.setIfInBounds i true) (a.put o.dst v) w done rest l L ear:=by
        refine⟨I.pw,I.ord,I.perm,I.mem,hearly' v done (fun k hk=>.inl hk) hnE.2,I.once,fun j hj hjl=>?_,fun j hj he=>?_,I.dcl,hclosed',(by cases o.dst<;>exact I.ds),?_,I.lt,fun t u hu=>?_,fun j hj hjl=>?_⟩
        · rw[getD_set hlt] at hjl
          by_cases hij:i=j
          · exact .inl (hij ▸ hdone)
          · rw[if_neg hij] at hjl;exact I.sub j hj hjl
        · rw[getD_set hlt];split
          · rfl
          · exact I.effs j hj he
        · cases o.dst<;>simp[Act.put,I.size]
        · by_cases htd:o.dst=some t
          · have hvt:=hv1 t htd
            rw[hvt] at hu;cases hu
            exact .inl (hown _ t htd)
          · exact hslots' v t u hu htd
        · rw[getD_set hlt] at hjl
          split at hjl
          · cases hjl
          · exact I.valid j hj hjl
      have nhead:HeadT E Fl (listed.setIfInBounds i true) rest:=by
        cases rest with
        | nil=>trivial
        | alt t1 t2=>exact hhead
        | cons k js r =>
          rcases hhead with h|⟨h2,h3⟩
          · exact .inl h
          · refine .inr ⟨h2,?_⟩
            have hik:i≠k:=fun e=>by rw[e,h2] at hnE;exact absurd hnE.2 (by simp)
            rw[getD_set hlt,if_neg hik];exact h3
      rcases hrd with⟨k1,k2⟩|⟨k1,rfl⟩
      · rw[if_pos (hF.wanted k1)]
        left
        unfold Oper.wp
        rw[c1,k2 _ w hF I.mem.drop_app]
        exact ih _ _ _ (by simp[hl]) (by omega) ⟨_,_,_,_,_,next,nhead,hcompl⟩
      · rw[if_neg (by rw[hF.wanted k1];simp)]
        exact ih _ _ _ (by simp[hl]) (by omega) ⟨_,_,_,_,_,next,nhead,hcompl⟩
    · have hirest:memT i rest=true:=(I.perm i hlo).resolve_left hdone
      have hfin:∀ (a':Act) (w':World) (done':List Nat) (rest':Tr) (l':List (Nat × Value)) (L':List Asn) (ear':List (Nat × Nat × Asn)),PreT P ops n Q E Fl (listed.setIfInBounds i true) a' w' done' rest' l' L' ear'→complT (Region.before ops) E done' rest'=true→wpAny P .any ops Q fuel (listed.setIfInBounds i true) a' w':=fun a' w' done' rest' l' L' ear' hp hcm=>by
        obtain ⟨d2,r2,l2,L2,e2,hp2,hh2,hc2⟩:=normT hB hn rest' done' l' L' ear' hp hcm
        exact ih _ _ _ (by simp[hl]) (by omega) ⟨d2,r2,l2,L2,e2,hp2,hh2,hc2⟩
      by_cases hfi:Fl.contains i=true
      ·
        obtain ⟨hg,⟨d,hd⟩,cs,t,hnew⟩:=hFl i hfi o ho
        rw[if_pos (by simp[Region.wanted,hg])]
        left
        unfold Oper.wp
        rw[hnew a.eval w]
        have hnear:i∉ear.map (·.1):=fun hm=>by
          obtain ⟨x,hx,hxi⟩:=List.mem_map.1 hm
          obtain ⟨_,_,_,_,_,_,_,_,_,_,q7,_⟩:=I.early x hx
          rw[hxi,h1] at q7;cases q7
        refine hfin _ _ done rest l L ((i,w.heap.size,pt w.heap.size cs t)::ear) ⟨I.pw,I.ord,I.perm,?_,fun x hx=>?_,?_,fun j hj hjl=>?_,fun j hj he=>?_,I.dcl,hclosed',(by cases o.dst<;>exact I.ds),?_,I.lt,fun t u hu=>?_,fun j hj hjl=>?_⟩ hcompl
        · exact(I.mem.alloc cs t).push (pull_mid _ _ _)
        · rcases List.mem_cons.1 hx with rfl|hx
          · exact⟨o,cs,t,d,ho,hnew,rfl,hd,hown _ d hd,hfi,by rw[getD_set hlt,if_pos rfl],hdone⟩
          · obtain ⟨o',cs',t',d',q1,q2,q3,q4,q5,q6,q7,q8⟩:=I.early x hx
            have hix:i≠x.1:=fun e=>hnear (e ▸ List.mem_map.2 ⟨x,hx,rfl⟩)
            exact⟨o',cs',t',d',q1,q2,q3,q4,by rw[hother _ d' (hdst x.1 o' d' q1 q4 hix)];exact q5,q6,by rw[getD_set hlt,if_neg hix];exact q7,q8⟩
        · simp only[List.map_cons,List.nodup_cons]
          exact⟨hnear,I.once⟩
        · rw[getD_set hlt] at hjl
          by_cases hij:i=j
          · exact .inr (by simp[hij])
          · rw[if_neg hij] at hjl
            rcases I.sub j hj hjl with h|h
            · exact .inl h
            · exact .inr (by simp only[List.map_cons,List.mem_cons];exact .inr h)
        · rw[getD_set hlt];split
          · rfl
          · exact I.effs j hj he
        · cases o.dst<;>simp[Act.put,I.size]
        · by_cases htd:o.dst=some t
          · exact .inr (.inr ⟨_,List.mem_cons_self ..,o,ho,htd⟩)
          · rcases hslots' (.pointer (some ⟨w.heap.size,0,none⟩)) t u hu htd with h|h|⟨x,hx,h⟩
            · exact .inl h
            · exact .inr (.inl h)
            · exact .inr (.inr ⟨x,List.mem_cons_of_mem _ hx,h⟩)
        · rw[getD_set hlt] at hjl
          split at hjl
          · cases hjl
          · exact I.valid j hj hjl
      ·
        have hfi':Fl.contains i=false:=by simpa using hfi
        have hanc:=anc_listed (S:=fun j=>j<ops.size→listed.getD j true=true) (fun k ok hk=>(fixB_spec hB hk).1) (fun k ok hk hS e hem heb hlt2=>I.closed k ok hk (hS (Array.getElem?_eq_some_iff.1 hk).1) e hem heb) i o ho (fun e hem heb _=>hall e hem heb)
        have hancA:∀ j,((Region.before ops).getD i 0).testBit j=true→listed.getD j true=true:=fun j hj=>by
          by_cases hjl:j<ops.size
          · exact hanc j hj hjl
          · have:¬j<listed.size:=by rw[hl];exact hjl
            simp[this]
        have hUd:∀ j,E.contains j=true→listed.getD j true=true→j∈done:=fun j hjE hjl=>by
          rcases I.sub j (hEs j hjE) hjl with h|h
          · exact h
          · obtain ⟨x,hx,hxi⟩:=List.mem_map.1 h
            obtain ⟨_,_,_,_,_,_,_,_,_,q6,_⟩:=I.early x hx
            have:=hEF _ q6
            rw[hxi,hjE] at this;cases this
        by_cases hiE:E.contains i=true
        case neg=>exact(hreadT hEF (by simpa using hiE) hfi' hancA hUd rest done (fun j hj=>hj) I.ord hirest (.inr (.inr hhead))).elim
        have hfirst:i∈firstsT E rest:=by
          have:=List.all_eq_true.1 hcompl i (by simpa using hiE)
          simp only[Bool.or_eq_true,List.any_eq_true,Bool.and_eq_true] at this
          rcases this with(h|h)|⟨e,he,h2,h3⟩
          · exact absurd (by simpa using h) hdone
          · simpa using h
          · exact absurd (hUd e (by simpa using he) (hancA e h3)) (by simpa using h2)
        obtain ⟨js,r,I⟩:=descT hEF hiE hfi' hancA rest I hhead hfirst
        ·
          have hord0:=I.ord
          rw[ordT] at hord0
          simp only[Bool.and_eq_true] at hord0
          obtain ⟨⟨⟨⟨⟨g1,g2⟩,g3⟩,g5⟩,g6⟩,g4⟩:=hord0
          have hkE:E.contains i=true:=hiE
          rw[ho] at g1
          have hedges:∀ e∈o.after,Region.binds .any e=true→e.on∈done:=fun e hem heb=>by
            have:=Array.all_eq_true_iff_forall_mem.1 g1 e hem
            simpa[heb] using this
          have hpw:=I.pw
          rw[PV,ho] at hpw
          simp only[hfi',hkE,Bool.false_eq_true,if_false,if_true] at hpw
          obtain ⟨c1,c2⟩:=congr_over (a:=a) (l:=l) hb2 (hslot hedges)
          have hF:Fr (over a l) n l:=over_fr I.ds I.size I.lt
          rw[c2]
          have hgo:∀ (v:Value) (w':World) (L':List Asn),Mem w' (L'++ear.map (·.2.2))→(∀ j∈done,listed.getD j true=false→Valid P ops n (putL o.dst v l) L' j)→PV P ops n Q E Fl r (putL o.dst v l) L'→wpAny P .any ops Q fuel (listed.setIfInBounds i true) (a.put o.dst v) w':=by
            intro v w' L' hM hval hpw'
            refine hfin _ _ (i::done) r (putL o.dst v l) L' ear ⟨hpw',g4,fun j hj=>?_,hM,hearly' v _ (fun j hj=>(List.mem_cons.1 hj).symm) hfi',I.once,fun j hj hjl=>?_,fun j hj he=>?_,fun j hj oj hoj e hem heb=>?_,hclosed',(by cases o.dst<;>exact I.ds),?_,look_putL hn I.lt ho _,fun t u hu=>?_,fun j hj hjl=>?_⟩ g6
            · rcases I.perm j hj with h|h
              · exact .inl (List.mem_cons_of_mem _ h)
              · rw[memT,Bool.or_eq_true] at h
                rcases h with h|h
                · exact .inl (by rw[Nat.eq_of_beq_eq_true h];simp)
                · exact .inr h
            · rw[getD_set hlt] at hjl
              by_cases hkj:i=j
              · subst hkj;exact .inl (by simp)
              · rw[if_neg hkj] at hjl
                rcases I.sub j hj hjl with h|h
                · exact .inl (List.mem_cons_of_mem _ h)
                · exact .inr h
            · rw[getD_set hlt]
              by_cases hkj:i=j
              · rw[if_pos hkj]
              · rw[if_neg hkj]
                exact I.effs j ((List.mem_cons.1 hj).resolve_left (fun e=>hkj e.symm)) he
            · rcases List.mem_cons.1 hj with rfl|hj
              · rw[ho] at hoj;cases hoj
                exact List.mem_cons_of_mem _ (hedges e hem heb)
              · exact List.mem_cons_of_mem _ (I.dcl j hj oj hoj e hem heb)
            · cases o.dst<;>simp[Act.put,I.size]
            · rcases look_put_cases hu with⟨h,rfl⟩|⟨hne,h⟩
              · exact .inl (hown _ t h)
              · exact hslots' v t u h hne
            · rw[getD_set hlt] at hjl
              split at hjl
              · cases hjl
              · rename_i hkj
                exact hval j ((List.mem_cons.1 hj).resolve_left (fun e=>hkj e.symm)) hjl
          rcases hpw with⟨k1,k2⟩|⟨k1,k2⟩
          · rw[if_pos (hF.wanted k1)]
            left
            have hup:=k2 (ear.map (·.2.2)) _ w hF I.mem
            rw[← c1] at hup
            refine hup.wp fun v w' ⟨L',⟨hrev,e2⟩,hM⟩=>hgo v w' L' hM (fun j hjd hjl=>?_) e2
            have hjs:j<ops.size:=by
              by_cases hjs:j<ops.size
              · exact hjs
              · have:listed.getD j true=true:=by simp[hl,hjs]
                rw[this] at hjl;cases hjl
            have hej:E.contains j=false:=by
              cases hej:E.contains j with
              | false=>rfl
              | true=>have:=I.effs j hjd (.inl hej);rw[this] at hjl;cases hjl
            have hfj:Fl.contains j=false:=by
              cases hej:Fl.contains j with
              | false=>rfl
              | true=>have:=I.effs j hjd (.inr hej);rw[this] at hjl;cases hjl
            have hbj:((Region.before ops).getD i 0).testBit j=false:=by
              cases hbj:((Region.before ops).getD i 0).testBit j with
              | false=>rfl
              | true=>have:=hanc j hbj hjs;rw[this] at hjl;cases hjl
            have hjS:j∈js:=by
              have h5:(done.all fun j=>E.contains j || Fl.contains j || ((Region.before ops).getD i 0).testBit j || js.contains j)=true:=by
                rw[hkE] at g5;simpa using g5
              have:=List.all_eq_true.1 h5 j hjd
              simp only[hej,hfj,hbj,Bool.false_or] at this
              simpa using this
            obtain ⟨oj,vj,e1,e2,e3⟩:=hrev.mem j hjS
            exact⟨oj,vj,putL o.dst v l,e1,e3,look_putL hn I.lt ho _,fun t _ u hu=>hu,e2⟩
          · rw[if_neg (by rw[hF.wanted k1];simp)]
            exact hgo undef w L I.mem (fun j hjd hjl=>(I.valid j hjd hjl).put hB I.dcl ho hdone hjd) k2
theorem region_pt {id:Nat} {a:Act} {w:World} {l:List (Nat × Value)} {L:List Asn} {t:Tr} (hm:P.follows .mixedOrders=true) (hok:drawT ops E Fl t n=true) (hFl:FlOK P ops Fl) (F:Fr a n l) (M:Mem w L) (h:PV P ops n Q E Fl t l L):(Code.region id ops true).wp P Q a w:=by
  simp only[drawT,Bool.and_eq_true] at hok
  obtain ⟨⟨⟨⟨⟨⟨hB,ho⟩,hall⟩,hfl⟩,hds⟩,hes⟩,hcm⟩:=hok
  have hn:∀ (i:Nat) (o:Oper) (d:Nat),ops[i]? = some o→o.dst=some d→d<n:=fun i o d hi hd=>by
    have:=Array.all_eq_true_iff_forall_mem.1 hds o (Array.mem_of_getElem? hi)
    rw[hd] at this
    exact Nat.le_of_ble_eq_true this
  have hEF:∀ i,Fl.contains i=true→E.contains i=false:=fun i hi=>by
    have:=List.all_eq_true.1 hfl i (by simpa using hi)
    simp only[Bool.and_eq_true,Bool.not_eq_true'] at this
    exact this.1
  have hEs:∀ i,E.contains i=true→i<ops.size:=fun i hi=>Nat.le_of_ble_eq_true (List.all_eq_true.1 hes i (by simpa using hi))
  have hrep:∀ j,(Array.replicate ops.size false).getD j true=true→ops.size≤j:=fun j hj=>by
    by_cases hlt:j<ops.size
    · simp[hlt] at hj
    · omega
  obtain ⟨done',rest',l',L',ear',hp,hh,hcp⟩:=normT hB hn (listed:=Array.replicate ops.size false) (a:=a) (w:={w with drawn:=w.drawn+1}) t [] l L [] ⟨h,ho,fun i hi=>.inr (List.all_eq_true.1 hall i (List.mem_range.2 hi)),by rw[List.map_nil,List.append_nil];exact M.drew _,by simp,by simp,fun j hj hjl=>by have:=hrep j hjl;omega,by simp,by simp,
    fun j o hj hjl=>by have:=hrep j hjl;have:=(Array.getElem?_eq_some_iff.1 hj).1;omega,F.ds,F.size,fun t v ht=>(F.val t v ht).1,fun t v ht=>.inl (F.val t v ht).2,by simp⟩ hcm
  exact wp_region_any hm (pt_any hB hn hFl hEF hEs ops.size _ a _ (by simp) (by simp[unlisted]) ⟨done',rest',l',L',ear',hp,hh,hcp⟩)
end
section
variable {ops:Array Oper} {Q:Exit→Act→World→Prop} {o:Oper} {a:Act} {w:World} {n:Nat} {l:List (Nat × Value)} {L:List Asn} {C:Value→List Asn→Prop} {E Fl:List Nat} {r:Tr} {js:List Nat} {i:Nat}
theorem tv_nil (h:∀ a' w',Fr a' n l→Mem w' L→Q .normal a' w'):PV Tryz.prog ops n Q E Fl .nil l L:=h
theorem tvA {t1 t2:Tr} (h1:PV Tryz.prog ops n Q E Fl t1 l L) (h2:PV Tryz.prog ops n Q E Fl t2 l L):PV Tryz.prog ops n Q E Fl (.alt t1 t2) l L:=⟨h1,h2⟩
theorem tv_act (hi:ops[i]? = some o) (hf:Fl.contains i=false) (he:E.contains i=true) (hw:Wanted o ops l=some true) {d:Nat} (hd:o.dst=some d)
    (h:AC o l L n (fun v L'=>Rvs Tryz.prog ops n js ((d,v)::l) L'∧PV Tryz.prog ops n Q E Fl r ((d,v)::l) L')):PV Tryz.prog ops n Q E Fl (.cons i js r) l L:=by
  rw[PV,hi]
  simp only[hf,he,Bool.false_eq_true,if_false,if_true]
  refine .inl ⟨hw,?_⟩
  rw[hd];exact h
theorem tv_act0 (hi:ops[i]? = some o) (hf:Fl.contains i=false) (he:E.contains i=true) (hw:Wanted o ops l=some true) (hd:o.dst=none)
    (h:AC o l L n (fun v L'=>Rvs Tryz.prog ops n js l L'∧PV Tryz.prog ops n Q E Fl r l L')):PV Tryz.prog ops n Q E Fl (.cons i js r) l L:=by
  rw[PV,hi]
  simp only[hf,he,Bool.false_eq_true,if_false,if_true]
  refine .inl ⟨hw,?_⟩
  rw[hd];exact h
theorem tv1 {d:Nat} {v:Value} (h:PV Tryz.prog ops n Q E Fl r ((d,v)::l) L) (hi:ops[i]? = some o:=by exact rfl) (hf:Fl.contains i=false:=by exact rfl) (he:E.contains i=false:=by exact rfl) (hw:Wanted o ops l=some true:=by exact rfl) (hd:o.dst=some d:=by exact rfl) (hr:RT o l L n v:=by exact rtA) :
    PV Tryz.prog ops n Q E Fl (.cons i js r) l L:=by
  rw[PV,hi]
  simp only[hf,he,Bool.false_eq_true,if_false]
  refine⟨v,.inl ⟨hw,hr⟩,?_⟩
  rw[hd];exact h
theorem tv2 {d:Nat} {fv:Nat→Value} {fL:Nat→List Asn} (h:∀ b,PV Tryz.prog ops n Q E Fl r ((d,fv b)::l) (fL b)) (hi:ops[i]? = some o:=by exact rfl) (hf:Fl.contains i=false:=by exact rfl) (he:E.contains i=true:=by exact rfl) (hw:Wanted o ops l=some true:=by exact rfl) (hd:o.dst=some d:=by exact rfl)
    (s:∀ C:Value→List Asn→Prop,(∀ b,C (fv b) (fL b))→AC o l L n C:=by(intro C h;exact acA h)) (hr:∀ b,Rvs Tryz.prog ops n js ((d,fv b)::l) (fL b):=by(intro b;exact rvsA)):PV Tryz.prog ops n Q E Fl (.cons i js r) l L:=tv_act hi hf he hw hd (s _ fun b=>⟨hr b,h b⟩)
theorem tv3 {v:Value} {L':List Asn} (h:PV Tryz.prog ops n Q E Fl r l L') (hi:ops[i]? = some o:=by exact rfl) (hf:Fl.contains i=false:=by exact rfl) (he:E.contains i=true:=by exact rfl) (hw:Wanted o ops l=some true:=by exact rfl) (hd:o.dst=none:=by exact rfl)
    (s:∀ C:Value→List Asn→Prop,C v L'→AC o l L n C:=by(intro C h;exact acB h)) (hr:Rvs Tryz.prog ops n js l L':=by exact rvsA):PV Tryz.prog ops n Q E Fl (.cons i js r) l L:=tv_act0 hi hf he hw hd (s _ ⟨hr,h⟩)
theorem tvC {d:Nat} (h:AC o l L n (fun v L'=>Rvs Tryz.prog ops n js ((d,v)::l) L'∧PV Tryz.prog ops n Q E Fl r ((d,v)::l) L')) (hi:ops[i]? = some o:=by exact rfl) (hf:Fl.contains i=false:=by exact rfl) (he:E.contains i=true:=by exact rfl) (hw:Wanted o ops l=some true:=by exact rfl) (hd:o.dst=some d:=by exact rfl) :
    PV Tryz.prog ops n Q E Fl (.cons i js r) l L:=tv_act hi hf he hw hd h
theorem tvC0 (h:AC o l L n (fun v L'=>Rvs Tryz.prog ops n js l L'∧PV Tryz.prog ops n Q E Fl r l L')) (hi:ops[i]? = some o:=by exact rfl) (hf:Fl.contains i=false:=by exact rfl) (he:E.contains i=true:=by exact rfl) (hw:Wanted o ops l=some true:=by exact rfl) (hd:o.dst=none:=by exact rfl) :
    PV Tryz.prog ops n Q E Fl (.cons i js r) l L:=tv_act0 hi hf he hw hd h
theorem tvF {t:TypeId} {cs:List Value} {d:Nat} (h:∀ b,PV Tryz.prog ops n Q E Fl r ((d,.pointer (some ⟨b,0,none⟩))::l) (pt b cs t::L)) (hi:ops[i]? = some o:=by exact rfl) (hf:Fl.contains i=true:=by exact rfl) (ho:o.op=.alloc t:=by exact rfl) (hz:ZT t cs:=by exact inferInstance) (hd:o.dst=some d:=by exact rfl):PV Tryz.prog ops n Q E Fl (.cons i js r) l L:=by
  rw[PV,hi]
  simp only[hf,if_true]
  refine⟨cs,t,news_alloc ho hz,fun b=>?_⟩
  rw[hd];exact h b
theorem tvK {d:Nat} (h:PV Tryz.prog ops n Q E Fl r ((d,undef)::l) L) (hi:ops[i]? = some o:=by exact rfl) (hf:Fl.contains i=false:=by exact rfl) (hw:Wanted o ops l=some false:=by exact rfl) (hd:o.dst=some d:=by exact rfl):PV Tryz.prog ops n Q E Fl (.cons i js r) l L:=by
  rw[PV,hi]
  cases he:E.contains i
  · simp only[hf,he,Bool.false_eq_true,if_false]
    refine⟨undef,.inr ⟨hw,rfl⟩,?_⟩
    rw[hd];exact h
  · simp only[hf,he,Bool.false_eq_true,if_false,if_true]
    refine .inr ⟨hw,?_⟩
    rw[hd];exact h
theorem tvK0 (h:PV Tryz.prog ops n Q E Fl r l L) (hi:ops[i]? = some o:=by exact rfl) (hf:Fl.contains i=false:=by exact rfl) (he:E.contains i=true:=by exact rfl) (hw:Wanted o ops l=some false:=by exact rfl) (hd:o.dst=none:=by exact rfl):PV Tryz.prog ops n Q E Fl (.cons i js r) l L:=by
  rw[PV,hi]
  simp only[hf,he,Bool.false_eq_true,if_false,if_true]
  refine .inr ⟨hw,?_⟩
  rw[hd];exact h
theorem svTree {id:Nat} (E Fl:List Nat) (t:Tr) (F:Fr a n l) (M:Mem w L) (h:PV Tryz.prog ops n Q E Fl t l L) (hok:drawT ops E Fl t n=true:=by kernel_rfl) (hFl:FlOK Tryz.prog ops Fl:=by(first|(focus ((repeat (first|exact flok_nil|(apply flok_cons;(exact rfl);(exact rfl);(exact inferInstance);(exact rfl);(exact rfl))));done))|fail)):(Code.region id ops true).wp Tryz.prog Q a w:=region_pt mixed hok hFl F M h
end
end
section
open Go.RowKit
def lastL:List Oper→Option (List Oper × Oper)
 | []=>none
 | a::r=>match lastL r with
  | some (p,o)=>some (a::p,o)
  | none=>some ([],a)
theorem lastL_spec:∀ (l:List Oper) {p:List Oper} {o:Oper},lastL l=some (p,o)→l=p++[o]
 | [],p,o,h=>by simp[lastL] at h
 | a::r,p,o,h=>by
  simp only[lastL] at h
  split at h
  ·rename_i p' o' hr
   have h:=Option.some.inj h
   obtain ⟨rfl,rfl⟩:=Prod.mk.inj h
   rw[lastL_spec r hr];rfl
  ·rename_i hr
   have h:=Option.some.inj h
   obtain ⟨rfl,rfl⟩:=Prod.mk.inj h
   cases r with
   | nil=>rfl
   | cons b r=>simp only[lastL] at hr;split at hr<;>cases hr
def lastOK (pre:Array Oper) (o:Oper):Bool :=
 (pre.all fun p=>match p.guard with|none=>true|some (g,_)=>Nat.blt g pre.size) &&
 (o.after.all fun e=>!Region.binds .any e || Nat.blt e.on pre.size) &&
 ((List.range pre.size).all fun j=>o.after.any fun e=>Region.binds .any e && (Nat.beq e.on j || ((Region.before pre).getD e.on 0).testBit j))
def QL (ops:Array Oper) (o:Oper) (Q:Exit→Act→World→Prop):Exit→Act→World→Prop:=fun e a w=>match e with
 | .normal=>wpList Tryz.prog ops Q [o] a w
 | e=>Q e a w
section
variable {ops:Array Oper} {Q:Exit→Act→World→Prop} {o:Oper} {a:Act} {w:World} {n:Nat} {l:List (Nat × Value)} {L:List Asn}
theorem ql_open (h:wpList Tryz.prog ops Q [o] a w):QL ops o Q .normal a w:=h
theorem ql_wp {o':Oper} {N N':Act→World→Prop} (h:o'.wp Tryz.prog a w N (QL ops o Q)) (hN:∀ a w,N a w→N' a w):o'.wp Tryz.prog a w N' Q:=by
 have h:=Oper.wp_mono (Q:=QL ops o Q) hN h
 unfold Oper.wp at *
 generalize (execOp a.eval o').run Tryz.prog w=r at *
 cases r with
 | ok n w' =>
  cases n<;>simp only[Oper.upon] at h ⊢
  case enter f args =>
   refine h.mono fun e w'' he=>?_
   cases e<;>exact he
  all_goals exact h
 | halt x w'=>cases x<;>exact h
theorem ql_lets (h:LetsOut (QL ops o Q)):LetsOut Q:=h
theorem getD_push_lt {xs:Array Bool} {i:Nat} {b d:Bool} (h:i<xs.size):(xs.push b).getD i d=xs.getD i d:=by
 simp[Array.getElem?_push,Nat.ne_of_lt h]
theorem set_push {xs:Array Bool} {i:Nat} {b c:Bool} (h:i<xs.size):(xs.push b).setIfInBounds i c=(xs.setIfInBounds i c).push b:=by
 apply Array.ext_getElem?
 intro k
 simp only[Array.getElem?_setIfInBounds,Array.getElem?_push,Array.size_push,Array.size_setIfInBounds]
 by_cases hk:i=k
 ·subst hk
  have:i≠xs.size:=Nat.ne_of_lt h
  simp[h,this];omega
 ·simp only[if_neg hk]
theorem wpAny_push {pre:Array Oper} (hB:fixB pre=true) (hla:lastOK pre o=true):∀ (fuel:Nat) (listed:Array Bool) (a:Act) (w:World),listed.size=pre.size→(∀ (j:Nat) (oj:Oper),pre[j]? = some oj→listed.getD j true=true→∀ e∈oj.after,Region.binds .any e=true→listed.getD e.on true=true) →
  wpAny Tryz.prog .any pre (QL (pre.push o) o Q) fuel listed a w→wpAny Tryz.prog .any (pre.push o) Q (fuel+1) (listed.push false) a w:=by
 simp only[lastOK,Bool.and_eq_true] at hla
 obtain ⟨⟨hg,hb⟩,hall⟩:=hla
 have hops:∀ i,i<pre.size→(pre.push o)[i]? = pre[i]?:=fun i hi=>by simp[Array.getElem?_push,Nat.ne_of_lt hi]
 have hlast:(pre.push o)[pre.size]? = some o:=by simp
 have hoe:∀ e∈o.after,Region.binds .any e=true→e.on<pre.size:=fun e he heb=>by
  have:=Array.all_eq_true_iff_forall_mem.1 hb e he
  simp only[heb,Bool.not_true,Bool.false_or] at this
  simpa[Nat.blt_eq] using this
 have full:∀ (listed:Array Bool),listed.size=pre.size→(∀ (j:Nat) (oj:Oper),pre[j]? = some oj→listed.getD j true=true→∀ e∈oj.after,Region.binds .any e=true→listed.getD e.on true=true)→(∀ e∈o.after,Region.binds .any e=true→listed.getD e.on true=true)→∀ j,j<pre.size→listed.getD j true=true:=by
  intro listed hl hc he j hj
  have h1:=List.all_eq_true.1 hall j (List.mem_range.2 hj)
  obtain ⟨k,hk,h2⟩:=Array.any_eq_true.1 h1
  obtain ⟨e,hem,hek⟩:∃ e,e∈o.after∧e=o.after[k]:=⟨_,Array.getElem_mem hk,rfl⟩
  rw[← hek] at h2
  simp only[Bool.and_eq_true,Bool.or_eq_true] at h2
  obtain ⟨heb,h3⟩:=h2
  have h4:=he e hem heb
  rcases h3 with h3|h3
  ·rw[← Nat.eq_of_beq_eq_true h3];exact h4
  ·have hlt:=hoe e hem heb
   have hpe:pre[e.on]? = some pre[e.on]:=by simp[hlt]
   exact anc_listed (S:=fun k=>listed.getD k true=true) (fun k ok hk=>(fixB_spec hB hk).1) (fun k ok hk hS e' he' hb'=>hc k ok hk hS e' he' hb') e.on _ hpe (fun e' he' hb'=>hc e.on _ hpe h4 e' he' hb') j h3
 have hready:∀ (listed:Array Bool) (i:Nat),listed.size=pre.size→(∀ (j:Nat) (oj:Oper),pre[j]? = some oj→listed.getD j true=true→∀ e∈oj.after,Region.binds .any e=true→listed.getD e.on true=true)→i∈Region.ready .any (pre.push o) (listed.push false) →
   (i<pre.size∧i∈Region.ready .any pre listed)∨(i=pre.size∧∀ j,j<pre.size→listed.getD j true=true):=by
  intro listed i hl hc hi
  obtain ⟨h1,oi,h2,h3⟩:=mem_ready.1 hi
  rcases Nat.lt_trichotomy i pre.size with hlt|rfl|hgt
  ·left
   refine⟨hlt,mem_ready.2 ⟨by rw[getD_push_lt (by omega)] at h1;exact h1,oi,by rw[hops i hlt] at h2;exact h2,fun e he heb=>?_⟩⟩
   have h4:=h3 e he heb
   rw[hops i hlt] at h2
   have h5:=(fixB_spec hB h2).1 e he heb
   rwa [getD_push_lt (by omega)] at h4
  ·right
   refine⟨rfl,full listed hl hc fun e he heb=>?_⟩
   rw[hlast] at h2
   cases h2
   have h4:=h3 e he heb
   have h5:=hoe e he heb
   rw[getD_push_lt (by omega)] at h4
   have:e.on<listed.size:=by omega
   simpa[this] using h4
  ·exfalso
   have:(pre.push o)[i]? = none:=by simp;omega
   rw[this] at h2;cases h2
 have hend:∀ (fuel:Nat) (listed:Array Bool) (a:Act) (w:World),listed.size=pre.size→(∀ j,j<pre.size→listed.getD j true=true)→(Region.ready .any pre listed=[])→QL (pre.push o) o Q .normal a w→wpOp Tryz.prog (pre.push o) Q pre.size (wpAny Tryz.prog .any (pre.push o) Q fuel ((listed.push false).setIfInBounds pre.size true)) a w:=by
  intro fuel listed a w hl hfull hr h
  have hnone:Region.ready .any (pre.push o) ((listed.push false).setIfInBounds pre.size true)=[]:=by
   apply List.eq_nil_iff_forall_not_mem.2
   intro i hi
   obtain ⟨h1,oi,h2,h3⟩:=mem_ready.1 hi
   have hlt:i<(pre.push o).size:=(Array.getElem?_eq_some_iff.1 h2).1
   rw[Array.size_push] at hlt
   by_cases hip:i=pre.size
   ·subst hip
    simp[hl] at h1
   ·have hlt':i<pre.size:=by omega
    have h4:=hfull i hlt'
    have:((listed.push false).setIfInBounds pre.size true).getD i true=listed.getD i true:=by
     have hne:pre.size≠i:=fun e=>hip e.symm
     have hne2:i≠listed.size:=by omega
     simp[Array.getElem?_setIfInBounds,hne,Array.getElem?_push,hne2]
    rw[this,h4] at h1;cases h1
  have hK:∀ a w,Q .normal a w→wpAny Tryz.prog .any (pre.push o) Q fuel ((listed.push false).setIfInBounds pre.size true) a w:=by
   intro a w hq
   cases fuel with
   | zero=>exact⟨hnone,hq⟩
   | succ fuel=>exact⟨fun _=>hq,fun i hi=>by rw[hnone] at hi;simp at hi⟩
  have h':wpList Tryz.prog (pre.push o) Q [o] a w:=h
  unfold wpOp
  rw[hlast]
  simp only[wpList] at h'
  simp only[]
  split
  ·rename_i hw
   rw[if_pos hw] at h'
   exact h'.imp (Oper.wp_mono hK) id
  ·rename_i hw
   rw[if_neg hw] at h'
   exact hK _ _ h'
 intro fuel
 induction fuel with
 | zero =>
  intro listed a w hl hc ⟨hr,hq⟩
  have hfull:=ready_nil_all hB hl hr
  refine⟨fun hr'=>?_,fun i hi=>?_⟩
  ·exfalso
   have:pre.size∈Region.ready .any (pre.push o) (listed.push false):=mem_ready.2 ⟨by simp[← hl],o,hlast,fun e he heb=>by
    have h5:=hoe e he heb
    rw[getD_push_lt (by omega)]
    have:=hfull e.on h5
    have hlt:e.on<listed.size:=by omega
    simpa[hlt] using this⟩
   rw[hr'] at this;simp at this
  ·rcases hready listed i hl hc hi with⟨_,h⟩|⟨rfl,hf⟩
   ·rw[hr] at h;simp at h
   ·exact hend 0 listed a w hl hf hr hq
 | succ fuel ih =>
  intro listed a w hl hc ⟨h0,h1⟩
  refine⟨fun hr'=>?_,fun i hi=>?_⟩
  ·exfalso
   have hnil:Region.ready .any pre listed=[]:=by
    apply List.eq_nil_iff_forall_not_mem.2
    intro i hi
    obtain ⟨k1,oi,k2,k3⟩:=mem_ready.1 hi
    have hlt:i<pre.size:=(Array.getElem?_eq_some_iff.1 k2).1
    have:i∈Region.ready .any (pre.push o) (listed.push false):=mem_ready.2 ⟨by rw[getD_push_lt (by omega)];exact k1,oi,by rw[hops i hlt];exact k2,fun e he heb=>by
     have h5:=(fixB_spec hB k2).1 e he heb
     rw[getD_push_lt (by omega)];exact k3 e he heb⟩
    rw[hr'] at this;simp at this
   have hfull:=ready_nil_all hB hl hnil
   have:pre.size∈Region.ready .any (pre.push o) (listed.push false):=mem_ready.2 ⟨by simp[← hl],o,hlast,fun e he heb=>by
    have h5:=hoe e he heb
    rw[getD_push_lt (by omega)]
    have:=hfull e.on h5
    have hlt:e.on<listed.size:=by omega
    simpa[hlt] using this⟩
   rw[hr'] at this;simp at this
  ·rcases hready listed i hl hc hi with⟨hlt,h⟩|⟨rfl,hf⟩
   ·have h2:=h1 i h
    rw[set_push (by omega)]
    obtain ⟨k1,oi,k2,k3⟩:=mem_ready.1 h
    have hN:∀ a w,wpAny Tryz.prog .any pre (QL (pre.push o) o Q) fuel (listed.setIfInBounds i true) a w→wpAny Tryz.prog .any (pre.push o) Q (fuel+1) ((listed.setIfInBounds i true).push false) a w:=fun a w hh=>ih _ a w (by simp[hl]) (fun j oj hj hjl e he heb=>by
     rw[getD_set (by omega)] at hjl ⊢
     split
     ·rfl
     ·split at hjl
      ·rename_i hij
       subst hij
       rw[k2] at hj;cases hj
       have h4:=k3 e he heb
       have h5:=(fixB_spec hB k2).1 e he heb
       have h6:e.on<listed.size:=by omega
       simpa[h6] using h4
      ·exact hc j oj hj hjl e he heb) hh
    unfold wpOp at h2 ⊢
    rw[k2] at h2
    rw[hops i hlt,k2]
    simp only[] at h2 ⊢
    have hw:Region.wanted oi (yielded (pre.push o) a.tmps)=Region.wanted oi (yielded pre a.tmps):=by
     unfold Region.wanted
     cases hgu:oi.guard with
     | none=>rfl
     | some gb =>
      obtain ⟨g,b⟩:=gb
      have hgl:g<pre.size:=by
       have:=Array.all_eq_true_iff_forall_mem.1 hg oi (Array.mem_of_getElem? k2)
       rw[hgu] at this
       simpa[Nat.blt_eq] using this
      simp only[yielded,hops g hgl]
    rw[hw]
    split
    ·rename_i hww
     rw[if_pos hww] at h2
     rcases h2 with h2|⟨h2,h3⟩
     ·exact .inl (ql_wp h2 hN)
     ·exact .inr ⟨h2,ql_lets h3⟩
    ·rename_i hww
     rw[if_neg hww] at h2
     exact hN _ _ h2
   ·have hnil:Region.ready .any pre listed=[]:=by
     apply List.eq_nil_iff_forall_not_mem.2
     intro i hi
     obtain ⟨k1,oi,k2,k3⟩:=mem_ready.1 hi
     have:=hf i (Array.getElem?_eq_some_iff.1 k2).1
     rw[this] at k1;cases k1
    exact hend (fuel+1) listed a w hl hf hnil (h0 hnil)
theorem svDrawL {id:Nat} {os pre:List Oper} (E Fl:List Nat) (S:List (Nat × List Nat)) (σ:List Nat) (F:Fr a n l) (M:Mem w L) (h:PW Tryz.prog pre.toArray n (QL os.toArray o Q) E Fl S σ [] l L) (hl:lastL os=some (pre,o):=by exact rfl) (hok:drawOK pre.toArray E Fl S σ n=true:=by kernel_rfl) (hla:lastOK pre.toArray o=true:=by kernel_rfl)
  (hFl:FlOK Tryz.prog pre.toArray Fl:=by(first|(focus ((repeat (first|exact flok_nil|(apply flok_cons;(exact rfl);(exact rfl);(exact inferInstance);(exact rfl);(exact rfl))));done))|fail)):(Code.region id os.toArray true).wp Tryz.prog Q a w:=by
 have he:=lastL_spec os hl
 have he':os.toArray=pre.toArray.push o:=by rw[he];simp
 rw[he'] at h ⊢
 generalize pre.toArray=ops at *
 simp only[drawOK,Bool.and_eq_true] at hok
 obtain ⟨⟨⟨⟨⟨hB,ho⟩,hlen⟩,hall⟩,hfl⟩,hds⟩:=hok
 have hn:∀ (i:Nat) (o:Oper) (d:Nat),ops[i]? = some o→o.dst=some d→d<n:=fun i o d hi hd=>by
  have:=Array.all_eq_true_iff_forall_mem.1 hds o (Array.mem_of_getElem? hi)
  rw[hd] at this
  exact Nat.le_of_ble_eq_true this
 have hEF:∀ i,Fl.contains i=true→E.contains i=false:=fun i hi=>by
  have:=List.all_eq_true.1 hfl i (by simpa using hi)
  simp only[Bool.and_eq_true,Bool.not_eq_true'] at this
  exact this.1
 have hrep:∀ j,(Array.replicate ops.size false).getD j true=true→ops.size≤j:=fun j hj=>by
  by_cases hlt:j<ops.size
  ·simp[hlt] at hj
  ·omega
 obtain ⟨done',rest',l',L',ear',hp,hh⟩:=norm hB hn (listed:=Array.replicate ops.size false) (a:=a) (w:={w with drawn:=w.drawn+1}) σ [] l L [] ⟨h,ho,fun i hi=>.inr (by simpa using List.all_eq_true.1 hall i (List.mem_range.2 hi)),by rw[List.map_nil,List.append_nil];exact M.drew _,by simp,by simp,fun j hj hjl=>by have:=hrep j hjl;omega,by simp,by simp,
  fun j o hj hjl=>by have:=hrep j hjl;have:=(Array.getElem?_eq_some_iff.1 hj).1;omega,F.ds,F.size,fun t v ht=>(F.val t v ht).1,fun t v ht=>.inl (F.val t v ht).2,by simp⟩
 have h1:=pw_any hB hn hFl hEF ops.size _ a _ (by simp) (by simp[unlisted]) ⟨done',rest',l',L',ear',hp,hh⟩
 have h2:=wpAny_push hB hla ops.size _ a _ (by simp) (fun j oj hj hjl=>by have:=hrep j hjl;have:=(Array.getElem?_eq_some_iff.1 hj).1;omega) h1
 refine wp_region_any mixed ?_
 have e1:(Array.replicate ops.size false).push false=Array.replicate (ops.push o).size false:=by
  rw[Array.size_push,← Array.replicate_succ]
 rw[e1] at h2
 have e2:ops.size+1=(ops.push o).size:=by simp
 rw[e2] at h2
 exact h2
end
end
section
open Go.RowKit
structure ZR2 where
 id:Nat
 E:List Nat
 Fl:List Nat
 t:Tr
def zfindT:List ZR2→Nat→Option ZR2
 | [],_=>none
 | r::rs,i=>cond (Nat.beq r.id i) (some r) (zfindT rs i)
structure ZK where
 s:List Nat
 d:List ZR
 t:List ZR2
end
end Go.Proofs.YtjbfcacmdahnhaaGreat
