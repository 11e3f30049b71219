import Derived.Test.YtjbfcacmdahnhaaGreatZrb
set_option linter.unusedVariables false
set_option linter.unusedSimpArgs false
set_option linter.unusedSectionVars false
set_option maxRecDepth 100000
set_option maxHeartbeats 8000000
namespace Go.Proofs.YtjbfcacmdahnhaaGreat
section
open Go.RowKit
class IK (t:TypeId) (k:outParam IntKind):Prop where
  k:Tryz.prog.underlying t=some (.int k)
class BP (t:TypeId) (ps:outParam (List (Nat × Nat))):Prop where
  k:(match Tryz.prog.underlying t with|some (.struct fs)=>fs.toList.mapM (fun f=>(Tryz.prog.info? f.type).map fun i=>(f.offset,i.size))|_=>none)=some ps
class BT (t:TypeId):Prop where
  k:Tryz.prog.underlying t=some .bool
def hasN:List Nat→Nat→Bool
  | [],_=>false
  | s::r,t=>cond (Nat.beq s t) true (hasN r t)
def filtO:List Nat→List (Nat × Value)→Option (List (Nat × Value))
  | _,[]=>some []
  | keep,(s,v)::r=>match hasN keep s with
    | true=>match filtO (keep.filter fun t=>!Nat.beq s t) r with
      | some r'=>some ((s,v)::r')
      | none=>none
    | false=>filtO keep r
theorem filtO_look:∀ (l:List (Nat × Value)) (keep:List Nat) {l':List (Nat × Value)},filtO keep l=some l'→∀ t v,look l' t=some v→hasN keep t=true∧look l t=some v
  | [],keep,l',h,t,v,ht=>by simp[filtO] at h;subst h;simp[look] at ht
  | (s,u)::r,keep,l',h,t,v,ht=>by
    simp only[filtO] at h
    cases hk:hasN keep s with
    | true =>
      rw[hk] at h
      simp only at h
      split at h
      · rename_i r' hr
        obtain rfl:=Option.some.inj h
        simp only[look] at ht ⊢
        by_cases hst:s=t
        · subst hst
          rw[show Nat.beq s s=true from Nat.beq_refl s] at ht ⊢
          exact⟨hk,ht⟩
        · rw[nbeq hst] at ht ⊢
          obtain ⟨h1,h2⟩:=filtO_look r _ hr t v ht
          refine⟨?_,h2⟩
          have:∀ (k:List Nat),hasN (k.filter fun t=>!Nat.beq s t) t=true→hasN k t=true:=by
            intro k
            induction k with
            | nil=>simp[hasN]
            | cons x k ih =>
              intro hx
              simp only[hasN]
              by_cases hxt:x=t
              · subst hxt;rw[show Nat.beq x x=true from Nat.beq_refl x];rfl
              · rw[nbeq hxt]
                refine ih ?_
                rw[List.filter_cons] at hx
                split at hx
                · simp only[hasN,nbeq hxt] at hx;exact hx
                · exact hx
          exact this keep h1
      · cases h
    | false =>
      rw[hk] at h
      simp only at h
      obtain ⟨h1,h2⟩:=filtO_look r keep h t v ht
      refine⟨h1,?_⟩
      simp only[look]
      have hst:s≠t:=fun e=>by rw[e,h1] at hk;cases hk
      rw[nbeq hst];exact h2
theorem Fr.filt {a:Act} {n:Nat} {l l':List (Nat × Value)} (F:Fr a n l) (keep:List Nat) (h:filtO keep l=some l'):Fr a n l' :=
  ⟨F.ds,F.size,fun t v ht=>F.val t v (filtO_look l keep h t v ht).2⟩
section
variable {ops:Array Oper} {Q:Exit→Act→World→Prop} {rest:List Oper} {o:Oper} {a:Act} {w:World} {n:Nat} {l:List (Nat × Value)} {L:List Asn}
def RT (o:Oper) (l:List (Nat × Value)) (L:List Asn) (n:Nat) (v:Value):Prop:=∀ a w,Fr a n l→Mem w L→(execOp a.eval o).run Tryz.prog w=.ok (.value v) w
def AC (o:Oper) (l:List (Nat × Value)) (L:List Asn) (n:Nat) (C:Value→List Asn→Prop):Prop:=Acts Tryz.prog o l L n C
def Spec (k:FuncId) (us:List Value) (L:List Asn) (C:Value→List Asn→Prop):Prop:=∀ G w,Mem w (L++G)→Calls Tryz.prog k us.toArray w fun e w'=>∃ v L',e=.returned v∧C v L'∧Mem w' (L'++G)
theorem Spec.mono {k:FuncId} {us:List Value} {C D:Value→List Asn→Prop} (h:Spec k us L C) (hi:∀ v L',C v L'→D v L'):Spec k us L D :=
  fun G w M=>(h G w M).mono fun e w' ⟨v,L',he,hc,hm⟩=>⟨v,L',he,hi _ _ hc,hm⟩
theorem Pull.app {L L':List Asn} {A:Asn} (h:Pull L A L') (G:List Asn):Pull (L++G) A (L'++G):=by
  induction h with
  | here=>exact .here
  | there _ ih=>exact .there ih
theorem Rep.app {L L':List Asn} {A B:Asn} (h:Rep L A B L') (G:List Asn):Rep (L++G) A B (L'++G):=by
  induction h with
  | here=>exact .here
  | there _ ih=>exact .there ih
inductive Perms:List Asn→List Asn→Prop where
  | nil {L:List Asn}:Perms L []
  | rest {L:List Asn}:Perms L L
  | cons {L L1 R:List Asn} {A:Asn}:Pull L A L1→Perms L1 R→Perms L (A::R)
  | skip {L R:List Asn} {A:Asn}:Perms L R→Perms (A::L) R
theorem Sat.drop_pre {G:List Asn}:∀ (L:List Asn) {s:List Nat} {w:World},Sat (L++G) s w→∃ s',Sat G s' w∧∀ b∈s',b∈s
  | [],s,w,h=>⟨s,h,fun _ h=>h⟩
  | A::L,s,w,h=>by
    cases h with
    | cons _ h2 _ =>
      obtain ⟨s',k1,k2⟩:=Sat.drop_pre L h2
      exact⟨s',k1,fun b hb=>List.mem_append.2 (.inr (k2 b hb))⟩
theorem Sat.perms {L L':List Asn} (h:Perms L L') (G:List Asn):∀ {s:List Nat} {w:World},Sat (L++G) s w→∃ s',Sat (L'++G) s' w∧∀ b∈s',b∈s:=by
  induction h with
  | nil=>exact fun hs=>Sat.drop_pre _ hs
  | rest=>exact fun hs=>⟨_,hs,fun _ h=>h⟩
  | skip _ ih =>
    intro s w hs
    cases hs with
    | cons _ h2 _ =>
      obtain ⟨s',k1,k2⟩:=ih h2
      exact⟨s',k1,fun b hb=>List.mem_append.2 (.inr (k2 b hb))⟩
  | cons hp _ ih =>
    intro s w hs
    obtain ⟨s1,k1,k2⟩:=hs.pull (hp.app G)
    cases k1 with
    | @cons _ _ sa ra _ m1 m2 m3 =>
      obtain ⟨s2,q1,q2⟩:=ih m2
      refine⟨_,.cons m1 q1 fun b hb hm=>m3 b hb (q2 b hm),fun b hb=>?_⟩
      rcases List.mem_append.1 hb with hb|hb
      · exact(k2 b).1 (by simp[hb])
      · exact(k2 b).1 (by simp[q2 b hb])
theorem Mem.permsG {L L':List Asn} {w:World} {G:List Asn} (M:Mem w (L++G)) (h:Perms L L'):Mem w (L'++G):=by
  obtain ⟨s,hs⟩:=M
  obtain ⟨s',h1,_⟩:=hs.perms h G
  exact⟨s',h1⟩
theorem Mem.perms {L L':List Asn} {w:World} (M:Mem w L) (h:Perms L L'):Mem w L':=by
  have:=Mem.permsG (G:=[]) (by simpa using M) h
  simpa using this
theorem Spec.pre {k:FuncId} {us:List Value} {C:Value→List Asn→Prop} {L':List Asn} (h:Spec k us L' C) (hp:Perms L L'):Spec k us L C:=fun G w M=>h G w (M.permsG hp)
theorem Spec.of_below {k:FuncId} {us:List Value} {v:Value} {C:Value→List Asn→Prop} (h:∀ w,Calls Tryz.prog k us.toArray w fun e w'=>e=.returned v∧Below w.heap.size w w') (hC:C v L):Spec k us L C :=
  fun G w M=>(h w).mono fun e w' ⟨he,hb⟩=>⟨v,L,he,hC,M.of_below hb⟩
theorem Spec.of_quiet {k:FuncId} {us:List Value} {v:Value} {C:Value→List Asn→Prop} (h:∀ w,Calls Tryz.prog k us.toArray w fun e w'=>e=.returned v∧w=w') (hC:C v L):Spec k us L C :=
  fun G w M=>(h w).mono fun e w' ⟨he,hb⟩=>⟨v,L,he,hC,hb ▸ M⟩
theorem sv_run (F:Fr a n l) (M:Mem w L) (hw:Wanted o ops l=some true) {d:Nat} (hd:o.dst=some d) (hn:Nat.ble (d+1) n=true) {v:Value} (hr:RT o l L n v)
    (h:∀ a',Fr a' n ((d,v)::l)→wpList Tryz.prog ops Q rest a' w):wpList Tryz.prog ops Q (o::rest) a w:=sx_val F hw hd hn (hr a w F M) h
theorem upon_wpList (F:Fr a n l) (hw:Wanted o ops l=some true) {Φ:Value→World→Prop} (hu:UponD Tryz.prog Φ ((execOp a.eval o).run Tryz.prog w)) (h:∀ v w',Φ v w'→wpList Tryz.prog ops Q rest (a.put o.dst v) w'):wpList Tryz.prog ops Q (o::rest) a w:=by
  unfold wpList
  rw[if_pos (F.wanted hw)]
  exact .inl (hu.wp h)
theorem sv_act (F:Fr a n l) (M:Mem w L) (hw:Wanted o ops l=some true) {d:Nat} (hd:o.dst=some d) (hn:Nat.ble (d+1) n=true)
    (h:AC o l L n (fun v L'=>∀ a' w',Fr a' n ((d,v)::l)→Mem w' L'→wpList Tryz.prog ops Q rest a' w')):wpList Tryz.prog ops Q (o::rest) a w :=
  upon_wpList F hw (h [] a w F (by simpa using M)) fun v w' ⟨L',hC,hM⟩=>by rw[hd];exact hC _ _ (F.put d v hn) (by simpa using hM)
theorem sv_act0 (F:Fr a n l) (M:Mem w L) (hw:Wanted o ops l=some true) (hd:o.dst=none)
    (h:AC o l L n (fun v L'=>∀ w',Mem w' L'→wpList Tryz.prog ops Q rest a w')):wpList Tryz.prog ops Q (o::rest) a w :=
  upon_wpList F hw (h [] a w F (by simpa using M)) fun v w' ⟨L',hC,hM⟩=>by rw[hd];exact hC _ (by simpa using hM)
section
variable {E Fl:List Nat} {S:List (Nat × List Nat)} {σ done:List Nat} {i:Nat}
theorem pv_nil (h:∀ a' w',Fr a' n l→Mem w' L→Q .normal a' w'):PW Tryz.prog ops n Q E Fl S [] done l L:=h
theorem pv_run (hi:ops[i]? = some o) (hf:Fl.contains i=false) (he:E.contains i=false) (hw:Wanted o ops l=some true) {d:Nat} (hd:o.dst=some d) {v:Value} (hr:RT o l L n v)
    (h:PW Tryz.prog ops n Q E Fl S σ (i::done) ((d,v)::l) L):PW Tryz.prog ops n Q E Fl S (i::σ) done l L:=by
  rw[PW,hi]
  simp only[hf,he,Bool.false_eq_true,if_false]
  refine⟨v,.inl ⟨hw,hr⟩,?_⟩
  rw[hd];exact h
theorem pv_skip (hi:ops[i]? = some o) (hf:Fl.contains i=false) (he:E.contains i=false) (hw:Wanted o ops l=some false) {d:Nat} (hd:o.dst=some d)
    (h:PW Tryz.prog ops n Q E Fl S σ (i::done) ((d,undef)::l) L):PW Tryz.prog ops n Q E Fl S (i::σ) done l L:=by
  rw[PW,hi]
  simp only[hf,he,Bool.false_eq_true,if_false]
  refine⟨undef,.inr ⟨hw,rfl⟩,?_⟩
  rw[hd];exact h
theorem pv_skipE (hi:ops[i]? = some o) (hf:Fl.contains i=false) (he:E.contains i=true) (hw:Wanted o ops l=some false) {d:Nat} (hd:o.dst=some d)
    (h:PW Tryz.prog ops n Q E Fl S σ (i::done) ((d,undef)::l) L):PW Tryz.prog ops n Q E Fl S (i::σ) done l L:=by
  rw[PW,hi]
  simp only[hf,he,Bool.false_eq_true,if_false,if_true]
  refine .inr ⟨hw,?_⟩
  rw[hd];exact h
theorem pv_skipE0 (hi:ops[i]? = some o) (hf:Fl.contains i=false) (he:E.contains i=true) (hw:Wanted o ops l=some false) (hd:o.dst=none)
    (h:PW Tryz.prog ops n Q E Fl S σ (i::done) l L):PW Tryz.prog ops n Q E Fl S (i::σ) done l L:=by
  rw[PW,hi]
  simp only[hf,he,Bool.false_eq_true,if_false,if_true]
  refine .inr ⟨hw,?_⟩
  rw[hd];exact h
theorem pv_act (hi:ops[i]? = some o) (hf:Fl.contains i=false) (he:E.contains i=true) (hw:Wanted o ops l=some true) {d:Nat} (hd:o.dst=some d) {js:List Nat} (hj:lookS S i=js)
    (h:AC o l L n (fun v L'=>Rvs Tryz.prog ops n js ((d,v)::l) L'∧PW Tryz.prog ops n Q E Fl S σ (i::done) ((d,v)::l) L')):PW Tryz.prog ops n Q E Fl S (i::σ) done l L:=by
  subst hj
  rw[PW,hi]
  simp only[hf,he,Bool.false_eq_true,if_false,if_true]
  refine .inl ⟨hw,?_⟩
  rw[hd];exact h
theorem pv_act0 (hi:ops[i]? = some o) (hf:Fl.contains i=false) (he:E.contains i=true) (hw:Wanted o ops l=some true) (hd:o.dst=none) {js:List Nat} (hj:lookS S i=js)
    (h:AC o l L n (fun v L'=>Rvs Tryz.prog ops n js l L'∧PW Tryz.prog ops n Q E Fl S σ (i::done) l L')):PW Tryz.prog ops n Q E Fl S (i::σ) done l L:=by
  subst hj
  rw[PW,hi]
  simp only[hf,he,Bool.false_eq_true,if_false,if_true]
  refine .inl ⟨hw,?_⟩
  rw[hd];exact h
theorem zero_run {t:TypeId} {cs:List Value} (hz:ZT t cs):∃ i z,Tryz.prog.info? t=some i∧i.zero=some z∧z.cells=cs.toArray:=by
  have h1:=hz.k
  cases hi:Tryz.prog.info? t with
  | none=>rw[hi] at h1;cases h1
  | some i =>
    rw[hi] at h1
    have h2:i.zero.map Value.cells=some cs.toArray:=Option.some.inj h1
    cases hzz:i.zero with
    | none=>rw[hzz] at h2;cases h2
    | some z =>
      rw[hzz] at h2
      exact⟨i,z,rfl,hzz,Option.some.inj h2⟩
theorem news_alloc {t:TypeId} (ho:o.op=.alloc t) {cs:List Value} (hz:ZT t cs):News Tryz.prog o cs t:=fun ρ w=>by
  obtain ⟨i,z,hi,hzz,h3⟩:=zero_run hz
  unfold execOp
  rw[ho]
  simp[Instr.alloc,zeroValue,typeInfo,hi,hzz,newVar,newRow,newObj,Sem.run,h3]
theorem pv_float (hi:ops[i]? = some o) (hf:Fl.contains i=true) {t:TypeId} (ho:o.op=.alloc t) {cs:List Value} (hz:ZT t cs) {d:Nat} (hd:o.dst=some d)
    (h:∀ b,PW Tryz.prog ops n Q E Fl S σ (i::done) ((d,.pointer (some ⟨b,0,none⟩))::l) (pt b cs t::L)):PW Tryz.prog ops n Q E Fl S (i::σ) done l L:=by
  rw[PW,hi]
  simp only[hf,if_true]
  refine⟨cs,t,news_alloc ho hz,fun b=>?_⟩
  rw[hd];exact h b
theorem flok_nil:FlOK Tryz.prog ops []:=fun i h=>by simp at h
theorem flok_cons {j:Nat} {js:List Nat} (hi:ops[j]? = some o) {t:TypeId} (ho:o.op=.alloc t) {cs:List Value} (hz:ZT t cs) (hg:o.guard=none) {d:Nat} (hd:o.dst=some d) (h:FlOK Tryz.prog ops js):FlOK Tryz.prog ops (j::js):=fun i h' p hp=>by
  rw[List.contains_cons,Bool.or_eq_true] at h'
  rcases h' with h'|h'
  · obtain rfl:i=j:=by simpa using h'
    rw[hi] at hp;cases hp
    exact⟨hg,⟨d,hd⟩,cs,t,news_alloc ho hz⟩
  · exact h i h' p hp
theorem rvs_nil:Rvs Tryz.prog ops n [] l L:=trivial
theorem rvs_run {j:Nat} {js:List Nat} (hi:ops[j]? = some o) (hw:Wanted o ops l=some true) {d:Nat} (hd:o.dst=some d) {v:Value} (hv:look l d=some v) (hr:RT o l L n v) (h:Rvs Tryz.prog ops n js l L):Rvs Tryz.prog ops n (j::js) l L :=
  ⟨⟨o,v,hi,.inl ⟨hw,hr⟩,fun t ht=>by rw[hd] at ht;cases ht;exact hv⟩,h⟩
theorem rvs_skip {j:Nat} {js:List Nat} (hi:ops[j]? = some o) (hw:Wanted o ops l=some false) {d:Nat} (hd:o.dst=some d) (hv:look l d=some undef) (h:Rvs Tryz.prog ops n js l L):Rvs Tryz.prog ops n (j::js) l L :=
  ⟨⟨o,undef,hi,.inr ⟨hw,rfl⟩,fun t ht=>by rw[hd] at ht;cases ht;exact hv⟩,h⟩
theorem mixed:Tryz.prog.follows .mixedOrders=true:=by kernel_rfl
theorem sv_draw {id:Nat} (E Fl:List Nat) (S:List (Nat × List Nat)) (σ:List Nat) (F:Fr a n l) (M:Mem w L) (hok:drawOK ops E Fl S σ n=true) (hFl:FlOK Tryz.prog ops Fl) (h:PW Tryz.prog ops n Q E Fl S σ [] l L):(Code.region id ops true).wp Tryz.prog Q a w:=region_pw mixed hok hFl F M h
end
theorem rt_pure {v:Value} (h:pureOp o.op l=some v):RT o l L n v:=fun a w F M=>pure_run F h
theorem rt_extract {x:Operand} {i:Nat} (ho:o.op=.extract x i) {vs:List Value} (hx:evl l x=some (.tuple vs.toArray)) {v:Value} (hv:vs[i]? = some v):RT o l L n v:=fun a w F M=>by
  unfold execOp
  rw[ho]
  simp[F.eval hx,Instr.extract,hv]
theorem rt_field {t:TypeId} {x:Operand} {f off:Nat} (ho:o.op=.fieldAddr t x f) {b i:Nat} (hx:evl l x=some (.pointer (some ⟨b,i,none⟩))) (hf:FO t f off) {j:Nat} (hj:i+off=j):RT o l L n (.pointer (some ⟨b,j,none⟩)):=fun a w F M=>by
  subst hj
  unfold execOp
  rw[ho]
  have h1:=hf.k
  split at h1
  · rename_i fs hu
    cases hfs:fs[f]? with
    | none=>rw[hfs] at h1;cases h1
    | some fd =>
      rw[hfs] at h1
      have h2:=Option.some.inj h1
      simp only at h2
      cases hi:Tryz.prog.info? fd.type with
      | none=>rw[hi] at h2;simp at h2
      | some i =>
        rw[hi] at h2
        simp only[Prod.mk.injEq] at h2
        obtain ⟨h2,h3⟩:=h2
        have h4:¬i.size=0:=by have:=Nat.le_of_ble_eq_true h3;omega
        simp[F.eval hx,Instr.fieldAt,run_underlying hu w,hfs,Instr.sureAddr,fieldPlace,sizeOf,typeInfo,hi,h4,h2,add0]
  · cases h1
theorem rt_load {t:TypeId} {x:Operand} (ho:o.op=.load t x) {b i:Nat} (hx:evl l x=some (.pointer (some ⟨b,i,none⟩))) (hkt:KT t none) {L':List Asn} {cs:List Value} {t':TypeId} (hp:Pull L (pt b cs t') L') {v:Value} (hv:cs[i]? = some v):RT o l L n v :=
  fun a w F M=>load_run1 F M ho hx hkt hp hv
theorem rt_loadA {t:TypeId} {x:Operand} (ho:o.op=.load t x) {b:Nat} (hx:evl l x=some (.pointer (some ⟨b,0,none⟩))) {k:Nat} (hkt:KT t (some k)) {L':List Asn} {cs:List Value} {t':TypeId} (hp:Pull L (pt b cs t') L') (hk:cs.length=k):RT o l L n (.agg cs.toArray) :=
  fun a w F M=>load_runA F M ho hx hkt hp hk
def takeN:List Value→Nat→Nat→Option (List Value)
  | cs,0,0=>some []
  | c::cs,0,k+1=>match takeN cs 0 k with|some r=>some (c::r)|none=>none
  | _::cs,i+1,k=>takeN cs i k
  | [],_,_=>none
theorem takeN_spec:∀ (cs:List Value) (i k:Nat) {r:List Value},takeN cs i k=some r→(cs.drop i).take k=r∧r.length=k
  | cs,0,0,r,h=>by simp[takeN] at h;subst h;simp
  | c::cs,0,k+1,r,h=>by
    simp only[takeN] at h
    split at h
    · rename_i r' hr
      obtain rfl:=Option.some.inj h
      have:=takeN_spec cs 0 k hr
      simp at this ⊢
      exact⟨this.1,this.2⟩
    · cases h
  | [],0,k+1,r,h=>by simp[takeN] at h
  | c::cs,i+1,k,r,h=>by
    simp only[takeN] at h
    simpa using takeN_spec cs i k h
  | [],i+1,k,r,h=>by simp[takeN] at h
theorem rt_loadS {t:TypeId} {x:Operand} (ho:o.op=.load t x) {b i:Nat} (hx:evl l x=some (.pointer (some ⟨b,i,none⟩))) {k:Nat} (hkt:KT t (some k)) {L':List Asn} {cs:List Value} {t':TypeId} (hp:Pull L (pt b cs t') L') {ds:List Value} (hd:takeN cs i k=some ds):RT o l L n (.agg ds.toArray) :=
  fun a w F M=>load_runS F M ho hx hkt hp (takeN_spec cs i k hd).1 (takeN_spec cs i k hd).2
theorem rt_bin {b:BinOp} {t ty:TypeId} {x y:Operand} (ho:o.op=.binOp b t x y ty) {k:IntKind} {m p:Int} (hx:evl l x=some (.int k m)) (hy:evl l y=some (.int k p)) {r:Value} (h:∀ w,(binOp b t (.int k m) (.int k p)).run Tryz.prog w=.ok r w):RT o l L n r:=fun a w F M=>bin_run F ho hx hy (h w)
theorem rt_add {t ty:TypeId} {x y:Operand} (ho:o.op=.binOp .add t x y ty) {m p:Int} (hx:evl l x=some (.int .i64 m)) (hy:evl l y=some (.int .i64 p)) (h1:-9223372036854775808≤m+p) (h2:m+p≤9223372036854775807):RT o l L n (.int .i64 (m+p)) :=
  rt_bin ho hx hy fun w=>by simp[binOp,Op.intArith,IntWalk.i64_in _ ⟨h1,h2⟩]
theorem rt_sub {t ty:TypeId} {x y:Operand} (ho:o.op=.binOp .sub t x y ty) {m p:Int} (hx:evl l x=some (.int .i64 m)) (hy:evl l y=some (.int .i64 p)) (h1:-9223372036854775808≤m - p) (h2:m - p≤9223372036854775807):RT o l L n (.int .i64 (m - p)) :=
  rt_bin ho hx hy fun w=>by simp[binOp,Op.intArith,IntWalk.i64_in _ ⟨h1,h2⟩]
theorem rt_mul {t ty:TypeId} {x y:Operand} (ho:o.op=.binOp .mul t x y ty) {m p:Int} (hx:evl l x=some (.int .i64 m)) (hy:evl l y=some (.int .i64 p)) (h1:-9223372036854775808≤m*p) (h2:m*p≤9223372036854775807):RT o l L n (.int .i64 (m*p)) :=
  rt_bin ho hx hy fun w=>by simp[binOp,Op.intArith,IntWalk.i64_in _ ⟨h1,h2⟩]
theorem rt_addu {t ty:TypeId} {x y:Operand} (ho:o.op=.binOp .add t x y ty) {m p:Int} (hx:evl l x=some (.int .u64 m)) (hy:evl l y=some (.int .u64 p)) (h1:0≤m+p) (h2:m+p≤18446744073709551615):RT o l L n (.int .u64 (m+p)) :=
  rt_bin ho hx hy fun w=>by simp[binOp,Op.intArith,u64_in h1 h2]
theorem rt_subu {t ty:TypeId} {x y:Operand} (ho:o.op=.binOp .sub t x y ty) {m p:Int} (hx:evl l x=some (.int .u64 m)) (hy:evl l y=some (.int .u64 p)) (h1:0≤m - p) (h2:m - p≤18446744073709551615):RT o l L n (.int .u64 (m - p)) :=
  rt_bin ho hx hy fun w=>by simp[binOp,Op.intArith,u64_in h1 h2]
def arithR:BinOp→Int→Int→Option Int
  | .add,m,p=>some (m+p)
  | .sub,m,p=>some (m - p)
  | .mul,m,p=>some (m*p)
  | _,_,_=>none
theorem rt_arith {b:BinOp} {t ty:TypeId} {x y:Operand} (ho:o.op=.binOp b t x y ty) {k:IntKind} {m p:Int} (hx:evl l x=some (.int k m)) (hy:evl l y=some (.int k p)) {r:Int} (hr:arithR b m p=some r):RT o l L n (.int k (k.wrap r)) :=
  rt_bin ho hx hy fun w=>by cases b<;>simp[arithR] at hr<;>subst hr<;>simp[binOp,Op.intArith]
theorem rt_quo {t ty:TypeId} {x y:Operand} (ho:o.op=.binOp .quo t x y ty) {k:IntKind} {m p:Int} (hx:evl l x=some (.int k m)) (hy:evl l y=some (.int k p)) (h0:0≤m) (h1:0<p) (hk:k.wrap (m / p)=m / p):RT o l L n (.int k (m / p)) :=
  rt_bin ho hx hy fun w=>by
    have:¬p=0:=by omega
    simp[binOp,Op.intDiv,this,Int.tdiv_eq_ediv_of_nonneg h0,hk]
theorem rt_rem {t ty:TypeId} {x y:Operand} (ho:o.op=.binOp .rem t x y ty) {k:IntKind} {m p:Int} (hx:evl l x=some (.int k m)) (hy:evl l y=some (.int k p)) (h0:0≤m) (h1:0<p):RT o l L n (.int k (m % p)) :=
  rt_bin ho hx hy fun w=>by
    have:¬p=0:=by omega
    simp[binOp,Op.intDiv,this,Int.tmod_eq_emod_of_nonneg h0]
theorem rt_eql {t ty:TypeId} {x y:Operand} (ho:o.op=.binOp .eql t x y ty) {xs ys:List Value} (hx:evl l x=some (.agg xs.toArray)) (hy:evl l y=some (.agg ys.toArray)) {ks:List Sc} (he:EQ t ks) {r:Bool} (hr:cellsEq ks xs ys=some r):RT o l L n (.bool r):=fun a w F M=>by
  have:=@eq_run o a w n l F t ty x y false ho xs ys hx hy ks he r hr
  rw[Bool.false_xor] at this;exact this
theorem rt_neq {t ty:TypeId} {x y:Operand} (ho:o.op=.binOp .neq t x y ty) {xs ys:List Value} (hx:evl l x=some (.agg xs.toArray)) (hy:evl l y=some (.agg ys.toArray)) {ks:List Sc} (he:EQ t ks) {r:Bool} (hr:cellsEq ks xs ys=some r):RT o l L n (.bool (!r)):=fun a w F M=>by
  have:=@eq_run o a w n l F t ty x y true ho xs ys hx hy ks he r hr
  rw[Bool.true_xor] at this;exact this
theorem rt_eql1 {t ty:TypeId} {x y:Operand} (ho:o.op=.binOp .eql t x y ty) {xs:List Value} (hx:evl l x=some (.agg xs.toArray)) (hy:evl l y=some (.agg xs.toArray)) {ks:List Sc} (he:EQ t ks) {r:Bool} (hr:cellsEq ks xs xs=some r):RT o l L n (.bool true):=by
  have:=rt_eql (L:=L) (n:=n) ho hx hy he hr
  rw[cellsEq_refl hr] at this;exact this
theorem rt_neq1 {t ty:TypeId} {x y:Operand} (ho:o.op=.binOp .neq t x y ty) {xs:List Value} (hx:evl l x=some (.agg xs.toArray)) (hy:evl l y=some (.agg xs.toArray)) {ks:List Sc} (he:EQ t ks) {r:Bool} (hr:cellsEq ks xs xs=some r):RT o l L n (.bool false):=by
  have:=rt_neq (L:=L) (n:=n) ho hx hy he hr
  rw[cellsEq_refl hr] at this;exact this
theorem rt_eqb {t ty:TypeId} {x y:Operand} (ho:o.op=.binOp .eql t x y ty) {b c:Bool} (hx:evl l x=some (.bool b)) (hy:evl l y=some (.bool c)) (ht:BT t):RT o l L n (.bool (b == c)):=fun a w F M=>by
  unfold execOp
  rw[ho]
  simp[F.eval hx,F.eval hy,eqGuard,binOp,Op.equal,Op.maxDepth,run_equalIn_bool' w 9999 t b c ht.k]
theorem rt_neb {t ty:TypeId} {x y:Operand} (ho:o.op=.binOp .neq t x y ty) {b c:Bool} (hx:evl l x=some (.bool b)) (hy:evl l y=some (.bool c)) (ht:BT t):RT o l L n (.bool (!(b == c))):=fun a w F M=>by
  unfold execOp
  rw[ho]
  simp[F.eval hx,F.eval hy,eqGuard,binOp,Op.equal,Op.maxDepth,run_equalIn_bool' w 9999 t b c ht.k]
theorem rt_indexA {t:TypeId} {x y:Operand} (ho:o.op=.indexAddr t x y) {b i:Nat} (hx:evl l x=some (.pointer (some ⟨b,i,none⟩))) {k:IntKind} {j:Int} (hy:evl l y=some (.int k j)) {len e size:Nat} (ht:AT t len e size) (h0:0≤j) (h1:j<len) {p:Nat} (hp:i+j.toNat*size=p):RT o l L n (.pointer (some ⟨b,p,none⟩)):=fun a w F M=>by
  subst hp
  obtain ⟨hu,hs⟩:=ht.k
  unfold execOp
  rw[ho]
  cases hi:Tryz.prog.info? e with
  | none=>rw[hi] at hs;cases hs
  | some ie =>
    rw[hi] at hs
    have hs:=Option.some.inj hs
    simp[F.eval hx,F.eval hy,Instr.indexAt,asIntOf,run_underlying hu w,Instr.sureAddr,h0,h1,sizeOf,typeInfo,hi,hs,add0]
theorem rt_indexS {t:TypeId} {x y:Operand} (ho:o.op=.indexAddr t x y) {b i len cap:Nat} (hx:evl l x=some (.slice (some ⟨b,i,none⟩) len cap)) {k:IntKind} {j:Int} (hy:evl l y=some (.int k j)) {e:TypeId} {z:Value} {size bytes:Nat} (ht:ST t e z size bytes) (h0:0≤j) (h1:j<len) {p:Nat} (hp:i+j.toNat*size=p):RT o l L n (.pointer (some ⟨b,p,none⟩)):=fun a w F M=>by
  subst hp
  obtain ⟨hu,hs,_⟩:=ht.k
  unfold execOp
  rw[ho]
  cases hi:Tryz.prog.info? e with
  | none=>rw[hi] at hs;cases hs
  | some ie =>
    rw[hi] at hs
    have hs:=Option.some.inj hs
    simp only[Prod.mk.injEq] at hs
    simp[F.eval hx,F.eval hy,Instr.indexAt,asIntOf,run_underlying hu w,h0,h1,sizeOf,typeInfo,hi,hs.2.1,add0]
theorem rt_lenS {x:Operand} {ats:Array TypeId} {t:TypeId} (ho:o.op=.call {callee:=.builtin .len,args:=#[x],argTypes:=ats}) (hat:ats = #[t]) {p:Option Addr} {m c:Nat} (hx:evl l x=some (.slice p m c)) {e:TypeId} {z:Value} {size bytes:Nat} (ht:ST t e z size bytes):RT o l L n (.int .i64 m):=fun a w F M=>by
  unfold execOp
  rw[ho]
  subst hat
  simp[resolve,invoke,builtin,Builtin.len_,F.eval hx,run_underlying ht.k.1 w,goInt]
theorem rt_lenT {x:Operand} {ats:Array TypeId} {t:TypeId} (ho:o.op=.call {callee:=.builtin .len,args:=#[x],argTypes:=ats}) (hat:ats = #[t]) {s:ByteArray} (hx:evl l x=some (.string s)) (ht:Tryz.prog.underlying t=some .string):RT o l L n (.int .i64 s.size):=fun a w F M=>by
  unfold execOp
  rw[ho]
  subst hat
  simp[resolve,invoke,builtin,Builtin.len_,F.eval hx,run_underlying ht w,goInt]
def minL (k:IntKind):Int→List Value→Option Int
  | x,[]=>some x
  | x,.int k' y::r=>if k=k' then minL k (if y<x then y else x) r else none
  | _,_=>none
def maxL (k:IntKind):Int→List Value→Option Int
  | x,[]=>some x
  | x,.int k' y::r=>if k=k' then maxL k (if y>x then y else x) r else none
  | _,_=>none
theorem minL_run (k:IntKind) (w:World):∀ (vs:List Value) (x r:Int),minL k x vs=some r→(vs.foldlM Builtin.min2 (.int k x)).run Tryz.prog w=.ok (.int k r) w
  | [],x,r,h=>by simp[minL] at h;subst h;simp
  | v::vs,x,r,h=>by
    cases v<;>simp[minL] at h
    rename_i k' y
    obtain ⟨rfl,h⟩:=h
    have:=minL_run k w vs _ r h
    simp only[List.foldlM_cons,Sem.run_bind,Builtin.min2,Sem.run_pure,Result.andThen_ok]
    exact this
theorem maxL_run (k:IntKind) (w:World):∀ (vs:List Value) (x r:Int),maxL k x vs=some r→(vs.foldlM Builtin.max2 (.int k x)).run Tryz.prog w=.ok (.int k r) w
  | [],x,r,h=>by simp[maxL] at h;subst h;simp
  | v::vs,x,r,h=>by
    cases v<;>simp[maxL] at h
    rename_i k' y
    obtain ⟨rfl,h⟩:=h
    have:=maxL_run k w vs _ r h
    simp only[List.foldlM_cons,Sem.run_bind,Builtin.max2,Sem.run_pure,Result.andThen_ok]
    exact this
theorem rt_min {xs:Array Operand} {ats:Array TypeId} (ho:o.op=.call {callee:=.builtin .min,args:=xs,argTypes:=ats}) {k:IntKind} {x:Int} {vs:List Value} (hx:evls l xs.toList=some (.int k x::vs)) {r:Int} (hr:minL k x vs=some r):RT o l L n (.int k r):=fun a w F M=>by
  unfold execOp
  rw[ho]
  have e1:xs.map a.eval=(Value.int k x::vs).toArray:=by have:=F.evals hx;apply Array.toList_inj.1;simpa using this
  simp[resolve,invoke,builtin,Builtin.min_,e1,minL_run k w vs x r hr]
theorem rt_max {xs:Array Operand} {ats:Array TypeId} (ho:o.op=.call {callee:=.builtin .max,args:=xs,argTypes:=ats}) {k:IntKind} {x:Int} {vs:List Value} (hx:evls l xs.toList=some (.int k x::vs)) {r:Int} (hr:maxL k x vs=some r):RT o l L n (.int k r):=fun a w F M=>by
  unfold execOp
  rw[ho]
  have e1:xs.map a.eval=(Value.int k x::vs).toArray:=by have:=F.evals hx;apply Array.toList_inj.1;simpa using this
  simp[resolve,invoke,builtin,Builtin.max_,e1,maxL_run k w vs x r hr]
theorem rt_conv {s t:TypeId} {x:Operand} (ho:o.op=.convert s t x) {k k':IntKind} {m:Int} (hx:evl l x=some (.int k' m)) (hs:IK s k') (ht:IK t k) {r:Int} (hr:k.wrap m=r):RT o l L n (.int k r):=fun a w F M=>by
  subst hr
  unfold execOp
  rw[ho]
  simp[F.eval hx,convert,run_underlying hs.k w,run_underlying ht.k w,Conv.intToInt]
def setN:List Value→Nat→Value→Option (List Value)
  | [],_,_=>none
  | _::cs,0,v=>some (v::cs)
  | c::cs,i+1,v=>match setN cs i v with|some r=>some (c::r)|none=>none
theorem setN_spec:∀ (cs:List Value) (i:Nat) (v:Value) {r:List Value},setN cs i v=some r→cs.set i v=r∧(cs[i]?).isSome=true
  | [],_,_,r,h=>by simp[setN] at h
  | c::cs,0,v,r,h=>by simp[setN] at h;subst h;simp
  | c::cs,i+1,v,r,h=>by
    simp only[setN] at h
    split at h
    · rename_i r' hr
      obtain rfl:=Option.some.inj h
      have:=setN_spec cs i v hr
      simpa using this
    · cases h
def putN:List Value→Nat→List Value→Option (List Value)
  | cs,0,[]=>some cs
  | _::cs,0,v::vs=>match putN cs 0 vs with|some r=>some (v::r)|none=>none
  | c::cs,i+1,vs=>match putN cs i vs with|some r=>some (c::r)|none=>none
  | [],_,_=>none
theorem putN_spec:∀ (cs:List Value) (i:Nat) (vs:List Value) {r:List Value},putN cs i vs=some r→cs.take i++vs++cs.drop (i+vs.length)=r∧i+vs.length≤cs.length
  | cs,0,[],r,h=>by simp[putN] at h;subst h;simp
  | c::cs,0,v::vs,r,h=>by
    simp only[putN] at h
    split at h
    · rename_i r' hr
      obtain rfl:=Option.some.inj h
      have:=putN_spec cs 0 vs hr
      simp only[List.take_zero,List.nil_append,Nat.zero_add] at this ⊢
      refine⟨?_,by simp;omega⟩
      simp[this.1]
    · cases h
  | c::cs,i+1,vs,r,h=>by
    simp only[putN] at h
    split at h
    · rename_i r' hr
      obtain rfl:=Option.some.inj h
      have:=putN_spec cs i vs hr
      refine⟨?_,by simp;omega⟩
      rw[show i+1+vs.length=(i+vs.length)+1 by omega]
      simp[← this.1]
    · cases h
  | [],0,v::vs,r,h=>by simp[putN] at h
  | [],i+1,vs,r,h=>by simp[putN] at h
def setMany:List Value→Nat→List Value→List Value
  | cs,_,[]=>cs
  | cs,off,v::vs=>setMany (cs.set off v) (off+1) vs
theorem setMany_eq:∀ (vs cs:List Value) (off:Nat),off+vs.length≤cs.length→setMany cs off vs=cs.take off++vs++cs.drop (off+vs.length)
  | [],cs,off,_=>by simp[setMany]
  | v::vs,cs,off,h=>by
    simp only[List.length_cons] at h
    rw[setMany,setMany_eq vs (cs.set off v) (off+1) (by simp;omega)]
    have h1:(cs.set off v).take (off+1)=cs.take off++[v]:=by
      have hlt:off<cs.length:=by omega
      rw[List.take_succ_eq_append_getElem (by simpa using hlt),List.take_set_of_le (Nat.le_refl off)]
      simp
    have h2:(cs.set off v).drop (off+1+vs.length)=cs.drop (off+(v::vs).length):=by
      rw[List.drop_set_of_lt (by omega)]
      simp only[List.length_cons]
      congr 1
      omega
    rw[h1,h2]
    simp
theorem fold_set (off:Nat):∀ (vs:List Value) (k:Nat) (cells:Array Value),((vs.zipIdx k).foldl (fun cs x=>cs.setIfInBounds (off+x.2) x.1) cells).toList=setMany cells.toList (off+k) vs
  | [],k,cells=>by simp[setMany]
  | v::vs,k,cells=>by
    rw[List.zipIdx_cons,List.foldl_cons,fold_set off vs (k+1),setMany]
    simp[Nat.add_assoc]
def fillN (ps:List (Nat × Nat)):List Value→List (Nat × List Value)→Option (List Value)
  | zs,[]=>some zs
  | zs,(i,vs)::r=>match ps[i]? with
    | some (off,size)=>match Nat.beq vs.length size with
      | true=>match putN zs off vs with
        | some zs'=>fillN ps zs' r
        | none=>none
      | false=>none
    | none=>none
theorem fillN_run (ps:List (Nat × Nat)):∀ (parts:List (Nat × Value)) (zs cs:List Value),fillN ps zs (parts.map fun p=>(p.1,p.2.cells.toList))=some cs→Instr.fill (fun i=>ps[i]?) zs.toArray parts=some cs.toArray
  | [],zs,cs,h=>by simp[fillN] at h;simp[Instr.fill,h]
  | (i,v)::r,zs,cs,h=>by
    simp only[List.map_cons,fillN] at h
    unfold Instr.fill
    cases hp:ps[i]? with
    | none=>rw[hp] at h;cases h
    | some q =>
      obtain ⟨off,size⟩:=q
      rw[hp] at h
      simp only at h ⊢
      cases hb:Nat.beq v.cells.toList.length size with
      | false=>rw[hb] at h;cases h
      | true =>
        rw[hb] at h
        simp only at h
        have hsz:v.cells.size=size:=by simpa using Nat.eq_of_beq_eq_true hb
        cases hq:putN zs off v.cells.toList with
        | none=>rw[hq] at h;cases h
        | some zs' =>
          rw[hq] at h
          simp only at h
          obtain ⟨h1,h2⟩:=putN_spec zs off _ hq
          have hle:off+v.cells.size≤zs.length:=by simpa using h2
          have hcond:¬((decide (v.cells.size≠size) || decide (off+v.cells.size>zs.toArray.size))=true):=by
            simp[hsz]
            rw[hsz] at hle;omega
          rw[if_neg hcond]
          have hfold:(v.cells.zipIdx.foldl (fun cs x=>cs.setIfInBounds (off+x.2) x.1) zs.toArray)=zs'.toArray:=by
            apply Array.toList_inj.1
            rw[← Array.foldl_toList,Array.toList_zipIdx]
            have:=fold_set off v.cells.toList 0 zs.toArray
            simp only[Nat.add_zero] at this
            rw[this,setMany_eq _ _ _ (by simpa using hle)]
            simpa using h1
          have:=fillN_run ps r zs' cs h
          rw[← this]
          congr 1
def partL:Value→List Value
  | .agg cs=>cs.toList
  | v=>[v]
theorem partL_eq (v:Value):v.cells.toList=partL v:=by cases v<;>rfl
def evps (l:List (Nat × Value)):List (Nat × Operand)→Option (List (Nat × Value))
  | []=>some []
  | (i,x)::r=>match evl l x,evps l r with
    | some v,some vs=>some ((i,v)::vs)
    | _,_=>none
theorem Fr.evps (F:Fr a n l):∀ {xs:List (Nat × Operand)} {vs:List (Nat × Value)},Go.Proofs.YtjbfcacmdahnhaaGreat.evps l xs=some vs→xs.map (fun p=>(p.1,a.eval p.2))=vs
  | [],vs,h=>by simp[Go.Proofs.YtjbfcacmdahnhaaGreat.evps] at h;simp[h]
  | (i,x)::r,vs,h=>by
    simp only[Go.Proofs.YtjbfcacmdahnhaaGreat.evps] at h
    split at h
    · rename_i v us h1 h2
      obtain rfl:=Option.some.inj h
      simp[F.eval h1,F.evps h2]
    · cases h
def partsL:List (Nat × Value)→List (Nat × List Value)
  | []=>[]
  | (i,v)::r=>(i,partL v)::partsL r
theorem partsL_eq:∀ (ps:List (Nat × Value)),ps.map (fun p=>(p.1,p.2.cells.toList))=partsL ps
  | []=>rfl
  | (i,v)::r=>by rw[List.map_cons,partsL,partsL_eq r,partL_eq]
theorem rt_build {t:TypeId} {parts:Array (Nat × Operand)} (ho:o.op=.build t parts) {zs:List Value} (hz:ZT t zs) {ps:List (Nat × Nat)} (hb:BP t ps) {vs:List (Nat × Value)} (hv:evps l parts.toList=some vs) {cs:List Value} (hf:fillN ps zs (partsL vs)=some cs):RT o l L n (.agg cs.toArray):=fun a w F M=>by
  have hbk:=hb.k
  have h1:=hz.k
  cases hu:Tryz.prog.underlying t with
  | none=>rw[hu] at hbk;cases hbk
  | some d =>
    rw[hu] at hbk
    cases d with
    | struct fs =>
      simp only at hbk
      cases hi:Tryz.prog.info? t with
      | none=>rw[hi] at h1;cases h1
      | some i =>
        rw[hi] at h1
        have h2:i.zero.map Value.cells=some zs.toArray:=Option.some.inj h1
        cases hzz:i.zero with
        | none=>rw[hzz] at h2;cases h2
        | some z =>
          rw[hzz] at h2
          have h3:z.cells=zs.toArray:=Option.some.inj h2
          have hplaces:(fs.mapM fun f=>do pure (f.offset,← sizeOf f.type):Sem (Array (Nat × Nat))).run Tryz.prog w=.ok ps.toArray w:=by
            have:∀ (fl:List Field) (ps:List (Nat × Nat)),fl.mapM (fun f=>(Tryz.prog.info? f.type).map fun i=>(f.offset,i.size))=some ps→(fl.mapM fun f=>do pure (f.offset,← sizeOf f.type):Sem (List (Nat × Nat))).run Tryz.prog w=.ok ps w:=by
              intro fl
              induction fl with
              | nil=>intro ps h;simp at h;subst h;simp
              | cons f fl ih =>
                intro ps h
                rw[List.mapM_cons] at h
                simp only[bind,Option.bind_eq_some_iff,pure,Option.some.injEq] at h
                obtain ⟨p,h1,ps',h2,rfl⟩:=h
                cases hfi:Tryz.prog.info? f.type with
                | none=>rw[hfi] at h1;cases h1
                | some fi =>
                  rw[hfi] at h1
                  obtain rfl:=Option.some.inj h1
                  rw[List.mapM_cons]
                  have hs:(sizeOf f.type).run Tryz.prog w=.ok fi.size w:=by simp[sizeOf,typeInfo,hfi]
                  simp only[Sem.run_bind,hs,Result.andThen_ok,Sem.run_pure,ih ps' h2]
            have h:=this fs.toList ps hbk
            have e:fs=fs.toList.toArray:=by simp
            rw[e,List.mapM_toArray,Sem.run_map]
            rw[h];rfl
          have hparts:(parts.map fun x=>(x.1,a.eval x.2)).toList=vs:=by have:=F.evps hv;simpa using this
          unfold execOp
          rw[ho]
          have hfill:=fillN_run ps vs zs cs (by rw[partsL_eq];exact hf)
          have hps:(fun (i:Nat)=>ps.toArray[i]?)=fun (i:Nat)=>ps[i]?:=by funext i;simp
          have hzero:(zeroValue t).run Tryz.prog w=.ok z w:=by simp[zeroValue,typeInfo,hi,hzz]
          simp only[Instr.build,Sem.run_bind,hzero,run_underlying hu w,Result.andThen_ok,hplaces,h3,hparts,hps,hfill,Sem.run_pure]
    | _=>simp at hbk
variable {C:Value→List Asn→Prop}
theorem ac_boxA {t:TypeId} {x:Operand} (ho:o.op=.box t x) {cs:List Value} (hx:evl l x=some (.agg cs.toArray)) (h:∀ b,C (.pointer (some ⟨b,0,none⟩)) (pt b cs t::L)):AC o l L n C:=fun G a w F M=>by
  have:(execOp a.eval o).run Tryz.prog w=.ok (.value (.pointer (some ⟨w.heap.size,0,none⟩))) (w.alloc (.cells cs.toArray t)):=by
    unfold execOp
    rw[ho]
    simp[F.eval hx,Instr.box,newVar,newRow,newObj,Sem.run,Value.cells]
  rw[this]
  exact⟨_,h _,M.alloc cs t⟩
theorem ac_box {t:TypeId} {x:Operand} (ho:o.op=.box t x) {v:Value} (hx:evl l x=some v) (hv:v.oneCell'=true) (h:∀ b,C (.pointer (some ⟨b,0,none⟩)) (pt b [v] t::L)):AC o l L n C:=fun G a w F M=>by
  have h1:v.cells = #[v]:=by cases v<;>simp_all [Value.oneCell',Value.cells]
  have:(execOp a.eval o).run Tryz.prog w=.ok (.value (.pointer (some ⟨w.heap.size,0,none⟩))) (w.alloc (.cells [v].toArray t)):=by
    unfold execOp
    rw[ho]
    simp[F.eval hx,Instr.box,newVar,newRow,newObj,Sem.run,h1]
  rw[this]
  exact⟨_,h _,M.alloc [v] t⟩
theorem ac_alloc {t:TypeId} (ho:o.op=.alloc t) {cs:List Value} (hz:ZT t cs) (h:∀ b,C (.pointer (some ⟨b,0,none⟩)) (pt b cs t::L)):AC o l L n C:=fun G a w F M=>by
  obtain ⟨i,z,hi,hzz,h3⟩:=zero_run hz
  have:(execOp a.eval o).run Tryz.prog w=.ok (.value (.pointer (some ⟨w.heap.size,0,none⟩))) (w.alloc (.cells cs.toArray t)):=by
    unfold execOp
    rw[ho]
    simp[Instr.alloc,zeroValue,typeInfo,hi,hzz,newVar,newRow,newObj,Sem.run,h3]
  rw[this]
  exact⟨_,h _,M.alloc cs t⟩
theorem ac_store {t:TypeId} {x y:Operand} (ho:o.op=.store t x y) {b i:Nat} (hx:evl l x=some (.pointer (some ⟨b,i,none⟩))) (hkt:KT t none) {v:Value} (hy:evl l y=some v) (hv:v.oneCell'=true)
    {L2:List Asn} {cs cs':List Value} {t':TypeId} (hp:Rep L (pt b cs t') (pt b cs' t') L2) (hs:setN cs i v=some cs') (h:C undef L2):AC o l L n C:=fun G a w F M=>by
  obtain ⟨L',h1,_⟩:=hp.both
  obtain ⟨hs1,hs2⟩:=setN_spec cs i v hs
  subst hs1
  obtain ⟨u,hu⟩:=Option.isSome_iff_exists.1 hs2
  have h2:=cell_pt M (h1.app G) hu
  have h3:=free_pt (i:=i) M (h1.app G)
  have:(execOp a.eval o).run Tryz.prog w=.ok .skip (w.setCell ⟨b,i,none⟩ v):=by
    unfold execOp
    rw[ho]
    simp[F.eval hx,F.eval hy,Instr.storeAt,Instr.sureAddr,run_storeVar_one h2 h3 hv]
  rw[this]
  refine⟨L2,h,?_⟩
  rw[setCell_row (M.pt (h1.app G))]
  exact M.setRow (hp.app G)
theorem ac_storeA {t:TypeId} {x y:Operand} (ho:o.op=.store t x y) {b i:Nat} (hx:evl l x=some (.pointer (some ⟨b,i,none⟩))) {k:Nat} (hkt:KT t (some k)) {vs:List Value} (hy:evl l y=some (.agg vs.toArray)) (hk:vs.length=k) (hv:vs.all (·.oneCell')=true)
    {L2:List Asn} {cs cs':List Value} {t':TypeId} (hp:Rep L (pt b cs t') (pt b cs' t') L2) (hs:putN cs i vs=some cs') (h:C undef L2):AC o l L n C:=fun G a w F M=>by
  obtain ⟨L',h1,_⟩:=hp.both
  obtain ⟨hs1,hle⟩:=putN_spec cs i vs hs
  subst hs1
  have h2:=M.pt (h1.app G)
  have h3:=run_storeCells_at (P:=Tryz.prog) b i t' vs 0 cs.toArray w h2 (by simp;omega) (all_one hv)
  simp only[Nat.add_zero] at h3
  have hsz:(Value.agg vs.toArray).cells.size=k:=by simp[Value.cells,hk]
  have:(execOp a.eval o).run Tryz.prog w=.ok .skip (w.setRow b (cs.take i++vs++cs.drop (i+vs.length)).toArray):=by
    unfold execOp
    rw[ho]
    simp only[F.eval hx,F.eval hy,Instr.storeAt,Instr.sureAddr,storeVar,Sem.run_bind,Sem.run_pure,Result.andThen_ok,(run_isAgg (t:=t) w).2,hsz]
    simp[Value.cells,h3]
  rw[this]
  exact⟨L2,h,M.setRow (hp.app G)⟩
theorem ac_storeW {t:TypeId} {x y:Operand} (ho:o.op=.store t x y) {b:Nat} (hx:evl l x=some (.pointer (some ⟨b,0,none⟩))) {k:Nat} (hkt:KT t (some k)) {vs:List Value} (hy:evl l y=some (.agg vs.toArray)) (hk:vs.length=k) (hv:vs.all (·.oneCell')=true)
    {L2:List Asn} {cs:List Value} {t':TypeId} (hp:Rep L (pt b cs t') (pt b vs t') L2) (hc:Nat.beq cs.length k=true) (h:C undef L2):AC o l L n C:=fun G a w F M=>by
  obtain ⟨L',h1,_⟩:=hp.both
  have hc':cs.length=k:=Nat.eq_of_beq_eq_true hc
  have h2:=M.pt (h1.app G)
  have h3:=run_storeCells_at (P:=Tryz.prog) b 0 t' vs 0 cs.toArray w h2 (by simp;omega) (all_one hv)
  have e1:cs.toArray.toList.take (0+0)++vs++cs.toArray.toList.drop (0+0+vs.length)=vs:=by simp[hk,hc']
  rw[e1] at h3
  have hsz:(Value.agg vs.toArray).cells.size=k:=by simp[Value.cells,hk]
  have:(execOp a.eval o).run Tryz.prog w=.ok .skip (w.setRow b vs.toArray):=by
    unfold execOp
    rw[ho]
    simp only[F.eval hx,F.eval hy,Instr.storeAt,Instr.sureAddr,storeVar,Sem.run_bind,Sem.run_pure,Result.andThen_ok,(run_isAgg (t:=t) w).2,hsz]
    simp[Value.cells,h3]
  rw[this]
  exact⟨L2,h,M.setRow (hp.app G)⟩
theorem ac_call {f:Operand} {xs:Array Operand} {ats:Array TypeId} (ho:o.op=.call {callee:=.value f,args:=xs,argTypes:=ats}) {k:FuncId} {caps:Array Value} (hf:evl l f=some (.func (.func k) #[] caps)) (hfk:FK k)
    {vs us:List Value} (hx:evls l xs.toList=some vs) (hu:vs++caps.toList=us) (hs:Spec k us L C):AC o l L n C:=fun G a w F M=>by
  have e1:xs.map a.eval=vs.toArray:=by have:=F.evals hx;apply Array.toList_inj.1;simpa using this
  have hrun:(execOp a.eval o).run Tryz.prog w=.ok (.enter k us.toArray) w:=by
    unfold execOp
    rw[ho]
    rw[Sem.run_bind]
    simp only[resolve,F.eval hf,Deferred.ofValue,Sem.run_pure,Result.andThen_ok,invoke,e1]
    have:#[]++vs.toArray++caps=us.toArray:=by rw[← hu];simp
    first|rw[this]|(simp only[Array.empty_append] at this ⊢;rw[this])
    exact @run_callFunc k hfk _ w
  rw[hrun]
  exact(hs G w M).mono fun e w' ⟨v,L',he,hc,hm⟩=>⟨v,he,L',hc,hm⟩
def Gives (L:List Asn) (φ:World→Prop):Prop:=∀ w,Mem w L→φ w
theorem rt_loadg {t:TypeId} {x:Operand} (ho:o.op=.load t x) {b i:Nat} (hx:evl l x=some (.pointer (some ⟨b,i,none⟩))) (hkt:KT t none) {v:Value} (hg:Gives L fun w=>w.cell? ⟨b,i,none⟩=some v):RT o l L n v:=fun a w F M=>by
  unfold execOp
  rw[ho]
  simp[F.eval hx,Instr.loadAt,Instr.sureAddr,run_loadVar_one (hg w M)]
theorem rt_loadgA {t:TypeId} {x:Operand} (ho:o.op=.load t x) {b i:Nat} (hx:evl l x=some (.pointer (some ⟨b,i,none⟩))) {k:Nat} (hkt:KT t (some k)) {cs:List Value} (hk:cs.length=k) (hg:Gives L fun w=>∀ j u,cs[j]? = some u→w.cell? ⟨b,i+j,none⟩=some u):RT o l L n (.agg cs.toArray):=fun a w F M=>by
  unfold execOp
  rw[ho]
  simp[F.eval hx,Instr.loadAt,Instr.sureAddr,run_loadVar_agg hk (hg w M)]
theorem Old.slr {w0:World} {size m:Nat} {v:Value} {xs:List Value} (h:SlR w0 size v m xs) {L':List Asn} (hp:Pull L (Old w0) L'):Gives L fun w=>SlR w size v m xs:=fun w M=>h.below_all (M.below hp)
def own (e:TypeId) (size:Nat) (v:Value) (m:Nat) (xs:List Value):Asn:=fun s w=>xs.length=m*size ∧
  ((v=.slice none 0 0∧m=0∧s=[])∨∃ g cap cur,v=.slice (some ⟨g,0,none⟩) m cap∧s=[g]∧w.heap[g]? = some (.cells cur e (0,0))∧m≤cap∧cap≤maxLen∧cur.size=cap*size∧cur.toList.take (m*size)=xs)
theorem own_slr {e:TypeId} {size:Nat} {v:Value} {m:Nat} {xs:List Value} {s:List Nat} (h:own e size v m xs s w):SlR w size v m xs:=by
  refine⟨h.1,?_⟩
  rcases h.2 with⟨h0,h1,_⟩|⟨g,cap,cur,rfl,_,hg,hn,hc,hs,ht⟩
  · exact .inl ⟨⟨_,_,h0⟩,h1⟩
  · refine .inr ⟨g,0,cap,rfl,(Array.getElem?_eq_some_iff.1 hg).1,by omega,fun j u hu=>?_⟩
    have h1:cur[j]? = some u:=by
      rw[← ht,List.getElem?_take] at hu
      split at hu
      · simpa using hu
      · cases hu
    simp[World.cell?,hg,h1]
theorem gives_own {e:TypeId} {size:Nat} {v:Value} {m:Nat} {xs:List Value} {L':List Asn} (hp:Pull L (own e size v m xs) L'):Gives L fun w=>SlR w size v m xs:=fun w M=>by
  obtain ⟨s,hs,_⟩:=(M.pull hp).head
  exact own_slr hs
theorem ok_own {e:TypeId} {size:Nat} {g cap m:Nat} {cur:Array Value} {xs:List Value} (hx:xs.length=m*size) (hg:w.heap[g]? = some (.cells cur e (0,0))) (hm:m≤cap) (hc:cap≤maxLen) (hs:cur.size=cap*size) (ht:cur.toList.take (m*size)=xs):Ok (own e size (.slice (some ⟨g,0,none⟩) m cap) m xs) [g] w :=
  ⟨fun b hb => by obtain rfl : b = g := by simpa using hb
                  exact(Array.getElem?_eq_some_iff.1 hg).1,
   fun w' hw=>⟨hx,.inr ⟨g,cap,cur,rfl,rfl,by rw[hw.2.2.2 g (by simp)];exact hg,hm,hc,hs,ht⟩⟩⟩
theorem ok_own_nil {e:TypeId} {size:Nat}:Ok (own e size (.slice none 0 0) 0 []) [] w:=⟨by simp,fun w' hw=>⟨by simp,.inl ⟨rfl,rfl,rfl⟩⟩⟩
theorem Mem.own_nil {L:List Asn} (M:Mem w L) (e:TypeId) (size:Nat):Mem w (own e size (.slice none 0 0) 0 []::L):=M.new ⟨rfl,rfl,rfl,Nat.le_refl _,fun _ _ _=>rfl⟩ ⟨[],ok_own_nil,by simp⟩
theorem Mem.own_pt {L:List Asn} {b:Nat} {cs:List Value} {e:TypeId} (M:Mem w (Go.Proofs.YtjbfcacmdahnhaaGreat.pt b cs e::L)) {size m:Nat} (hl:cs.length=m*size) (hm:m≤maxLen):Mem w (own e size (.slice (some ⟨b,0,none⟩) m m) m cs::L) :=
  M.imp fun s w' ⟨h1,h2⟩=>⟨hl,.inr ⟨b,m,_,rfl,h1,h2,Nat.le_refl _,hm,by simp[hl],by simp[← hl]⟩⟩
theorem st_info {t e:TypeId} {z:Value} {size bytes:Nat} (ht:ST t e z size bytes):∃ i,Tryz.prog.underlying t=some (.slice e)∧Tryz.prog.info? e=some i∧i.zero=some z∧i.size=size∧i.bytes=bytes∧z.cells.size=size∧0<size:=by
  obtain ⟨h1,h2,h3⟩:=ht.k
  cases hi:Tryz.prog.info? e with
  | none=>rw[hi] at h2;cases h2
  | some i =>
    rw[hi] at h2
    have h2:=Option.some.inj h2
    simp only[Prod.mk.injEq] at h2
    simp only[Bool.and_eq_true,beq_iff_eq] at h3
    exact⟨i,h1,rfl,h2.1,h2.2.1,h2.2.2,h3.1,Nat.le_of_ble_eq_true h3.2⟩
theorem append_run {t ty e:TypeId} {z:Value} {size bytes:Nat} (ht:ST t e z size bytes) {v:Value} {m:Nat} {xs:List Value} {L':List Asn} (M:Mem w (own e size v m xs::L')) {y:Value} {k:Nat} {news:List Value} (hy:SlR w size y k news) (h1:∀ u∈news,u.oneCell'=true)
    (h63:m+k≤maxLen) (hbytes:(m+k)*bytes≤140737488355328):∃ v' w',(Builtin.append_ #[t,t] ty #[v,y]).run Tryz.prog w=.ok v' w'∧Mem w' (own e size v' (m+k) (xs++news)::L'):=by
  obtain ⟨i,hu,hi,hz,hsize,hby,hzs,hsz⟩:=st_info ht
  have h:=ht
  clear ht
  subst hsize
  subst hby
  have hsmall:m+k≤9223372036854775807:=by simp only[maxLen] at h63;omega
  obtain ⟨s,hs,hslt⟩:=M.head
  have hxl:=hs.1
  have hlen:(xs++news).length=(m+k)*i.size:=by rw[List.length_append,hxl,hy.1,Nat.add_mul]
  have grown:∀ (old:Nat),old<m+k→∀ (w1:World),w1=w.drew.alloc (.cells (xs.toArray++news.toArray++Builtin.zeroCells z.cells (grownCap w (m+k) old e - (m+k))) e)→Mem w1 (own e i.size (.slice (some ⟨w.heap.size,0,none⟩) (m+k) (grownCap w (m+k) old e)) (m+k) (xs++news)::L'):=by
    intro old ho w1 hw1
    subst hw1
    have hge:=grownCap_ge w (m+k) old e
    have hcm:grownCap w (m+k) old e≤maxLen:=grownCap_le_maxLen w (m+k) old e h63
    refine M.drop.new ⟨rfl,rfl,rfl,by simp,fun k hk _=>((Below.refl w.drew.heap.size w.drew).alloc (Nat.le_refl _) _).block k hk⟩ ⟨[w.heap.size],ok_own hlen (heap_alloc_new w.drew _) hge hcm ?_ ?_,by simp⟩
    · simp only[Array.size_append,List.size_toArray,size_zeroCells,hzs,hxl,hy.1,← Nat.add_mul]
      congr 1
      omega
    · simp only[Array.toList_append,List.append_assoc]
      rw[← List.append_assoc,← hlen]
      exact List.take_left
  have src:k=0∧news=[]∧(∃ a c,y=.slice a 0 c)∨∃ (a:Addr) (c:Nat),y=.slice (some a) k c∧∀ j u,news[j]? = some u→w.cell? (a.add j)=some u:=by
    rcases hy.parts with⟨⟨ao,c,rfl⟩,rfl,rfl⟩|⟨b,off,c,rfl,_,_,hc⟩
    · exact .inl ⟨rfl,rfl,ao,c,rfl⟩
    · exact .inr ⟨⟨b,off,none⟩,c,rfl,fun j u hu=>by rw[add0];exact hc j u hu⟩
  rcases hs.2 with⟨rfl,rfl,rfl⟩|⟨g,cap,cur,rfl,rfl,hg,hnc,hcm,hcs,htake⟩
  · have hx:xs=[]:=List.eq_nil_of_length_eq_zero (by simpa using hxl)
    subst hx
    by_cases hk:k=0
    · subst hk
      have hn:news=[]:=List.eq_nil_of_length_eq_zero (by simpa using hy.1)
      subst hn
      refine⟨.slice none 0 0,w,?_,M⟩
      obtain ⟨ao,c,rfl⟩:=hy.form
      cases ao<;>simp[Builtin.append_,run_underlying hu,sizeOf,typeInfo,hi,Builtin.lenOf,Builtin.firstCells,loadCells,loadCellsFrom]
    · rcases src with⟨h0,_⟩|⟨a,c,rfl,hnews⟩
      · exact absurd h0 hk
      · have hr:=run_append_nil (P:=Tryz.prog) w t ty e i z hu hi hz a k c news hy.1 hnews (by omega) (by omega) (by have hb:=hbytes;simp only[Nat.zero_add] at hb;omega)
        have hgr:=grown 0 (by omega) _ rfl
        simp only[Nat.zero_add,List.nil_append,Array.empty_append] at hgr ⊢
        exact⟨_,_,hr,hgr⟩
  · rcases src with⟨rfl,rfl,ao,c,rfl⟩|⟨a,c,rfl,hnews⟩
    · refine⟨.slice (some ⟨g,0,none⟩) m cap,w,?_,by simpa using M⟩
      cases ao with
      | none=>simp[Builtin.append_,run_underlying hu,sizeOf,typeInfo,hi,Builtin.lenOf,Builtin.firstCells,hnc,storeCells]
      | some a=>simp[Builtin.append_,run_underlying hu,sizeOf,typeInfo,hi,Builtin.lenOf,Builtin.firstCells,hnc,storeCells,loadCells,loadCellsFrom]
    · by_cases hroom:m+k≤cap
      · have hfit:m*i.size+news.length≤cur.size:=by rw[hy.1,hcs,← Nat.add_mul];exact Nat.mul_le_mul_right _ hroom
        have hr:=run_append_room (P:=Tryz.prog) w t ty e i hu hi g m cap cur hg a k c news hy.1 hnews h1 hroom hfit
        refine⟨_,_,hr,M.change fun s' hs'=>?_⟩
        obtain ⟨_,h2⟩:=hs'.now
        rcases h2 with⟨h2,_⟩|⟨g',cap',cur',h3,rfl,h5,_⟩
        · cases h2
        · have hgg:g'=g:=by cases h3;rfl
          subst hgg
          refine⟨chg_setRow,[g'],ok_own hlen (setRow_heap w g' cur _ e _ hg) hroom hcm ?_ ?_,fun b hb=>.inl hb⟩
          · simp only[List.size_toArray,List.length_append,List.length_take,List.length_drop,Array.length_toList]
            omega
          · rw[htake,← hlen]
            exact List.take_left
      · have holds:∀ j u,xs[j]? = some u→w.cell? ((⟨g,0,none⟩:Addr).add j)=some u:=fun j u hu'=>by
          have h1:cur[j]? = some u:=by
            rw[← htake,List.getElem?_take] at hu'
            split at hu'
            · simpa using hu'
            · cases hu'
          rw[add0]
          simp[World.cell?,hg,h1]
        have hr:=run_append_grow (P:=Tryz.prog) w t ty e i z hu hi hz ⟨g,0,none⟩ m cap xs hxl holds a k c news hy.1 hnews (by omega) (by omega) (growslice_fits (by omega) hbytes)
        exact⟨_,_,hr,grown cap (by omega) _ rfl⟩
end
end
section
instance:IK 3 .i64:=⟨by kernel_rfl⟩
instance:BT 4:=⟨by kernel_rfl⟩
instance:IK 5 .u8:=⟨by kernel_rfl⟩
instance:IK 22 .u64:=⟨by kernel_rfl⟩
instance:BP 24 [(0,1),(1,1),(2,1),(3,1),(4,1),(5,1),(6,1),(7,1),(8,1),(9,1),(10,1),(11,1),(12,1),(13,1),(14,1),(15,1),(16,1),(17,1),(18,1),(19,1)]:=⟨by kernel_rfl⟩
instance:BP 31 [(0,1),(1,1)]:=⟨by kernel_rfl⟩
instance:BP 39 [(0,1),(1,1),(2,1),(3,1),(4,1),(5,1),(6,1),(7,1),(8,1)]:=⟨by kernel_rfl⟩
instance:BP 42 [(0,1),(1,1),(2,1),(3,1)]:=⟨by kernel_rfl⟩
instance:BP 48 [(0,1),(1,1),(2,1),(3,1),(4,1),(5,1),(6,1),(7,1),(8,1),(9,1),(10,1),(11,1),(12,1),(13,1),(14,1)]:=⟨by kernel_rfl⟩
instance:BP 51 [(0,1),(1,1),(2,1),(3,1),(4,1),(5,1),(6,1)]:=⟨by kernel_rfl⟩
instance:BP 57 [(0,1),(1,1),(2,1)]:=⟨by kernel_rfl⟩
instance:BP 62 [(0,1),(1,1),(2,1),(3,1),(4,1),(5,1),(6,1)]:=⟨by kernel_rfl⟩
instance:BP 75 [(0,1),(1,1),(2,1)]:=⟨by kernel_rfl⟩
instance:BP 79 [(0,1),(1,1)]:=⟨by kernel_rfl⟩
instance:BP 85 [(0,20),(20,1),(21,1),(22,1),(23,1),(24,1),(25,1),(26,1),(27,1),(28,1),(29,1)]:=⟨by kernel_rfl⟩
instance:BP 102 [(0,1),(1,15)]:=⟨by kernel_rfl⟩
instance:BP 111 [(0,1)]:=⟨by kernel_rfl⟩
instance:BP 122 [(0,1),(1,20),(21,1),(22,1),(23,1),(24,1),(25,1),(26,1),(27,1),(28,1),(29,1),(30,1)]:=⟨by kernel_rfl⟩
instance:BP 132 [(0,1),(1,1)]:=⟨by kernel_rfl⟩
instance:BP 134 [(0,2),(2,1),(3,1),(4,1)]:=⟨by kernel_rfl⟩
instance:BP 136 [(0,7),(7,1),(8,1),(9,1),(10,1),(11,1)]:=⟨by kernel_rfl⟩
instance:BP 143 [(0,1),(1,1),(2,1),(3,1)]:=⟨by kernel_rfl⟩
instance:BP 145 [(0,1),(1,1),(2,1)]:=⟨by kernel_rfl⟩
instance:BP 147 [(0,1),(1,1),(2,1),(3,1),(4,1)]:=⟨by kernel_rfl⟩
instance:BP 149 [(0,1),(1,1)]:=⟨by kernel_rfl⟩
instance:BP 172 [(0,1),(1,1),(2,1)]:=⟨by kernel_rfl⟩
instance:BP 194 [(0,3),(3,1)]:=⟨by kernel_rfl⟩
instance:BP 198 [(0,1),(1,1)]:=⟨by kernel_rfl⟩
instance:BP 203 [(0,1),(1,1),(2,1),(3,1),(4,1)]:=⟨by kernel_rfl⟩
instance:BP 211 [(0,1)]:=⟨by kernel_rfl⟩
instance:BP 217 [(0,3),(3,1)]:=⟨by kernel_rfl⟩
instance:BP 220 [(0,1),(1,1)]:=⟨by kernel_rfl⟩
instance:BP 226 [(0,2)]:=⟨by kernel_rfl⟩
instance:BP 228 [(0,1),(1,1),(2,1),(3,1)]:=⟨by kernel_rfl⟩
instance:BP 230 [(0,1),(1,1),(2,1),(3,1)]:=⟨by kernel_rfl⟩
instance:BP 232 [(0,1),(1,1),(2,1),(3,1)]:=⟨by kernel_rfl⟩
instance:IK 273 .u64:=⟨by kernel_rfl⟩
instance:BP 286 [(0,1)]:=⟨by kernel_rfl⟩
instance:BP 323 [(0,1),(1,1)]:=⟨by kernel_rfl⟩
instance:BP 335 [(0,1),(1,1),(2,1)]:=⟨by kernel_rfl⟩
instance:BP 356 [(0,1),(1,1),(2,1)]:=⟨by kernel_rfl⟩
instance:BP 390 [(0,1),(1,1)]:=⟨by kernel_rfl⟩
end
end Go.Proofs.YtjbfcacmdahnhaaGreat
