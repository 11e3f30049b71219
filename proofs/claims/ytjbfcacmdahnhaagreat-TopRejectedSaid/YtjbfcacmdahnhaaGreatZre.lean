import Derived.Test.YtjbfcacmdahnhaaGreatZrd
set_option linter.unusedVariables false
set_option linter.unusedSimpArgs false
set_option linter.unusedSectionVars false
set_option maxRecDepth 100000
set_option maxHeartbeats 8000000
namespace Go.Proofs.YtjbfcacmdahnhaaGreat
section
open Go.RowKit Go.Maps
open Go.ChangeMaps (setBlock)
def pairs (es:Array MapEntry):List (Value × Value):=es.toList.map fun e=>(e.key,e.val)
def BornOK (es:Array MapEntry) (clk:Nat):Prop:=(es.toList.map (·.born)).Nodup∧∀ e∈es.toList,e.born<clk
theorem BornOK.nil (clk:Nat):BornOK #[] clk:=⟨by simp,by simp⟩
def MapIs (P:Program) (K:TypeId) (w:World) (b:Nat) (L:List (Value × Value)):Prop :=
 ∃ es clk,w.heap[b]? = some (.map es clk)∧(pairs es).Perm L∧(∀ p∈L,∃ l,keyOf P K p.1=some l)∧(L.map (·.1)).Nodup∧BornOK es clk
theorem MapIs.perm {P:Program} {K:TypeId} {w:World} {b:Nat} {L L':List (Value × Value)} (h:MapIs P K w b L) (hp:L.Perm L'):MapIs P K w b L':=by
 obtain ⟨es,clk,h1,h2,h3,h4⟩:=h
 exact⟨es,clk,h1,h2.trans hp,fun p hm=>h3 p (hp.mem_iff.2 hm),(hp.map _).nodup_iff.1 h4.1,h4.2⟩
theorem MapIs.of_block {P:Program} {K:TypeId} {w w':World} {b:Nat} {L:List (Value × Value)} (h:MapIs P K w b L) (e:w'.heap[b]? = w.heap[b]?):MapIs P K w' b L:=by
 obtain ⟨es,clk,h1,h2⟩:=h
 exact⟨es,clk,e.trans h1,h2⟩
theorem MapIs.lt {P:Program} {K:TypeId} {w:World} {b:Nat} {L:List (Value × Value)} (h:MapIs P K w b L):b<w.heap.size:=by
 obtain ⟨es,clk,h1,_⟩:=h
 exact(Array.getElem?_eq_some_iff.1 h1).1
structure Touch (b:Nat) (w w':World):Prop where
 os:w'.os=w.os
 tape:w'.tape=w.tape
 output:w'.output=w.output
 drawn:w'.drawn=w.drawn
 size:w'.heap.size=w.heap.size
 block:∀ k,k≠b→w'.heap[k]? = w.heap[k]?
theorem touch_setBlock (w:World) (b:Nat) (o:Obj):Touch b w (setBlock w b o):=by
 refine⟨rfl,rfl,rfl,rfl,by simp[setBlock],fun k hk=>?_⟩
 simp[setBlock,Array.getElem?_setIfInBounds,Ne.symm hk]
theorem nodup_val {L:List (Value × Value)} (hn:(L.map (·.1)).Nodup) {k v v':Value} (h:(k,v)∈L) (h':(k,v')∈L):v=v':=by
 induction L with
 | nil=>cases h
 | cons p L ih =>
  rw[List.map_cons,List.nodup_cons] at hn
  rcases List.mem_cons.1 h with h4|h4<;>rcases List.mem_cons.1 h' with h5|h5
  ·rw[← h4] at h5;exact(congrArg Prod.snd h5).symm
  ·exfalso;apply hn.1;rw[← h4];exact List.mem_map.2 ⟨_,h5,rfl⟩
  ·exfalso;apply hn.1;rw[← h5];exact List.mem_map.2 ⟨_,h4,rfl⟩
  ·exact ih hn.2 h4 h5
section
variable {P:Program} {w:World} {b:Nat} {L:List (Value × Value)} {T K E:TypeId}
theorem run_mapUpdate_new (hT:P.underlying T=some (.map K E)) (hK:Keyed P K) {k v:Value} {l:Lit} (hk:keyOf P K k=some l) (hm:MapIs P K w b L) (hnew:∀ p∈L,p.1≠k) :
  ∃ w',(Instr.mapUpdate T (.map (some b)) k v).run P w=.ok () w'∧MapIs P K w' b ((k,v)::L)∧Touch b w w':=by
 obtain ⟨es,clk,hb,hp,hl,hn⟩:=hm
 have hkeys:∀ e∈es.toList,∃ l,keyOf P K e.key=some l:=fun e he=>hl (e.key,e.val) (hp.mem_iff.1 (List.mem_map.2 ⟨e,he,rfl⟩))
 rcases hK.find w hk es.toList hkeys with⟨h1,_⟩|⟨j,e,_,h2,h3⟩
 ·refine⟨setBlock w b (.map (es.push {key:=k,val:=v,born:=clk}) (clk+1)),?_,⟨es.push {key:=k,val:=v,born:=clk},clk+1,?_,?_,?_,?_,?_⟩,touch_setBlock w b _⟩
  ·simp[Instr.mapUpdate,run_underlying hT,MapKept.run_getObj_map hb,hK.check w false hk,h1,MapKept.run_setObj_map _ hb,Result.andThen,setBlock]
  ·have:=(Array.getElem?_eq_some_iff.1 hb).1
   simp[setBlock,this]
  ·simp only[pairs,Array.toList_push,List.map_append,List.map_cons,List.map_nil]
   exact(List.perm_append_singleton _ _).trans (List.Perm.cons _ hp)
  ·intro p hp'
   rcases List.mem_cons.1 hp' with rfl|hp'
   ·exact⟨l,hk⟩
   ·exact hl p hp'
  ·rw[List.map_cons,List.nodup_cons]
   exact⟨fun hmem=>by obtain ⟨p,hp1,hp2⟩:=List.mem_map.1 hmem;exact hnew p hp1 hp2,hn.1⟩
  ·refine⟨?_,?_⟩
   ·simp only[Array.toList_push,List.map_append,List.map_cons,List.map_nil]
    refine List.nodup_append.2 ⟨hn.2.1,by simp,fun x hx y hy=>?_⟩
    obtain ⟨e,he,rfl⟩:=List.mem_map.1 hx
    have:=hn.2.2 e he
    simp at hy
    omega
   ·intro e he
    rw[Array.toList_push,List.mem_append] at he
    rcases he with he|he
    ·have:=hn.2.2 e he;omega
    ·simp at he;subst he;exact Nat.lt_succ_self _
 ·exfalso
  exact hnew (e.key,e.val) (hp.mem_iff.1 (List.mem_map.2 ⟨e,List.mem_of_getElem? h2,rfl⟩)) h3
theorem run_lookup_hit (hT:P.underlying T=some (.map K E)) (hK:Keyed P K) {k v:Value} {l:Lit} (hk:keyOf P K k=some l) (hm:MapIs P K w b L) (hin:(k,v)∈L) (ok:Bool) :
  (Instr.lookup T (.map (some b)) k ok).run P w=.ok (if ok then .tuple #[v,.bool true] else v) w:=by
 obtain ⟨es,clk,hb,hp,hl,hn⟩:=hm
 have hkeys:∀ e∈es.toList,∃ l,keyOf P K e.key=some l:=fun e he=>hl (e.key,e.val) (hp.mem_iff.1 (List.mem_map.2 ⟨e,he,rfl⟩))
 rcases hK.find w hk es.toList hkeys with⟨_,h1⟩|⟨j,e,h1,h2,h3⟩
 ·exfalso
  obtain ⟨e,he,hkv⟩:=List.mem_map.1 (hp.mem_iff.2 hin)
  exact h1 e he (congrArg Prod.fst hkv)
 ·have hv:e.val=v:=by
   have hmem:(e.key,e.val)∈L:=hp.mem_iff.1 (List.mem_map.2 ⟨e,List.mem_of_getElem? h2,rfl⟩)
   rw[h3] at hmem
   exact nodup_val hn.1 hmem hin
  cases ok<;>simp[Instr.lookup,run_underlying hT,MapKept.run_getObj_map hb,hK.check w _ hk,h1,hv,Result.andThen]
theorem run_lookup_miss (hT:P.underlying T=some (.map K E)) (hK:Keyed P K) {k z:Value} {l:Lit} (hk:keyOf P K k=some l) (hm:MapIs P K w b L) (hno:∀ p∈L,p.1≠k) (hz:(zeroValue E).run P w=.ok z w) (ok:Bool) :
  (Instr.lookup T (.map (some b)) k ok).run P w=.ok (if ok then .tuple #[z,.bool false] else z) w:=by
 obtain ⟨es,clk,hb,hp,hl,hn⟩:=hm
 have hkeys:∀ e∈es.toList,∃ l,keyOf P K e.key=some l:=fun e he=>hl (e.key,e.val) (hp.mem_iff.1 (List.mem_map.2 ⟨e,he,rfl⟩))
 rcases hK.find w hk es.toList hkeys with⟨h1,_⟩|⟨j,e,_,h2,h3⟩
 ·cases ok<;>simp[Instr.lookup,run_underlying hT,MapKept.run_getObj_map hb,hK.check w _ hk,h1,hz,Result.andThen]
 ·exfalso
  exact hno (e.key,e.val) (hp.mem_iff.1 (List.mem_map.2 ⟨e,List.mem_of_getElem? h2,rfl⟩)) h3
end
inductive Lk where
 | make
 | ins (k v:Value)
 | val
def Lk.entry:Lk→Option (Value × Value)
 | .ins k v=>some (k,v)
 | _=>none
def LitOp (P:Program) (A:Act) (m:Tmp) (mt K:TypeId) (m0:Nat) (o:Oper):Lk→Prop
 | .make=>o.op=.makeMap mt none∧o.dst=some m∧o.guard=none
 | .ins k v=>∃ kx vx,o.op=.insert mt (.tmp m) kx vx∧o.dst=none∧o.guard=none∧A.eval kx=k∧A.eval vx=v∧(o.after.toList.any fun e=>Region.binds .any e && e.on == m0)=true∧∃ l,keyOf P K k=some l
 | .val=>o.guard=none∧∃ v,(∀ d,o.dst=some d→v=A.tmps.getD d undef)∧∀ w',(execOp A.eval o).run P w'=.ok (.value v) w'
def LitAll (P:Program) (A:Act) (m:Tmp) (mt K:TypeId) (m0:Nat):List Oper→List Lk→Nat→Prop
 | [],[],_=>True
 | o::os,k::ks,i=>(LitOp P A m mt K m0 o k∧(k=.make↔i=m0))∧LitAll P A m mt K m0 os ks (i+1)
 | _,_,_=>False
theorem litAll_at {P:Program} {A:Act} {m:Tmp} {mt K:TypeId} {m0:Nat}:∀ {os:List Oper} {ks:List Lk} {i:Nat},LitAll P A m mt K m0 os ks i→ks.length=os.length∧∀ j o,os[j]? = some o→∃ k,ks[j]? = some k∧LitOp P A m mt K m0 o k∧(k=.make↔i+j=m0)
 | [],[],_,_=>⟨rfl,by simp⟩
 | o::os,k::ks,i,h=>by
  obtain ⟨h1,h2⟩:=litAll_at h.2
  refine⟨by simp[h1],fun j p hp=>?_⟩
  cases j with
  | zero=>simp at hp;subst hp;exact⟨k,rfl,h.1.1,by simpa using h.1.2⟩
  | succ j =>
   obtain ⟨k',e1,e2,e3⟩:=h2 j p (by simpa using hp)
   exact⟨k',by simpa using e1,e2,by rw[e3];omega⟩
 | [],_::_,_,h=>h.elim
 | _::_,[],_,h=>h.elim
def done (ks:List Lk) (listed:Array Bool):List (Value × Value) :=
 (ks.zip listed.toList).filterMap fun p=>if p.2 then p.1.entry else none
theorem done_none (ks:List Lk) (n:Nat):done ks (Array.replicate n false)=[]:=by
 unfold done
 rw[List.filterMap_eq_nil_iff]
 rintro⟨k,b⟩ hp
 have:=(List.of_mem_zip hp).2
 simp at this
 simp[this]
theorem done_all (ks:List Lk):done ks (Array.replicate ks.length true)=ks.filterMap Lk.entry:=by
 unfold done
 induction ks with
 | nil=>rfl
 | cons k ks ih =>
  simp only[Array.toList_replicate,List.length_cons,List.replicate_succ,List.zip_cons_cons,List.filterMap_cons] at ih ⊢
  rw[ih]
  rfl
theorem done_set {ks:List Lk} {listed:Array Bool} (hl:listed.size=ks.length) {i:Nat} {k:Lk} (hk:ks[i]? = some k) (hf:listed.getD i true=false) :
  (done ks (listed.setIfInBounds i true)).Perm (k.entry.toList++done ks listed):=by
 have hlt:i<ks.length:=(List.getElem?_eq_some_iff.1 hk).1
 have hf':listed.toList[i]? = some false:=by
  have:listed[i]'(by omega)=false:=by simpa[hl,hlt] using hf
  simp[hl,hlt,this]
 have hl':listed.toList.length=ks.length:=by simpa using hl
 unfold done
 rw[Array.toList_setIfInBounds]
 generalize listed.toList=l at *
 clear hf hl hlt
 induction ks generalizing i l with
 | nil=>simp at hk
 | cons k' ks ih =>
  cases l with
  | nil=>simp at hl'
  | cons b l =>
   cases i with
   | zero =>
    simp at hk hf'
    subst hk;subst hf'
    simp only[List.set_cons_zero,List.zip_cons_cons,List.filterMap_cons]
    cases k'.entry<;>simp
   | succ i =>
    simp only[List.set_cons_succ,List.zip_cons_cons,List.filterMap_cons]
    have h1:=ih (by simpa using hk) l (by simpa using hf') (by simpa using hl')
    cases (if b=true then k'.entry else none) with
    | none=>exact h1
    | some x =>
     simp only[]
     refine(List.Perm.cons x h1).trans ?_
     exact(List.perm_middle (a:=x) (l₁:=k.entry.toList)).symm
theorem done_mem {ks:List Lk} {listed:Array Bool} (hl:listed.size=ks.length) {p:Value × Value} (h:p∈done ks listed):∃ j k,ks[j]? = some k∧k.entry=some p∧listed.getD j true=true:=by
 unfold done at h
 obtain ⟨⟨k,b⟩,h1,h2⟩:=List.mem_filterMap.1 h
 obtain ⟨j,hj⟩:=List.getElem?_of_mem h1
 rw[List.getElem?_zip_eq_some] at hj
 obtain ⟨h3,h4⟩:=hj
 cases b with
 | false=>simp at h2
 | true =>
  refine⟨j,k,h3,by simpa using h2,?_⟩
  have hlt:j<listed.size:=by
   have:=(List.getElem?_eq_some_iff.1 h4).1;simpa using this
  simp only[Array.getElem?_toList] at h4
  rw[Array.getElem?_eq_getElem hlt] at h4
  simp[hlt,Option.some.inj h4]
theorem run_makeMap_none {P:Program} {mt K E:TypeId} (hT:P.underlying mt=some (.map K E)) (w:World):(Instr.makeMap mt none).run P w=.ok (.map (some w.heap.size)) (w.alloc (.map #[] 0)):=by
 simp[Instr.makeMap]
theorem rest_of {ops:Array Oper} {a0:Act} {T:Array Value} (vals:List (Tmp × Value)) (h:vals.foldl (fun a p=>a.setIfInBounds p.1 p.2) a0.tmps=T) (slots:List Tmp) (hs:vals.map (·.1)=slots) (hw':(slots.all fun d=>ops.toList.any fun o=>o.dst == some d)=true) :
  ∀ t,(∀ (j:Nat) (o:Oper),ops[j]? = some o→o.dst≠some t)→T.getD t undef=a0.tmps.getD t undef:=by
 intro t ht
 subst h
 have hw:(vals.all fun p=>ops.toList.any fun o=>o.dst == some p.1)=true:=by rw[← hw',← hs,List.all_map];rfl
 clear hw' hs
 generalize a0.tmps=tm
 induction vals generalizing tm with
 | nil=>rfl
 | cons p vals ih =>
  simp only[List.all_cons,Bool.and_eq_true] at hw
  rw[List.foldl_cons,ih hw.2]
  obtain ⟨o,ho,hd⟩:=List.any_eq_true.1 hw.1
  obtain ⟨j,hj⟩:=List.getElem?_of_mem ho
  have hne:p.1≠t:=fun e=>ht j o (by simpa using hj) (by rw[← e];simpa using hd)
  simp[Array.getElem?_setIfInBounds,hne]
theorem wp_region_map {P:Program} {ops:Array Oper} {a0:Act} {id:Nat} {Q:Exit→Act→World→Prop} {w:World} {mt K E:TypeId} (hT:P.underlying mt=some (.map K E)) (hK:Keyed P K) (m:Tmp) (m0:Nat) (ks:List Lk) (T:Array Value)
  (hm:P.follows .mixedOrders=true) (hB:fixB ops=true) (hd:(ops.toList.all fun o=>match o.dst with|none=>true|some d=>decide (d<a0.tmps.size))=true) (hsz:T.size=a0.tmps.size)
  (hrest:∀ t,(∀ (j:Nat) (o:Oper),ops[j]? = some o→o.dst≠some t)→T.getD t undef=a0.tmps.getD t undef) (hTm:T.getD m undef=.map (some w.heap.size))
  (hall:LitAll P ⟨T,a0.defers⟩ m mt K m0 ops.toList ks 0) (hnd:((ks.filterMap Lk.entry).map (·.1)).Nodup) (hm0:m0<ops.size)
  (hQ:∀ w',Below w.heap.size w w'→w'.heap.size=w.heap.size+1→MapIs P K w' w.heap.size (ks.filterMap Lk.entry)→Q .normal ⟨T,a0.defers⟩ w'):(Code.region id ops true).wp P Q a0 w:=by
 obtain ⟨hlen,hat⟩:=litAll_at hall
 have hlen':ks.length=ops.size:=by simpa using hlen
 have hat':∀ (j:Nat) (o:Oper),ops[j]? = some o→∃ k,ks[j]? = some k∧LitOp P ⟨T,a0.defers⟩ m mt K m0 o k∧(k=.make↔j=m0):=fun j o ho=>by
  have:=hat j o (by simpa using ho)
  simpa using this
 have hkeys:∀ p∈ks.filterMap Lk.entry,∃ l,keyOf P K p.1=some l:=fun p hp=>by
  obtain ⟨k,hk,he⟩:=List.mem_filterMap.1 hp
  obtain ⟨j,hj⟩:=List.getElem?_of_mem hk
  have hlt:j<ops.size:=by rw[← hlen'];exact(List.getElem?_eq_some_iff.1 hj).1
  obtain ⟨k',e1,e2,_⟩:=hat' j ops[j] (Array.getElem?_eq_getElem hlt)
  rw[hj] at e1;cases e1
  cases k with
  | ins kk vv =>
   simp[Lk.entry] at he
   subst he
   obtain ⟨_,_,_,_,_,_,_,_,h⟩:=e2
   exact h
  | make=>simp[Lk.entry] at he
  | val=>simp[Lk.entry] at he
 have hone:∀ (i j:Nat) (k v v':Value),ks[i]? = some (Lk.ins k v)→ks[j]? = some (Lk.ins k v')→i=j:=by
  clear hat' hat hall hlen hlen' hkeys hQ
  intro i j k v v' hi hj
  induction ks generalizing i j with
  | nil=>simp at hi
  | cons x ks ih =>
   have hnd':((ks.filterMap Lk.entry).map (·.1)).Nodup:=by
    cases hx:x.entry with
    | none=>simpa[List.filterMap_cons,hx] using hnd
    | some p=>simp only[List.filterMap_cons,hx,List.map_cons,List.nodup_cons] at hnd;exact hnd.2
   have hin:∀ {n:Nat} {u:Value},ks[n]? = some (Lk.ins k u)→k∈(ks.filterMap Lk.entry).map (·.1):=fun {n u} h =>
    List.mem_map.2 ⟨(k,u),List.mem_filterMap.2 ⟨_,List.mem_of_getElem? h,rfl⟩,rfl⟩
   cases i with
   | zero =>
    cases j with
    | zero=>rfl
    | succ j =>
     exfalso
     simp at hi hj
     subst hi
     simp only[List.filterMap_cons,Lk.entry,List.map_cons,List.nodup_cons] at hnd
     exact hnd.1 (hin hj)
   | succ i =>
    cases j with
    | zero =>
     exfalso
     simp at hi hj
     subst hj
     simp only[List.filterMap_cons,Lk.entry,List.map_cons,List.nodup_cons] at hnd
     exact hnd.1 (hin hi)
    | succ j=>rw[ih hnd' i j (by simpa using hi) (by simpa using hj)]
 refine wp_region_fix (fun listed w'=>Below w.heap.size w w'∧(listed.getD m0 false=false→w'.heap.size=w.heap.size∧done ks listed=[]) ∧
   (listed.getD m0 false=true→w'.heap.size=w.heap.size+1∧MapIs P K w' w.heap.size (done ks listed))) T hm hB (fun i o d ho hdd=>?_) hsz hrest ?_ ?_ (fun w' hJ=>?_)
 ·have h1:=List.all_eq_true.1 hd o (by simpa using Array.mem_of_getElem? ho)
  rw[hdd] at h1
  simpa using h1
 ·refine⟨⟨rfl,rfl,rfl,Nat.le_refl _,fun _ _=>rfl⟩,fun _=>⟨rfl,done_none _ _⟩,fun h=>?_⟩
  simp[hm0] at h
 ·intro i o listed w1 ho hls hun hedge ⟨hb,hJ1,hJ2⟩
  have hlt:i<ops.size:=(Array.getElem?_eq_some_iff.1 ho).1
  obtain ⟨k,hk,hop,hmk⟩:=hat' i o ho
  have hperm:=done_set (by rw[hls,hlen']) hk hun
  have hset:∀ j,j≠i→(listed.setIfInBounds i true).getD j false=listed.getD j false:=fun j hj=>getD_set_ne false (Ne.symm hj)
  cases k with
  | make =>
   obtain ⟨h1,h2,h3⟩:=hop
   have hi0:=hmk.1 rfl
   subst hi0
   have hfalse:listed.getD i false=false:=by simpa[hls,hlt] using hun
   obtain ⟨hs,hdn⟩:=hJ1 hfalse
   rw[if_pos (by simp[Region.wanted,h3])]
   refine⟨.map (some w.heap.size),fun d hdd=>?_,?_⟩
   ·rw[h2] at hdd;cases hdd;exact hTm.symm
   ·have hrun:(execOp (⟨T,a0.defers⟩:Act).eval o).run P w1=.ok (.value (.map (some w.heap.size))) (w1.alloc (.map #[] 0)):=by
     unfold execOp
     simp only[h1,Option.map_none]
     simp[run_makeMap_none hT,hs]
    rw[hrun]
    refine⟨rfl,hb.alloc (by omega) _,fun h=>?_,fun _=>⟨by simp[hs],?_⟩⟩
    ·simp[hls,hlt] at h
    ·have hd0:done ks (listed.setIfInBounds i true)=[]:=by
      rw[hdn] at hperm
      simpa[Lk.entry] using hperm
     rw[hd0]
     refine⟨#[],0,?_,List.Perm.refl _,by simp,by simp,BornOK.nil 0⟩
     rw[← hs];exact heap_alloc_new w1 _
  | ins kk vv =>
   obtain ⟨kx,vx,h1,h2,h3,h4,h5,h6,l,h7⟩:=hop
   have hne:m0≠i:=fun e=>by have:=hmk.2 e.symm;cases this
   have hmade:listed.getD m0 false=true:=by
    obtain ⟨e,he,hbb⟩:=List.any_eq_true.1 h6
    simp only[Bool.and_eq_true,beq_iff_eq] at hbb
    rw[← hbb.2]
    exact hedge e (by simpa using he) hbb.1
   obtain ⟨hs,hM⟩:=hJ2 hmade
   rw[if_pos (by simp[Region.wanted,h3])]
   obtain ⟨w2,hr,hM2,ht⟩:=run_mapUpdate_new (v:=vv) hT hK h7 hM (fun p hp hpk=>by
    obtain ⟨j,k',e1,e2,e3⟩:=done_mem (by rw[hls,hlen']) hp
    cases k' with
    | ins k2 v2 =>
     simp[Lk.entry] at e2
     subst e2
     simp only at hpk
     subst hpk
     have:=hone _ _ _ _ _ hk e1
     subst this
     rw[hun] at e3;cases e3
    | make=>simp[Lk.entry] at e2
    | val=>simp[Lk.entry] at e2)
   refine⟨undef,fun d hdd=>(by rw[h2] at hdd;cases hdd),?_⟩
   have hrun:(execOp (⟨T,a0.defers⟩:Act).eval o).run P w1=.ok .skip w2:=by
    unfold execOp
    simp only[h1]
    have hev:(⟨T,a0.defers⟩:Act).eval (.tmp m)=.map (some w.heap.size):=hTm
    rw[hev,h4,h5]
    simp[hr]
   rw[hrun]
   refine⟨rfl,hb.trans ⟨ht.os,ht.tape,ht.output,Nat.le_of_eq ht.size.symm,fun k hk'=>ht.block k (by omega)⟩,fun h=>?_,fun _=>⟨by rw[ht.size];exact hs,hM2.perm ?_⟩⟩
   ·rw[hset m0 hne,hmade] at h;cases h
   ·exact hperm.symm
  | val =>
   obtain ⟨h1,v,h2,h3⟩:=hop
   have hne:m0≠i:=fun e=>by have:=hmk.2 e.symm;cases this
   rw[if_pos (by simp[Region.wanted,h1])]
   refine⟨v,h2,?_⟩
   rw[h3 w1]
   have hp':(done ks (listed.setIfInBounds i true)).Perm (done ks listed):=by simpa[Lk.entry] using hperm
   refine⟨rfl,hb,fun h=>?_,fun h=>?_⟩
   ·rw[hset m0 hne] at h
    obtain ⟨e1,e2⟩:=hJ1 h
    rw[e2] at hp'
    exact⟨e1,hp'.eq_nil⟩
   ·rw[hset m0 hne] at h
    obtain ⟨e1,e2⟩:=hJ2 h
    exact⟨e1,e2.perm hp'.symm⟩
 ·obtain ⟨hb,_,hJ2⟩:=hJ
  obtain ⟨h1,h2⟩:=hJ2 (by simp[hm0])
  rw[← hlen',done_all] at h2
  exact hQ w' hb h1 h2
end
section
open Go.RowKit Go.Maps
open Go.ChangeMaps (setBlock)
section
variable {w w':World} {L L':List Asn}
theorem Sat.agree' {L:List Asn} {s:List Nat} {w w':World} (h:Sat L s w) (hw:Agree s w w'):Sat L s w':=by
 induction h with
 | nil=>exact .nil w'
 | @cons A L s r w h1 _ h3 ih =>
  refine .cons ⟨fun b hb=>?_,fun w'' hw''=>h1.all w'' ((hw.sub fun x hx=>by simp[hx]).trans hw'')⟩ (ih (hw.sub fun x hx=>by simp[hx])) h3
  have e:=hw.2.2.2 b (by simp[hb])
  have:=h1.lt b hb
  rw[Array.getElem?_eq_getElem this] at e
  exact(Array.getElem?_eq_some_iff.1 e).1
theorem Sat.append {L R:List Asn} {s r:List Nat} {w:World} (h:Sat L s w) (k:Sat R r w) (hd:∀ b∈s,b∉r):∃ t,Sat (L++R) t w∧∀ b,b∈t↔b∈s∨b∈r:=by
 induction h with
 | nil=>exact⟨r,k,by simp⟩
 | @cons A L s1 r1 w h1 h2 h3 ih =>
  obtain ⟨t,k1,k2⟩:=ih k fun b hb=>hd b (by simp[hb])
  refine⟨s1++t,.cons h1 k1 fun b hb ht=>?_,fun b=>by simp[k2,or_assoc]⟩
  rcases (k2 b).1 ht with h|h
  ·exact h3 b hb h
  ·exact hd b (by simp[hb]) h
theorem Sat.split {R:List Asn} {w:World}:∀ {L:List Asn} {t:List Nat},Sat (L++R) t w→∃ s r,Sat L s w∧Sat R r w∧(∀ b∈s,b∉r)∧∀ b,b∈t↔b∈s∨b∈r
 | [],t,h=>⟨[],t,.nil w,h,by simp,by simp⟩
 | A::L,t,h=>by
  cases h with
  | @cons _ _ s1 r1 _ h1 h2 h3 =>
   obtain ⟨s,r,k1,k2,k3,k4⟩:=Sat.split h2
   refine⟨s1++s,r,.cons h1 k1 fun b hb hs=>h3 b hb ((k4 b).2 (.inl hs)),k2,fun b hb hr=>?_,fun b=>by simp[k4,or_assoc]⟩
   rcases List.mem_append.1 hb with hb|hb
   ·exact h3 b hb ((k4 b).2 (.inr hr))
   ·exact k3 b hb hr
def exA {α:Type} (f:α→List Asn):Asn:=fun s w=>∃ x,∃ t,Sat (f x) t w∧∀ b,b∈s↔b∈t
theorem Mem.exo {α:Type} {f:α→List Asn} (M:Mem w (exA f::L)):∃ x,Mem w (f x++L):=by
 obtain ⟨s,hs⟩:=M
 cases hs with
 | cons h1 h2 h3 =>
  obtain ⟨x,t,k1,k2⟩:=h1.now
  obtain ⟨u,j,_⟩:=k1.append h2 fun b hb=>h3 b ((k2 b).2 hb)
  exact⟨x,u,j⟩
theorem Mem.exc {α:Type} {f:α→List Asn} (x:α) (M:Mem w (f x++L)):Mem w (exA f::L):=by
 obtain ⟨s,hs⟩:=M
 obtain ⟨s1,r,k1,k2,k3,_⟩:=hs.split
 exact⟨s1++r,.cons ⟨k1.lt,fun w' hw=>⟨x,s1,k1.agree' hw,fun _=>Iff.rfl⟩⟩ k2 k3⟩
theorem Pull.mid {A:Asn}:∀ (X R:List Asn),Pull (X++A::R) A (X++R)
 | [],R=>.here
 | x::X,R=>.there (Pull.mid X R)
theorem Mem.front {A:Asn} {X R:List Asn} (M:Mem w (X++A::R)):Mem w (A::(X++R)):=M.pull (.mid X R)
theorem Mem.back {A:Asn} {X R:List Asn} (M:Mem w (A::(X++R))):Mem w (X++A::R):=M.push (.mid X R)
def factA (p:Prop):Asn:=fun s _=>s=[]∧p
theorem Mem.fact {p:Prop} (h:p) (M:Mem w L):Mem w (factA p::L):=M.new ⟨rfl,rfl,rfl,Nat.le_refl _,fun _ _ _=>rfl⟩ ⟨[],⟨by simp,fun w' _=>⟨rfl,h⟩⟩,by simp⟩
theorem Mem.factO {p:Prop} (M:Mem w (factA p::L)):p∧Mem w L:=by
 obtain ⟨s,hs,_⟩:=M.head
 exact⟨hs.2,M.drop⟩
def mp (b:Nat) (K:TypeId) (P:List (Value × Value)):Asn:=fun s w=>s=[b]∧MapIs Tryz.prog K w b P
theorem ok_mp {b:Nat} {K:TypeId} {P:List (Value × Value)} (h:MapIs Tryz.prog K w b P):Ok (mp b K P) [b] w :=
 ⟨fun x hx=>(show x=b by simpa using hx) ▸ h.lt,fun w' hw=>⟨rfl,h.of_block (hw.2.2.2 b (by simp))⟩⟩
theorem gives_mp {b:Nat} {K:TypeId} {P:List (Value × Value)} (h:Pull L (mp b K P) L'):Gives L fun w=>MapIs Tryz.prog K w b P:=fun w M=>by
 obtain ⟨s,hs,_⟩:=(M.pull h).head
 exact hs.2
theorem mapIs_new (K:TypeId) (w:World):MapIs Tryz.prog K (w.alloc (.map #[] 0)) w.heap.size []:=⟨#[],0,heap_alloc_new w _,by simp[pairs],by simp,by simp,BornOK.nil 0⟩
theorem Touch.chg {b:Nat} (h:Touch b w w'):Chg [b] w w':=⟨h.os,h.tape,h.output,Nat.le_of_eq h.size.symm,fun k _ hk=>h.block k (by simpa using hk)⟩
end
class MT (t:TypeId) (K E:outParam TypeId):Prop where
 k:Tryz.prog.underlying t=some (.map K E)
 h:Keyed Tryz.prog K
class ZV (t:TypeId) (z:outParam Value):Prop where
 k:(Tryz.prog.info? t).bind (·.zero)=some z
theorem ZV.run {t:TypeId} {z:Value} (h:ZV t z) (w:World):(zeroValue t).run Tryz.prog w=.ok z w:=by
 have:=h.k
 cases hi:Tryz.prog.info? t with
 | none=>rw[hi] at this;cases this
 | some i =>
  rw[hi] at this
  have:i.zero=some z:=this
  simp[zeroValue,typeInfo,hi,this]
section
variable {o:Oper} {n:Nat} {l:List (Nat × Value)} {L:List Asn} {C:Value→List Asn→Prop}
theorem rt_hit {t:TypeId} {x y:Operand} {ok:Bool} (ho:o.op=.lookup t x y ok) {b:Nat} (hx:evl l x=some (.map (some b))) {k:Value} (hy:evl l y=some k) {K E:TypeId} (ht:MT t K E) {P:List (Value × Value)} (hg:Gives L fun w=>MapIs Tryz.prog K w b P) {q:Lit} (hk:keyOf Tryz.prog K k=some q) {v:Value} (hin:(k,v)∈P) {r:Value} (hr:(if ok=true then .tuple #[v,.bool true] else v)=r):RT o l L n r:=fun a w F M=>by
 subst hr
 unfold execOp
 rw[ho]
 simp only[F.eval hx,F.eval hy]
 have:=run_lookup_hit ht.k ht.h hk (hg w M) hin ok
 simp[this]
theorem rt_miss {t:TypeId} {x y:Operand} {ok:Bool} (ho:o.op=.lookup t x y ok) {b:Nat} (hx:evl l x=some (.map (some b))) {k:Value} (hy:evl l y=some k) {K E:TypeId} (ht:MT t K E) {P:List (Value × Value)} (hg:Gives L fun w=>MapIs Tryz.prog K w b P) {q:Lit} (hk:keyOf Tryz.prog K k=some q) (hno:∀ p∈P,p.1≠k) {z:Value} (hz:ZV E z) {r:Value} (hr:(if ok=true then .tuple #[z,.bool false] else z)=r):RT o l L n r:=fun a w F M=>by
 subst hr
 unfold execOp
 rw[ho]
 simp only[F.eval hx,F.eval hy]
 have:=run_lookup_miss ht.k ht.h hk (hg w M) hno (hz.run w) ok
 simp[this]
theorem rt_hit1 {t:TypeId} {x y:Operand} (ho:o.op=.lookup t x y false) {b:Nat} (hx:evl l x=some (.map (some b))) {k:Value} (hy:evl l y=some k) {K E:TypeId} (ht:MT t K E) {P:List (Value × Value)} (hg:Gives L fun w=>MapIs Tryz.prog K w b P) {q:Lit} (hk:keyOf Tryz.prog K k=some q) {v:Value} (hin:(k,v)∈P):RT o l L n v:=rt_hit ho hx hy ht hg hk hin rfl
theorem rt_hit2 {t:TypeId} {x y:Operand} (ho:o.op=.lookup t x y true) {b:Nat} (hx:evl l x=some (.map (some b))) {k:Value} (hy:evl l y=some k) {K E:TypeId} (ht:MT t K E) {P:List (Value × Value)} (hg:Gives L fun w=>MapIs Tryz.prog K w b P) {q:Lit} (hk:keyOf Tryz.prog K k=some q) {v:Value} (hin:(k,v)∈P):RT o l L n (.tuple [v,.bool true].toArray):=rt_hit ho hx hy ht hg hk hin rfl
theorem rt_miss1 {t:TypeId} {x y:Operand} (ho:o.op=.lookup t x y false) {b:Nat} (hx:evl l x=some (.map (some b))) {k:Value} (hy:evl l y=some k) {K E:TypeId} (ht:MT t K E) {P:List (Value × Value)} (hg:Gives L fun w=>MapIs Tryz.prog K w b P) {q:Lit} (hk:keyOf Tryz.prog K k=some q) (hno:∀ p∈P,p.1≠k) {z:Value} (hz:ZV E z):RT o l L n z:=rt_miss ho hx hy ht hg hk hno hz rfl
theorem rt_miss2 {t:TypeId} {x y:Operand} (ho:o.op=.lookup t x y true) {b:Nat} (hx:evl l x=some (.map (some b))) {k:Value} (hy:evl l y=some k) {K E:TypeId} (ht:MT t K E) {P:List (Value × Value)} (hg:Gives L fun w=>MapIs Tryz.prog K w b P) {q:Lit} (hk:keyOf Tryz.prog K k=some q) (hno:∀ p∈P,p.1≠k) {z:Value} (hz:ZV E z):RT o l L n (.tuple [z,.bool false].toArray):=rt_miss ho hx hy ht hg hk hno hz rfl
theorem ac_makeMap {t:TypeId} (ho:o.op=.makeMap t none) {K E:TypeId} (ht:MT t K E) (h:∀ b,C (.map (some b)) (mp b K []::L)):AC o l L n C:=fun G a w F M=>by
 have:(execOp a.eval o).run Tryz.prog w=.ok (.value (.map (some w.heap.size))) (w.alloc (.map #[] 0)):=by
  unfold execOp
  rw[ho]
  have:=run_makeMap_none ht.k w
  simp[this]
 rw[this]
 exact⟨_,h _,M.new ⟨rfl,rfl,rfl,by simp,fun k hk _=>(((Below.refl _ _).alloc (Nat.le_refl _) _).block k hk)⟩ ⟨[w.heap.size],ok_mp (mapIs_new K w),by simp⟩⟩
theorem ac_mapNew {t:TypeId} {x y z:Operand} (ho:o.op=.mapUpdate t x y z) {b:Nat} (hx:evl l x=some (.map (some b))) {k v:Value} (hy:evl l y=some k) (hz:evl l z=some v) {K E:TypeId} (ht:MT t K E) {q:Lit} (hk:keyOf Tryz.prog K k=some q) {P P':List (Value × Value)} {L2:List Asn} (hp:Rep L (mp b K P) (mp b K P') L2) (hno:∀ p∈P,p.1≠k) (hP:((k,v)::P).Perm P') (h:C undef L2):AC o l L n C:=fun G a w F M=>by
 obtain ⟨L',h1,h2⟩:=hp.both
 obtain ⟨w',e,hm,ht'⟩:=run_mapUpdate_new (v:=v) ht.k ht.h hk (gives_mp (h1.app G) w M) hno
 have:(execOp a.eval o).run Tryz.prog w=.ok .skip w':=by
  unfold execOp
  rw[ho]
  simp[F.eval hx,F.eval hy,F.eval hz,e]
 rw[this]
 refine⟨L2,h,M.rep (hp.app G) fun s hs=>?_⟩
 obtain ⟨rfl,_⟩:=hs.now
 exact⟨ht'.chg,[b],ok_mp (hm.perm hP),fun x hx=>.inl hx⟩
theorem Spec.fr {k:FuncId} {us:List Value} {L1:List Asn} {D:Value→List Asn→Prop} (h:Spec k us L1 D) (R:List Asn):Spec k us (L1++R) fun v L'=>∃ L2,D v L2∧L'=L2++R:=fun G w M=>by
 rw[List.append_assoc] at M
 exact(h (R++G) w M).mono fun e w' ⟨v,L2,h1,h2,h3⟩=>⟨v,L2++R,h1,⟨L2,h2,rfl⟩,by rw[List.append_assoc];exact h3⟩
abbrev Keeps (k:FuncId) (us:List Value) (v:Value) (L:List Asn):Prop:=Spec k us L fun u L'=>u=v∧L'=L
theorem Keeps.head {k:FuncId} {us:List Value} {v:Value} {L:List Asn} (h:Keeps k us v L) (A:Asn):Keeps k us v (A::L):=fun G w M=>by
 have M:Mem w (L++A::G):=Mem.back M
 refine(h (A::G) w M).mono ?_
 rintro e w' ⟨u,L',h1,⟨h2,rfl⟩,M'⟩
 exact⟨u,_,h1,⟨h2,rfl⟩,M'.front⟩
end
end
section
instance:PT 28 122:=⟨by kernel_rfl,by kernel_rfl⟩
instance:PT 29 134:=⟨by kernel_rfl,by kernel_rfl⟩
instance:PT 109 203:=⟨by kernel_rfl,by kernel_rfl⟩
instance:PT 112 198:=⟨by kernel_rfl,by kernel_rfl⟩
instance:PT 113 194:=⟨by kernel_rfl,by kernel_rfl⟩
instance:PT 114 220:=⟨by kernel_rfl,by kernel_rfl⟩
instance:PT 115 211:=⟨by kernel_rfl,by kernel_rfl⟩
instance:PT 116 217:=⟨by kernel_rfl,by kernel_rfl⟩
instance:PT 117 226:=⟨by kernel_rfl,by kernel_rfl⟩
instance:PT 118 228:=⟨by kernel_rfl,by kernel_rfl⟩
instance:PT 119 230:=⟨by kernel_rfl,by kernel_rfl⟩
instance:PT 120 232:=⟨by kernel_rfl,by kernel_rfl⟩
instance:PT 129 136:=⟨by kernel_rfl,by kernel_rfl⟩
instance:PT 361 224:=⟨by kernel_rfl,by kernel_rfl⟩
end
section
open Go.RowKit Go.WideShapes Go.ChangeShapes
inductive Sh where
 | int (k:IntKind)
 | bool
 | str
 | slice (size:Nat) (e:Sh)
 | agg (fs:List Sh)
inductive HasSh (w:World):Sh→List Value→Prop where
 | int (k:IntKind) (n:Int):(Lit.int k n).wf=true→HasSh w (.int k) [.int k n]
 | bool (b:Bool):HasSh w .bool [.bool b]
 | str (s:ByteArray):s.size≤maxLen→HasSh w .str [.string s]
 | slice (size:Nat) (e:Sh) (a:Option Addr) (n cap:Nat) (xss:List (List Value)):xss.length=n→(∀ x∈xss,x.length=size)→(∀ x∈xss,HasSh w e x)→n≤cap→cap≤maxLen →
   SlR w size (.slice a n cap) n xss.flatten→HasSh w (.slice size e) [.slice a n cap]
 | nil:HasSh w (.agg []) []
 | cons (s:Sh) (ss:List Sh) (c r:List Value):HasSh w s c→HasSh w (.agg ss) r→HasSh w (.agg (s::ss)) (c++r)
def shapeFields (P:Program) (g:TypeId→Option Sh):Nat→List Field→Option (List Sh × Nat)
 | o,[]=>some ([],o)
 | o,f::r =>
  if f.offset=o then
   match g f.type,shapeFields P g (o+P.cellsOf f.type) r with
   | some s,some (ss,e)=>some (s::ss,e)
   | _,_=>none
  else none
def shapeOf (P:Program):Nat→TypeId→Option Sh
 | 0,_=>none
 | d+1,t =>
  match P.underlying t with
  | some .bool=>some .bool
  | some (.int k)=>some (.int k)
  | some .string=>some .str
  | some (.slice e)=>if P.cellsOf e=0 then none else (shapeOf P d e).map (.slice (P.cellsOf e))
  | some (.struct fs) =>
   match shapeFields P (shapeOf P d) 0 fs.toList with
   | some (ss,e)=>if e=P.cellsOf t then some (.agg ss) else none
   | none=>none
  | some (.array n e)=>if n*P.cellsOf e=P.cellsOf t then (shapeOf P d e).map fun s=>.agg (List.replicate n s) else none
  | _=>none
theorem flatten_at {α:Type} {sz:Nat}:∀ {L:List (List α)},(∀ x∈L,x.length=sz)→∀ {j:Nat} {u:α},L.flatten[j]? = some u→∃ i r x,j=i*sz+r∧r<sz∧L[i]? = some x∧x[r]? = some u
 | [],_,j,u,h=>by simp at h
 | y::L,hl,j,u,h=>by
  have hy:=hl y (by simp)
  rw[List.flatten_cons,List.getElem?_append] at h
  split at h
  ·exact⟨0,j,y,by omega,by omega,rfl,h⟩
  ·rename_i hge
   obtain ⟨i,r,x,e1,e2,e3,e4⟩:=flatten_at (fun x hx=>hl x (by simp[hx])) h
   refine⟨i+1,r,x,?_,e2,by simpa using e3,e4⟩
   rw[Nat.add_mul];omega
theorem flatten_len {α:Type} {sz:Nat}:∀ {L:List (List α)},(∀ x∈L,x.length=sz)→L.flatten.length=L.length*sz
 | [],_=>by simp
 | y::L,hl=>by
  rw[List.flatten_cons,List.length_append,flatten_len (fun x hx=>hl x (by simp[hx])),hl y (by simp),List.length_cons,Nat.add_mul];omega
section
variable {H:Type} {enc:TypeId × Value→H} {P:Program} {w:World}
theorem cells?_spec {a:Addr} {n:Nat} {cs:List Value} (h:w.cells? 0 a n=some cs):cs.length=n∧∀ r u,cs[r]? = some u→w.cell? (a.add r)=some u:=by
 unfold World.cells? at h
 rw[if_pos (Nat.zero_le _)] at h
 have hl:=mapM_some_length h
 refine⟨by simpa using hl,fun r u hu=>?_⟩
 have hr:r<n:=by
  have:=(List.getElem?_eq_some_iff.1 hu).1
  rw[hl] at this;simpa using this
 rw[mapM_some_get h r r (by simp[hr])]
 exact hu
theorem hasSh_fields {d:Nat} (ih:∀ t sh fuel cs x,shapeOf P d t=some sh→DataW.trod enc P w 0 (fun _=>true) true fuel t cs=some x→HasSh w sh cs) {fuel:Nat} {cs:List Value} :
  ∀ (fs:List Field) (o:Nat) (ss:List Sh),(∀ f∈fs,∃ x,DataW.trod enc P w 0 (fun _=>true) true fuel f.type ((cs.drop f.offset).take (P.cellsOf f.type))=some x) →
   shapeFields P (shapeOf P d) o fs=some (ss,cs.length)→HasSh w (.agg ss) (cs.drop o)
 | [],o,ss,_,h=>by
  simp only[shapeFields,Option.some.injEq,Prod.mk.injEq] at h
  obtain ⟨rfl,rfl⟩:=h
  rw[List.drop_of_length_le (Nat.le_refl _)]
  exact .nil
 | f::r,o,ss,hx,h=>by
  simp only[shapeFields] at h
  split at h
  ·rename_i ho
   split at h
   ·rename_i s ss' e hs hss
    simp only[Option.some.injEq,Prod.mk.injEq] at h
    obtain ⟨rfl,rfl⟩:=h
    obtain ⟨x,hx0⟩:=hx f (by simp)
    have h1:=ih _ _ _ _ _ hs hx0
    have h2:=hasSh_fields ih r (o+P.cellsOf f.type) ss' (fun g hg=>hx g (by simp[hg])) hss
    rw[ho] at h1
    have:=HasSh.cons _ _ _ _ h1 h2
    rwa [← List.drop_drop,List.take_append_drop] at this
   ·cases h
  ·cases h
theorem hasSh_elems {d:Nat} {e:TypeId} {s:Sh} (ih:∀ t sh fuel cs x,shapeOf P d t=some sh→DataW.trod enc P w 0 (fun _=>true) true fuel t cs=some x→HasSh w sh cs) (hs:shapeOf P d e=some s) {fuel n:Nat} {cs:List Value}
  (hx:∀ i,i<n→∃ x,DataW.trod enc P w 0 (fun _=>true) true fuel e ((cs.drop (i*P.cellsOf e)).take (P.cellsOf e))=some x) (hl:cs.length=n*P.cellsOf e) :
  ∀ k,k≤n→HasSh w (.agg (List.replicate k s)) (cs.drop ((n - k)*P.cellsOf e))
 | 0,_=>by
  rw[List.drop_of_length_le (by rw[hl];exact Nat.le_refl _)]
  exact .nil
 | k+1,hk=>by
  obtain ⟨x,hx0⟩:=hx (n - (k+1)) (by omega)
  have h1:=ih _ _ _ _ _ hs hx0
  have h2:=hasSh_elems ih hs hx hl k (by omega)
  have:=HasSh.cons _ _ _ _ h1 h2
  have e1:(n - k)*P.cellsOf e=(n - (k+1))*P.cellsOf e+P.cellsOf e:=by
   rw[← Nat.succ_mul];congr 1;omega
  rw[e1,← List.drop_drop,List.take_append_drop] at this
  exact this
theorem hasSh_of_trod:∀ (d:Nat) (t:TypeId) (sh:Sh) (fuel:Nat) (cs:List Value) (x:DataW H × List MemPlace),shapeOf P d t=some sh →
  DataW.trod enc P w 0 (fun _=>true) true fuel t cs=some x→HasSh w sh cs
 | 0,_,_,_,_,_,h,_=>by simp[shapeOf] at h
 | d+1,t,sh,fuel,cs,x,h,hx=>by
  have ih:=hasSh_of_trod d
  unfold shapeOf at h
  split at h
  ·rename_i ht
   simp only[Option.some.injEq] at h;subst h
   obtain ⟨b,rfl,_⟩:=DataW.trod_bool ht hx
   exact .bool b
  ·rename_i k ht
   simp only[Option.some.injEq] at h;subst h
   obtain ⟨n,rfl,_,hw⟩:=DataW.trod_int ht hx
   exact .int k n hw
  ·rename_i ht
   simp only[Option.some.injEq] at h;subst h
   obtain ⟨s,rfl,_,hs⟩:=DataW.trod_string ht hx
   exact .str s hs
  ·rename_i e ht
   split at h
   ·cases h
   ·rename_i hsz
    simp only[Option.map_eq_some_iff] at h
    obtain ⟨s,hs,rfl⟩:=h
    rcases DataW.trod_slice ht hx with⟨rfl,_⟩|⟨a,len,cap,elems,rest,n,_,rfl,_,_,hl,hc,hel,hcells,_,_⟩
    ·exact .slice _ _ _ _ _ [] rfl (by simp) (by simp) (Nat.le_refl _) (Nat.zero_le _) (SlR.nil _ _)
    ·have hcs:∀ i,i<len→∃ ci x,w.cells? 0 (a.add (i*P.cellsOf e)) (P.cellsOf e)=some ci∧DataW.trod enc P w 0 (fun _=>true) true n e ci=some x:=fun i hi=>by
      have h1:=hcells i hi
      rw[List.getElem?_eq_getElem (by omega:i<elems.length)] at h1
      obtain ⟨ci,h2,h3⟩:=Option.bind_eq_some_iff.1 h1
      exact⟨ci,_,h2,h3⟩
     let f:Nat→List Value:=fun i=>(w.cells? 0 (a.add (i*P.cellsOf e)) (P.cellsOf e)).getD []
     have hf:∀ i,i<len→(w.cells? 0 (a.add (i*P.cellsOf e)) (P.cellsOf e))=some (f i):=fun i hi=>by
      obtain ⟨ci,_,h1,_⟩:=hcs i hi
      show _=some ((w.cells? 0 (a.add (i*P.cellsOf e)) (P.cellsOf e)).getD [])
      rw[h1];rfl
     have hlen:∀ x∈(List.range len).map f,x.length=P.cellsOf e:=fun x hx=>by
      obtain ⟨i,hi,rfl⟩:=List.mem_map.1 hx
      exact(cells?_spec (hf i (by simpa using hi))).1
     refine .slice _ _ _ _ _ ((List.range len).map f) (by simp) hlen (fun x hx=>?_) hl hc ⟨by rw[flatten_len hlen];simp,?_⟩
     ·obtain ⟨i,hi,rfl⟩:=List.mem_map.1 hx
      obtain ⟨ci,x,h1,h2⟩:=hcs i (by simpa using hi)
      have:=(hf i (by simpa using hi)).symm.trans h1
      rw[Option.some.inj this]
      exact ih _ _ _ _ _ hs h2
     ·by_cases h0:len=0
      ·subst h0;exact .inl ⟨⟨_,_,rfl⟩,rfl⟩
      ·have hspot:a.spot=none:=by
        have h1:=cells?_spec (hf 0 (by omega))
        have h2:=h1.2 0 ((f 0)[0]'(by rw[h1.1];omega)) (by rw[List.getElem?_eq_getElem])
        by_cases hsp:a.spot=none
        ·exact hsp
        ·exfalso
         unfold World.cell? at h2
         have:((a.add (0*P.cellsOf e)).add 0).spot.isSome=true:=by
          cases hs':a.spot with
          | none=>exact absurd hs' hsp
          | some v=>unfold Addr.add;simp[hs']
         split at h2
         ·rw[if_pos this] at h2;cases h2
         ·cases h2
       obtain ⟨b,off,sp⟩:=a
       simp only at hspot
       subst hspot
       have hadd:∀ j,(⟨b,off,none⟩:Addr).add j=⟨b,off+j,none⟩:=fun j=>by unfold Addr.add;split<;>simp_all
       have hadd':∀ o j,(⟨b,o,none⟩:Addr).add j=⟨b,o+j,none⟩:=fun o j=>by unfold Addr.add;split<;>simp_all
       have hcell:∀ j u,((List.range len).map f).flatten[j]? = some u→w.cell? ⟨b,off+j,none⟩=some u:=fun j u hu=>by
        obtain ⟨i,r,x,rfl,hr,hxi,hxr⟩:=flatten_at hlen hu
        have hi:i<len:=by
         have:=(List.getElem?_eq_some_iff.1 hxi).1;simpa using this
        have hx':x=f i:=by
         rw[List.getElem?_map,List.getElem?_range hi] at hxi
         exact(Option.some.inj hxi).symm
        subst hx'
        have h3:=(cells?_spec (hf i hi)).2 r u hxr
        rw[hadd,hadd',Nat.add_assoc] at h3
        exact h3
       refine .inr ⟨b,off,cap,rfl,?_,by omega,hcell⟩
       have h1:=cells?_spec (hf 0 (by omega))
       obtain ⟨u,hu⟩:∃ u,(f 0)[0]? = some u:=⟨_,List.getElem?_eq_getElem (by rw[h1.1];omega)⟩
       have h2:=h1.2 0 u hu
       rw[hadd,hadd'] at h2
       exact World.block_lt_of_cell? w _ h2
  ·rename_i fs ht
   split at h
   ·rename_i ss e hss
    split at h
    ·rename_i he
     simp only[Option.some.injEq] at h;subst h
     obtain ⟨xs,n,_,_,hl,hxl,hfs⟩:=DataW.trod_struct ht hx
     have:=hasSh_fields (P:=P) (enc:=enc) ih (fuel:=n) (cs:=cs) fs.toList 0 ss (fun f hf=>by
      obtain ⟨i,hi,rfl⟩:=List.getElem_of_mem hf
      have h1:=hfs i _ (by simpa using Array.getElem?_eq_getElem (by simpa using hi))
      rw[List.getElem?_eq_getElem (by rw[hxl];simpa using hi)] at h1
      exact⟨_,by simpa using h1⟩) (by rw[hss,hl,he])
     simpa using this
    ·cases h
   ·cases h
  ·rename_i n e ht
   split at h
   ·rename_i hn
    simp only[Option.map_eq_some_iff] at h
    obtain ⟨s,hs,rfl⟩:=h
    obtain ⟨xs,m,_,_,hl,hxl,hfs⟩:=DataW.trod_array ht hx
    have:=hasSh_elems (P:=P) (enc:=enc) ih hs (fuel:=m) (n:=n) (cs:=cs) (fun i hi=>by
     have h1:=hfs i hi
     rw[List.getElem?_eq_getElem (by omega)] at h1
     exact⟨_,h1⟩) (by rw[hl,hn]) n (Nat.le_refl _)
    simpa using this
   ·cases h
  ·cases h
end
end
section
open Go.RowKit
theorem shb_cons {w:World} {s:Sh} {ss:List Sh} {l:List Value} (h:HasSh w (.agg (s::ss)) l):∃ c r,l=c++r∧HasSh w s c∧HasSh w (.agg ss) r:=by
 cases h with
 | cons s ss c r h1 h2=>exact⟨c,r,rfl,h1,h2⟩
theorem shb_nil {w:World} {l:List Value} (h:HasSh w (.agg []) l):l=[]:=by cases h;rfl
theorem shb_int {w:World} {k:IntKind} {l:List Value} (h:HasSh w (.int k) l):∃ n,l=[.int k n]∧(Lit.int k n).wf=true:=by cases h with|int _ n hn=>exact⟨n,rfl,hn⟩
theorem i64_wf {n:Int} (h:(Lit.int .i64 n).wf=true):-9223372036854775808≤n∧n≤9223372036854775807:=by
 simp[Lit.wf,IntKind.min,IntKind.max,IntKind.signed,IntKind.bits] at h
 omega
theorem u64_wf {n:Int} (h:(Lit.int .u64 n).wf=true):0≤n∧n≤18446744073709551615:=by
 simp[Lit.wf,IntKind.min,IntKind.max,IntKind.signed,IntKind.bits] at h
 omega
theorem slice_of_sh {α:Type} {f:α→List Value} {P:α→Prop} {w:World} {size:Nat} {e:Sh} (hd:∀ cs,HasSh w e cs→∃ x,cs=f x∧P x) {v:Value} (h:HasSh w (.slice size e) [v]):∃ xs:List α,SlT w f size v xs∧∀ x∈xs,P x:=by
 cases h with
 | slice size e sa n cap xss hl h1 h2 h3 h4 hr =>
  have key:∀ (xss:List (List Value)),(∀ x∈xss,HasSh w e x)→∃ xs:List α,xss.flatten=xs.flatMap f∧xss.length=xs.length∧∀ x∈xs,P x:=by
   intro xss
   induction xss with
   | nil=>exact fun _=>⟨[],rfl,rfl,by simp⟩
   | cons c r ih =>
    intro hx
    obtain ⟨xs,e1,e2,e3⟩:=ih fun x hx'=>hx x (by simp[hx'])
    obtain ⟨m,rfl,hm⟩:=hd c (hx c (by simp))
    refine⟨m::xs,by simp[e1],by simp[e2],?_⟩
    intro z hz
    rcases List.mem_cons.1 hz with rfl|hz
    ·exact hm
    ·exact e3 z hz
  obtain ⟨xs,e1,e2,e3⟩:=key xss h2
  refine⟨xs,?_,e3⟩
  unfold SlT
  rw[← e1,← e2,hl];exact hr
end
section
open Go.RowKit
def intL (z:Int):List Value:=[.int .i64 z]
instance:EL intL 1:=⟨fun _=>rfl,fun x u h=>by simp[intL] at h;subst h;rfl⟩
abbrev ptr (b:Nat):Value:=.pointer (some ⟨b,0,none⟩)
def u64L (z:Int):List Value:=[.int .u64 z]
instance:EL u64L 1:=⟨fun _=>rfl,fun x u h=>by simp[u64L] at h;subst h;rfl⟩
def U64 (z:Int):Prop:=0≤z∧z≤18446744073709551615
theorem drop_cons {α:Type} {l:List α} {k:Nat} {x:α} (h:l[k]? = some x):l.drop k=x::l.drop (k+1):=by
 obtain ⟨h1,h2⟩:=List.getElem?_eq_some_iff.1 h
 rw[List.drop_eq_getElem_cons h1,h2]
def I64 (m:Int):Prop:=-9223372036854775808≤m∧m≤9223372036854775807
theorem take_map {α β:Type} {f:α→β} {l:List α} {j:Nat} {y:α} (h:l[j]? = some y):(l.take (j+1)).map f=(l.take j).map f++[f y]:=by
 rw[List.take_add_one,h];simp
theorem arr_eq {cs:Array Value} {l:List Value} (h:cs.toList=l):cs=l.toArray:=by apply Array.toList_inj.1;simpa using h
end
section
open Go.RowKit
section
variable {ops:Array Oper} {Q:Exit→Act→World→Prop} {o:Oper} {a:Act} {w:World} {n:Nat} {l:List (Nat × Value)} {L:List Asn} {C:Value→List Asn→Prop}
theorem isW {rest:List Oper} (h:wpList Tryz.prog ops Q rest a w):wpList Tryz.prog ops Q rest a w:=h
theorem isP {E Fl:List Nat} {S:List (Nat × List Nat)} {σ done:List Nat} (h:PW Tryz.prog ops n Q E Fl S σ done l L):PW Tryz.prog ops n Q E Fl S σ done l L:=h
theorem isK {c:Operand} {x y:Code} (h:(Code.cond c x y).wp Tryz.prog Q a w):(Code.cond c x y).wp Tryz.prog Q a w:=h
theorem isL {c:Code} (h:(Code.loop c).wp Tryz.prog Q a w):(Code.loop c).wp Tryz.prog Q a w:=h
theorem isD {id:Nat} (h:(Code.region id ops true).wp Tryz.prog Q a w):(Code.region id ops true).wp Tryz.prog Q a w:=h
theorem acK {f:Operand} {xs:Array Operand} {ats:Array TypeId} {k:FuncId} {caps:Array Value} {vs us:List Value} {L1:List Asn} {D:Value→List Asn→Prop} (hs:Spec k us L1 D) (hi:∀ v L',D v L'→C v L')
  (ho:o.op=.call {callee:=.value f,args:=xs,argTypes:=ats}:=by exact rfl) (hf:evl l f=some (.func (.func k) #[] caps):=by exact rfl) (hfk:FK k:=by exact inferInstance) (hx:evls l xs.toList=some vs:=by exact rfl) (hu:vs++caps.toList=us:=by exact rfl) (hp:Perms L L1:=by exact permsA):AC o l L n C :=
 ac_call ho hf hfk hx hu ((hs.mono hi).pre hp)
theorem acW {f:Operand} {xs:Array Operand} {ats:Array TypeId} {k:FuncId} {caps:Array Value} {vs us:List Value} {D:Value→List Asn→Prop} (hs:Spec k us L D) (hi:∀ v L',D v L'→C v L')
  (ho:o.op=.call {callee:=.value f,args:=xs,argTypes:=ats}:=by exact rfl) (hf:evl l f=some (.func (.func k) #[] caps):=by exact rfl) (hfk:FK k:=by exact inferInstance) (hx:evls l xs.toList=some vs:=by exact rfl) (hu:vs++caps.toList=us:=by exact rfl):AC o l L n C :=
 ac_call ho hf hfk hx hu (hs.mono hi)
theorem rt_idxA {t:TypeId} {x y:Operand} (ho:o.op=.index t x y) {cs:List Value} (hx:evl l x=some (.agg cs.toArray)) {kd:IntKind} {j:Int} (hy:evl l y=some (.int kd j)) {len e size k:Nat} (ht:AT t len e size) (hkt:KT e (some k)) (h0:0≤j) (h1:j<len) {ds:List Value} (hd:(cs.drop (j.toNat*size)).take k=ds):RT o l L n (.agg ds.toArray):=fun a w F M=>by
 subst hd
 obtain ⟨hu,hs⟩:=ht.k
 have hz:(sizeOf e).run Tryz.prog w=.ok size w:=by
  cases hi:Tryz.prog.info? e with
  | none=>rw[hi] at hs;cases hs
  | some ie =>
   rw[hi] at hs
   have hs:=Option.some.inj hs
   simp[sizeOf,typeInfo,hi,hs]
 have hk:size=k:=by
  have h2:=(run_isAgg (t:=e) w).2
  rw[hz] at h2
  simpa using h2
 unfold execOp
 rw[ho]
 have hr:(Instr.index t (.agg cs.toArray) (.int kd j)).run Tryz.prog w=.ok (.agg ((cs.drop (j.toNat*size)).take k).toArray) w:=by
  subst hk
  simp[Instr.index,asIntOf,run_underlying hu w,h0,h1,hz,part,(run_isAgg (t:=e) w).1,List.extract_eq_take_drop]
 simp[F.eval hx,F.eval hy,hr]
theorem rt_min2 {xs:Array Operand} {ats:Array TypeId} (ho:o.op=.call {callee:=.builtin .min,args:=xs,argTypes:=ats}) {k:IntKind} {x y r:Int} (hx:evls l xs.toList=some [.int k x,.int k y]) (hr:(if y<x then y else x)=r):RT o l L n (.int k r) :=
 rt_min ho hx (by subst hr;simp[minL])
theorem rt_max2 {xs:Array Operand} {ats:Array TypeId} (ho:o.op=.call {callee:=.builtin .max,args:=xs,argTypes:=ats}) {k:IntKind} {x y r:Int} (hx:evls l xs.toList=some [.int k x,.int k y]) (hr:(if y>x then y else x)=r):RT o l L n (.int k r) :=
 rt_max ho hx (by subst hr;simp[maxL])
end
end
section
open Go.RowKit
section
variable {ops:Array Oper} {Q:Exit→Act→World→Prop} {rest:List Oper} {o:Oper} {a:Act} {w:World} {n:Nat} {l l':List (Nat × Value)} {L L':List Asn}
def ZOn (ops:Array Oper) (o:Oper) (n:Nat) (l:List (Nat × Value)) (L:List Asn) (l':List (Nat × Value)) (L':List Asn):Prop:=∀ (Q:Exit→Act→World→Prop) (rest:List Oper) (a:Act) (w:World),Fr a n l→Mem w L→(∀ a w,Fr a n l'→Mem w L'→wpList Tryz.prog ops Q rest a w)→wpList Tryz.prog ops Q (o::rest) a w
theorem zo1 {d:Nat} {v:Value} (hw:Wanted o ops l=some true:=by exact rfl) (hd:o.dst=some d:=by exact rfl) (hn:Nat.ble (d+1) n=true:=by exact rfl) (hr:RT o l L n v:=by exact rtA):ZOn ops o n l L ((d,v)::l) L:=fun _ _ _ w F M h=>sv_run F M hw hd hn hr fun a' F'=>h a' w F' M
theorem zo3 {v:Value} (hw:Wanted o ops l=some true:=by exact rfl) (hd:o.dst=none:=by exact rfl) (s:∀ C:Value→List Asn→Prop,C v L'→AC o l L n C:=by(intro C h;exact acB h)):ZOn ops o n l L l L':=fun _ _ a _ F M h=>sv_act0 F M hw hd (s _ fun w' M'=>h a w' F M')
theorem zoK {d:Nat} (hw:Wanted o ops l=some false:=by exact rfl) (hd:o.dst=some d:=by exact rfl) (hn:Nat.ble (d+1) n=true:=by exact rfl):ZOn ops o n l L ((d,undef)::l) L:=fun _ _ _ w F M h=>sx_skip F hw hd hn fun a' F'=>h a' w F' M
theorem zoK0 (hw:Wanted o ops l=some false:=by exact rfl) (hd:o.dst=none:=by exact rfl):ZOn ops o n l L l L:=fun _ _ a w F M h=>sx_skip0 F hw hd (h a w F M)
theorem zn1 (F:Fr a n l) (M:Mem w L) (h:∀ a w,Fr a n l'→Mem w L'→wpList Tryz.prog ops Q rest a w) (s:ZOn ops o n l L l' L':=by(first|exact zo1|exact zo3|exact zoK|exact zoK0)):wpList Tryz.prog ops Q (o::rest) a w:=s Q rest a w F M h
section
variable {E Fl:List Nat} {S:List (Nat × List Nat)} {σ done:List Nat} {i:Nat}
def ZPo (ops:Array Oper) (n:Nat) (E Fl:List Nat) (S:List (Nat × List Nat)) (i:Nat) (done:List Nat) (l:List (Nat × Value)) (L:List Asn) (l':List (Nat × Value)) (L':List Asn):Prop:=∀ (Q:Exit→Act→World→Prop) (σ:List Nat),PW Tryz.prog ops n Q E Fl S σ (i::done) l' L'→PW Tryz.prog ops n Q E Fl S (i::σ) done l L
theorem zq1 {d:Nat} {v:Value} (hi:ops[i]? = some o:=by exact rfl) (hf:Fl.contains i=false:=by exact rfl) (he:E.contains i=false:=by exact rfl) (hw:Wanted o ops l=some true:=by exact rfl) (hd:o.dst=some d:=by exact rfl) (hr:RT o l L n v:=by exact rtA):ZPo ops n E Fl S i done l L ((d,v)::l) L:=fun _ _ h=>pv_run hi hf he hw hd hr h
theorem zq3 {v:Value} {js:List Nat} (hi:ops[i]? = some o:=by exact rfl) (hf:Fl.contains i=false:=by exact rfl) (he:E.contains i=true:=by exact rfl) (hw:Wanted o ops l=some true:=by exact rfl) (hd:o.dst=none:=by exact rfl) (hj:lookS S i=js:=by exact rfl)
  (s:∀ C:Value→List Asn→Prop,C v L'→AC o l L n C:=by(intro C h;exact acB h)) (hr:Rvs Tryz.prog ops n js l L':=by exact rvsA):ZPo ops n E Fl S i done l L l L':=fun _ _ h=>pv_act0 hi hf he hw hd hj (s _ ⟨hr,h⟩)
theorem zqK {d:Nat} (hi:ops[i]? = some o:=by exact rfl) (hf:Fl.contains i=false:=by exact rfl) (hw:Wanted o ops l=some false:=by exact rfl) (hd:o.dst=some d:=by exact rfl):ZPo ops n E Fl S i done l L ((d,undef)::l) L:=fun _ _ h=>pvK h hi hf hw hd
theorem zqK0 (hi:ops[i]? = some o:=by exact rfl) (hf:Fl.contains i=false:=by exact rfl) (he:E.contains i=true:=by exact rfl) (hw:Wanted o ops l=some false:=by exact rfl) (hd:o.dst=none:=by exact rfl):ZPo ops n E Fl S i done l L l L:=fun _ _ h=>pvK0 h hi hf he hw hd
theorem zp1 (h:PW Tryz.prog ops n Q E Fl S σ (i::done) l' L') (s:ZPo ops n E Fl S i done l L l' L':=by(first|exact zq1|exact zq3|exact zqK|exact zqK0)):PW Tryz.prog ops n Q E Fl S (i::σ) done l L:=s Q σ h
def ZPb (ops:Array Oper) (n:Nat) (E Fl:List Nat) (S:List (Nat × List Nat)) (i:Nat) (done:List Nat) (l:List (Nat × Value)) (L:List Asn) (l':Nat→List (Nat × Value)) (L':Nat→List Asn):Prop:=∀ (Q:Exit→Act→World→Prop) (σ:List Nat),(∀ b,PW Tryz.prog ops n Q E Fl S σ (i::done) (l' b) (L' b))→PW Tryz.prog ops n Q E Fl S (i::σ) done l L
theorem zb2 {d:Nat} {fv:Nat→Value} {fL:Nat→List Asn} {js:List Nat} (hi:ops[i]? = some o:=by exact rfl) (hf:Fl.contains i=false:=by exact rfl) (he:E.contains i=true:=by exact rfl) (hw:Wanted o ops l=some true:=by exact rfl) (hd:o.dst=some d:=by exact rfl) (hj:lookS S i=js:=by exact rfl)
  (s:∀ C:Value→List Asn→Prop,(∀ b,C (fv b) (fL b))→AC o l L n C:=by(intro C h;exact acA h)) (hr:∀ b,Rvs Tryz.prog ops n js ((d,fv b)::l) (fL b):=by(intro b;exact rvsA)):ZPb ops n E Fl S i done l L (fun b=>(d,fv b)::l) fL:=fun _ _ h=>pv_act hi hf he hw hd hj (s _ fun b=>⟨hr b,h b⟩)
theorem zbF {t:TypeId} {cs:List Value} {d:Nat} (hi:ops[i]? = some o:=by exact rfl) (hf:Fl.contains i=true:=by exact rfl) (ho:o.op=.alloc t:=by exact rfl) (hz:ZT t cs:=by exact inferInstance) (hd:o.dst=some d:=by exact rfl):ZPb ops n E Fl S i done l L (fun b=>(d,.pointer (some ⟨b,0,none⟩))::l) (fun b=>pt b cs t::L):=fun _ _ h=>pv_float hi hf ho hz hd h
theorem zp2 {fl:Nat→List (Nat × Value)} {fL:Nat→List Asn} (h:∀ b,PW Tryz.prog ops n Q E Fl S σ (i::done) (fl b) (fL b)) (s:ZPb ops n E Fl S i done l L fl fL:=by(first|exact zb2|exact zbF)):PW Tryz.prog ops n Q E Fl S (i::σ) done l L:=s Q σ h
end
class ZG (p:Prop):Prop where
 t:True
instance zg1:ZG (wpList Tryz.prog ops Q rest a w):=⟨trivial⟩
instance zg2 {E Fl:List Nat} {S:List (Nat × List Nat)} {σ done:List Nat}:ZG (PW Tryz.prog ops n Q E Fl S σ done l L):=⟨trivial⟩
instance zg3 {c:Code}:ZG ((Code.loop c).wp Tryz.prog Q a w):=⟨trivial⟩
theorem zG {p:Prop} [ZG p] (h:p):p:=h
structure ZR where
 id:Nat
 E:List Nat
 Fl:List Nat
 S:List (Nat × List Nat)
 σ:List Nat
def zfind:List ZR→Nat→Option ZR
 | [],_=>none
 | r::rs,i=>cond (Nat.beq r.id i) (some r) (zfind rs i)
theorem zD {id:Nat} (D:List ZR) (F:Fr a n l) (M:Mem w L) {E Fl:List Nat} {S:List (Nat × List Nat)} {σ:List Nat} {i:Nat} (h:PW Tryz.prog ops n Q E Fl S σ [] l L) (hf:zfind D id=some ⟨i,E,Fl,S,σ⟩:=by exact rfl) (hok:drawOK ops E Fl S σ n=true:=by kernel_rfl) (hFl:FlOK Tryz.prog ops Fl:=by(first|(focus ((repeat (first|exact flok_nil|(apply flok_cons;(exact rfl);(exact rfl);(exact inferInstance);(exact rfl);(exact rfl))));done))|fail)):(Code.region id ops true).wp Tryz.prog Q a w:=sv_draw E Fl S σ F M hok hFl h
def ZS (p q:Prop):Prop:=q→p
theorem zs1 {id:Nat} {os:List Oper}:ZS ((Code.region id os.toArray false).wp Tryz.prog Q a w) (wpList Tryz.prog os.toArray Q os a w):=fun h=>sx_region h
theorem zs2 {c:Code}:ZS ((Code.scope c).wp Tryz.prog Q a w) (c.wp Tryz.prog (Exit.noGoto Q) a w):=fun h=>wp_scope_straight h
theorem zs3 {k:Nat}:ZS ((Code.label k).wp Tryz.prog Q a w) (Q .normal a w):=fun h=>wp_label h
theorem zs4 {c:Operand} {x y:Code} (F:Fr a n l) (hc:evl l c=some (.bool true)):ZS ((Code.cond c x y).wp Tryz.prog Q a w) (x.wp Tryz.prog Q a w):=fun h=>sx_cond_t F hc h
theorem zs5 {c:Operand} {x y:Code} (F:Fr a n l) (hc:evl l c=some (.bool false)):ZS ((Code.cond c x y).wp Tryz.prog Q a w) (y.wp Tryz.prog Q a w):=fun h=>sx_cond_f F hc h
theorem zT {p q:Prop} (F:Fr a n l) (h:q) (s:ZS p q:=by(first|with_reducible exact zs1|with_reducible exact zs2|with_reducible exact zs3|((with_reducible refine zs4 F ?_);exact rfl)|((with_reducible refine zs5 F ?_);exact rfl))):p:=s h
theorem zE {e:Exit} {fn:Func} {R:Ending→World→Prop} {rs:List ResultVar} {vs:List Value} {v:Value} (F:Fr a n l) (M:Mem w L) (hR:R (.returned v) w) (he:e=.normal∨e=.ret:=by(first|exact .inl rfl|exact .inr rfl)) (hf:fn.results=rs.toArray:=by exact rfl) (hr:Ress L l rs vs:=by(first|(focus ((repeat (first|exact Ress.nil|(apply Ress.cons)|(apply Res.tmp;exact rfl)|(apply Res.agg;(exact rfl);(exact inferInstance);((focus ((repeat (first|exact Pull.here|apply Pull.there));done)));(exact rfl))|(apply Res.one;(exact rfl);(exact inferInstance);((focus ((repeat (first|exact Pull.here|apply Pull.there));done)));(exact rfl))));done))|fail)) (hv:tupOf vs=v:=by exact rfl):bodyPost Tryz.prog fn R e a w:=by
 rcases he with rfl|rfl
 ·exact sx_end F M hf hr hv hR
 ·exact sx_ret F M hf hr hv hR
theorem zc {α:Type _} {a:α} {ls ms:List α}:(a::ls)++ms=a::(ls++ms):=rfl
theorem zn {α:Type _} {ls:List α}:[]++ls=ls:=rfl
def ZY (_p:Prop):Prop:=True
theorem zyG {p:Prop} [ZG p]:ZY p:=trivial
theorem zY {p:Prop} (h:p) (s:ZY p:=by((fail_if_success(with_reducible exact zyG));exact trivial)):p:=h
theorem zh (F:Fr a n l) {b:Bool} (h1:b=true→wpList Tryz.prog ops Q (o::rest) a w) (h2:b=false→wpList Tryz.prog ops Q (o::rest) a w) (hg:guardOf o ops l=some (.bool b):=by exact rfl):wpList Tryz.prog ops Q (o::rest) a w:=sx_guardb F hg h1 h2
theorem zX {e:Exit} {fn:Func} {R:Ending→World→Prop} {rs:List ResultVar} {vs:List Value} {v:Value} (F:Fr a n l) (M:Mem w L) (he:e=.normal∨e=.ret:=by(first|exact .inl rfl|exact .inr rfl)) (hf:fn.results=rs.toArray:=by exact rfl) (hr:Ress L l rs vs:=by(first|(focus ((repeat (first|exact Ress.nil|(apply Ress.cons)|(apply Res.tmp;exact rfl)|(apply Res.agg;(exact rfl);(exact inferInstance);((focus ((repeat (first|exact Pull.here|apply Pull.there));done)));(exact rfl))|(apply Res.one;(exact rfl);(exact inferInstance);((focus ((repeat (first|exact Pull.here|apply Pull.there));done)));(exact rfl))));done))|fail)) (hv:tupOf vs=v:=by exact rfl) (hR:R (.returned v) w:=by exact⟨_,_,rfl,⟨rfl,rfl⟩,M.perms permsA⟩):bodyPost Tryz.prog fn R e a w:=zE F M hR he hf hr hv
end
end
end Go.Proofs.YtjbfcacmdahnhaaGreat
