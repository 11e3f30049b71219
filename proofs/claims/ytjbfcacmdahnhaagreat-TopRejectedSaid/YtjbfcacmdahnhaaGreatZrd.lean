import Derived.Test.YtjbfcacmdahnhaaGreatZrc
set_option linter.unusedVariables false
set_option linter.unusedSimpArgs false
set_option linter.unusedSectionVars false
set_option maxRecDepth 100000
set_option maxHeartbeats 8000000
namespace Go.Proofs.YtjbfcacmdahnhaaGreat
section
open Go.RowKit
theorem wp_loop_ghost {P:Program} {Q:Exit→Act→World→Prop} {c:Code} {σ:Type} (I:σ→Act→World→Prop) (μ:σ→Nat)
  (round:∀ s a w,I s a w→c.wp P (Exit.then (fun a' w'=>∃ s',I s' a' w'∧μ s'<μ s) Q) a w) {a:Act} {w:World} (s0:σ) (h0:I s0 a w):(Code.loop c).wp P Q a w:=by
 intro b k cs
 have key:∀ (n:Nat) (s:σ) (a:Act) (w:World),μ s=n→I s a w→∃ e a' w',Q e a' w'∧Arrives P (lone (b.at a (.code c::.inLoop c::k)) cs w) b k cs e a' w':=by
  intro n
  induction n using Nat.strongRecOn with
  | _ n ih =>
   intro s a w hn hI
   obtain ⟨e,a1,w1,hq,harr⟩:=round s a w hI b (.inLoop c::k) cs
   cases e with
   | normal =>
    obtain ⟨s',hI1,hlt⟩:=hq
    obtain ⟨e2,a2,w2,hq2,harr2⟩:=ih (μ s') (hn ▸ hlt) s' a1 w1 rfl hI1
    exact⟨e2,a2,w2,hq2,.of_steps (Steps.trans harr (.one step_inLoop)) harr2⟩
   | exit id=>exact⟨_,a1,w1,hq,.pass (x:=.inLoop c) rfl (fun _ _=>.inl (by simp)) harr⟩
   | goto l=>exact⟨_,a1,w1,hq,.pass (x:=.inLoop c) rfl (fun _ _=>.inl (by simp)) harr⟩
   | ret=>exact⟨_,a1,w1,hq,.pass (x:=.inLoop c) rfl (fun _ _=>.inl (by simp)) harr⟩
   | panic ch=>exact⟨_,a1,w1,hq,.pass (x:=.inLoop c) rfl (fun _ _=>.inl (by simp)) harr⟩
   | outgrown=>exact⟨_,a1,w1,hq,.pass (x:=.inLoop c) rfl (fun _ _=>.inl (by simp)) harr⟩
 obtain ⟨e,a',w',hq,harr⟩:=key _ s0 a w rfl h0
 exact⟨e,a',w',hq,.of_steps (.one step_loop) harr⟩
section
variable {Q:Exit→Act→World→Prop} {a:Act} {w:World} {n:Nat} {l:List (Nat × Value)} {L:List Asn}
theorem sv_loop {c:Code} {σ:Type} (lf:σ→List (Nat × Value)) (Lf:σ→List Asn) (Pf:σ→Prop) (μ:σ→Nat) (F:Fr a n l) (M:Mem w L)
  (s0:σ) (h0:∀ p∈lf s0,look l p.1=some p.2) (hL:Perms L (Lf s0)) (hP:Pf s0)
  (round:∀ s,Pf s→∀ a w,Fr a n (lf s)→Mem w (Lf s)→c.wp Tryz.prog (Exit.then (fun a' w'=>∃ s',(Fr a' n (lf s')∧Mem w' (Lf s')∧Pf s')∧μ s'<μ s) Q) a w):(Code.loop c).wp Tryz.prog Q a w :=
 wp_loop_ghost (fun s a w=>Fr a n (lf s)∧Mem w (Lf s)∧Pf s) μ (fun s a w ⟨h1,h2,h3⟩=>round s h3 a w h1 h2) s0 ⟨F.keep h0,M.perms hL,hP⟩
theorem sv_again {σ:Type} {lf:σ→List (Nat × Value)} {Lf:σ→List Asn} {Pf:σ→Prop} {μ:σ→Nat} {m:Nat} (F:Fr a n l) (M:Mem w L) (s':σ) (h0:∀ p∈lf s',look l p.1=some p.2) (hL:Perms L (Lf s')) (hP:Pf s') (hμ:μ s'<m) :
  ∃ s',(Fr a n (lf s')∧Mem w (Lf s')∧Pf s')∧μ s'<m:=⟨s',⟨F.keep h0,M.perms hL,hP⟩,hμ⟩
end
class EL {α:Type} (f:α→List Value) (k:outParam Nat):Prop where
 len:∀ x,(f x).length=k
 one:∀ x,∀ u∈f x,u.oneCell'=true
def vb:Value→Nat
 | .slice (some a) _ _=>a.block
 | _=>0
def vo:Value→Nat
 | .slice (some a) _ _=>a.off
 | _=>0
theorem flat_get {α:Type} {f:α→List Value} {k:Nat} (h:∀ x,(f x).length=k):∀ (xs:List α) (j i:Nat) (x:α),xs[j]? = some x→i<k→(xs.flatMap f)[j*k+i]? = (f x)[i]?
 | [],j,i,x,hj,_=>by simp at hj
 | y::r,0,i,x,hj,hi=>by
  obtain rfl:y=x:=by simpa using hj
  rw[List.flatMap_cons,Nat.zero_mul,Nat.zero_add,List.getElem?_append_left (by rw[h];exact hi)]
 | y::r,j+1,i,x,hj,hi=>by
  rw[List.flatMap_cons,List.getElem?_append_right (by rw[h,Nat.succ_mul];omega),h,show(j+1)*k+i - k=j*k+i by rw[Nat.succ_mul];omega]
  exact flat_get h r j i x (by simpa using hj) hi
theorem flat_one {α:Type} {f:α→List Value} {k:Nat} [h:EL f k] (xs:List α):∀ u∈xs.flatMap f,u.oneCell'=true:=fun u hu=>by
 obtain ⟨x,_,hx⟩:=List.mem_flatMap.1 hu
 exact h.one x u hx
theorem flat_drop {α:Type} {f:α→List Value} {k:Nat} (h:∀ x,(f x).length=k):∀ (xs:List α) (i:Nat),(xs.flatMap f).drop (i*k)=(xs.drop i).flatMap f
 | xs,0=>by simp
 | [],i+1=>by simp
 | x::r,i+1=>by
  rw[List.flatMap_cons,Nat.succ_mul,Nat.add_comm,← List.drop_drop,show k=(f x).length from (h x).symm,List.drop_left,h,flat_drop h r i,List.drop_succ_cons]
theorem flat_take {α:Type} {f:α→List Value} {k:Nat} (h:∀ x,(f x).length=k):∀ (xs:List α) (i:Nat),(xs.flatMap f).take (i*k)=(xs.take i).flatMap f
 | xs,0=>by simp
 | [],i+1=>by simp
 | x::r,i+1=>by
  rw[List.flatMap_cons,List.take_succ_cons,List.flatMap_cons,← flat_take h r i,Nat.succ_mul,Nat.add_comm]
  have e:(f x).length=k:=h x
  rw[List.take_append,e,List.take_of_length_le (by omega),show k+i*k - k=i*k by omega]
theorem flat_set {α:Type} {f:α→List Value} {k:Nat} (h:∀ x,(f x).length=k):∀ (xs:List α) (j i:Nat) (x:α) (v:Value),xs[j]? = some x→i<k→∀ y,f y=(f x).set i v→(xs.flatMap f).set (j*k+i) v=(xs.set j y).flatMap f
 | [],j,i,x,v,hj,_,_,_=>by simp at hj
 | z::r,0,i,x,v,hj,hi,y,hy=>by
  obtain rfl:z=x:=by simpa using hj
  rw[List.flatMap_cons,Nat.zero_mul,Nat.zero_add,List.set_append_left _ _ (by rw[h];exact hi),List.set_cons_zero,List.flatMap_cons,hy]
 | z::r,j+1,i,x,v,hj,hi,y,hy=>by
  rw[List.flatMap_cons,List.set_append_right _ _ (by rw[h,Nat.succ_mul];omega),h,show(j+1)*k+i - k=j*k+i by rw[Nat.succ_mul];omega,List.set_cons_succ,List.flatMap_cons,
   flat_set h r j i x v (by simpa using hj) hi y hy]
def SlT {α:Type} (w:World) (f:α→List Value) (k:Nat) (v:Value) (xs:List α):Prop:=SlR w k v xs.length (xs.flatMap f)
abbrev ownT {α:Type} (e:TypeId) (f:α→List Value) (k:Nat) (v:Value) (xs:List α):Asn:=own e k v xs.length (xs.flatMap f)
section
variable {ops:Array Oper} {Q:Exit→Act→World→Prop} {rest:List Oper} {o:Oper} {a:Act} {w:World} {n:Nat} {l:List (Nat × Value)} {L:List Asn} {C:Value→List Asn→Prop}
theorem SlR.at {size:Nat} {v:Value} {m:Nat} {xs:List Value} (h:SlR w size v m xs) (hm:0<m):∃ cap,v=.slice (some ⟨vb v,vo v,none⟩) m cap∧∀ j u,xs[j]? = some u→w.cell? ⟨vb v,vo v+j,none⟩=some u:=by
 obtain ⟨b,off,cap,rfl,_,hc⟩:=h.openSome hm
 exact⟨cap,rfl,hc⟩
def GS (L:List Asn) (size:Nat) (v:Value) (m:Nat) (xs:List Value):Prop:=Gives L fun w=>SlR w size v m xs
theorem gs_old {w0:World} {size m:Nat} {v:Value} {xs:List Value} (h:SlR w0 size v m xs) {L':List Asn} (hp:Pull L (Old w0) L'):GS L size v m xs:=Old.slr h hp
theorem gs_oldT {α:Type} {w0:World} {f:α→List Value} {k:Nat} {v:Value} {xs:List α} (h:SlT w0 f k v xs) {L':List Asn} (hp:Pull L (Old w0) L'):GS L k v xs.length (xs.flatMap f):=Old.slr h hp
theorem gs_own {e:TypeId} {size:Nat} {v:Value} {m:Nat} {xs:List Value} {L':List Asn} (hp:Pull L (own e size v m xs) L'):GS L size v m xs:=gives_own hp
def roA (size:Nat) (v:Value) (m:Nat) (xs:List Value):Asn:=fun _ w=>SlR w size v m xs∧∃ p c,v=.slice p m c∧m≤c
theorem gs_ro {size:Nat} {v:Value} {m:Nat} {xs:List Value} {L':List Asn} (hp:Pull L (roA size v m xs) L'):GS L size v m xs:=fun w M=>by
 obtain ⟨s,hs,_⟩:=(M.pull hp).head
 exact hs.1
theorem Mem.ro {e:TypeId} {size:Nat} {v:Value} {m:Nat} {xs:List Value} {w:World} (M:Mem w (own e size v m xs::L)):Mem w (roA size v m xs::L) :=
 M.imp fun s w' h=>⟨own_slr h,by
  rcases h.2 with⟨rfl,rfl,_⟩|⟨g,cap,cur,rfl,_,_,hm,_⟩
  ·exact⟨_,_,rfl,Nat.le_refl _⟩
  ·exact⟨_,_,rfl,hm⟩⟩
theorem GS.tail {A:Asn} {size:Nat} {v:Value} {m:Nat} {xs:List Value} (h:GS L size v m xs):GS (A::L) size v m xs:=fun w M=>h w M.drop
theorem GS.nil (L:List Asn) (size:Nat):GS L size (.slice none 0 0) 0 []:=fun w _=>SlR.nil w size
theorem rt_lenG {x:Operand} {ats:Array TypeId} {t:TypeId} (ho:o.op=.call {callee:=.builtin .len,args:=#[x],argTypes:=ats}) (hat:ats = #[t]) {v:Value} (hx:evl l x=some v) {e:TypeId} {z:Value} {size bytes:Nat} (ht:ST t e z size bytes) {m:Nat} {xs:List Value} (hg:GS L size v m xs):RT o l L n (.int .i64 m):=fun a w F M=>by
 obtain ⟨p,c,rfl⟩:=(hg w M).form
 exact rt_lenS (L:=L) ho hat hx ht a w F M
theorem rt_indexG {t:TypeId} {x y:Operand} (ho:o.op=.indexAddr t x y) {v:Value} (hx:evl l x=some v) {k:IntKind} {j:Int} (hy:evl l y=some (.int k j)) {e:TypeId} {z:Value} {size bytes:Nat} (ht:ST t e z size bytes) {m:Nat} {xs:List Value} (hg:GS L size v m xs) (h0:0≤j) (h1:j<m):RT o l L n (.pointer (some ⟨vb v,vo v+j.toNat*size,none⟩)):=fun a w F M=>by
 obtain ⟨cap,hv,_⟩:=(hg w M).at (by omega)
 have hx':=hx
 rw[hv] at hx'
 exact rt_indexS (L:=L) ho hx' hy ht h0 h1 rfl a w F M
theorem rt_load_at {t:TypeId} {x:Operand} (ho:o.op=.load t x) {v:Value} {p:Nat} (hx:evl l x=some (.pointer (some ⟨vb v,vo v+p,none⟩))) (hkt:KT t none) {size m:Nat} {xs:List Value} (hg:GS L size v m xs) {u:Value} (hu:xs[p]? = some u):RT o l L n u :=
 rt_loadg ho hx hkt fun w M=>by
  have h:=hg w M
  have hm:0<m:=by
   rcases Nat.eq_zero_or_pos m with h0|h0
   ·subst h0
    have:xs=[]:=List.eq_nil_of_length_eq_zero (by simpa using h.1)
    subst this;simp at hu
   ·exact h0
  obtain ⟨cap,_,hc⟩:=h.at hm
  exact hc p u hu
theorem rt_load_atA {t:TypeId} {x:Operand} (ho:o.op=.load t x) {v:Value} {p:Nat} (hx:evl l x=some (.pointer (some ⟨vb v,vo v+p,none⟩))) {k:Nat} (hkt:KT t (some k)) {size m:Nat} {xs:List Value} (hg:GS L size v m xs) {cs:List Value} (hk:cs.length=k) (hk0:0<k) (hu:∀ i,i<k→xs[p+i]? = cs[i]?):RT o l L n (.agg cs.toArray) :=
 rt_loadgA ho hx hkt hk fun w M=>by
  have h:=hg w M
  have hm:0<m:=by
   rcases Nat.eq_zero_or_pos m with h0|h0
   ·subst h0
    have:xs=[]:=List.eq_nil_of_length_eq_zero (by simpa using h.1)
    subst this
    have h2:=(hu 0 hk0).symm
    rw[List.getElem?_eq_getElem (by omega)] at h2
    simp at h2
   ·exact h0
  obtain ⟨cap,_,hc⟩:=h.at hm
  intro j u hj
  have hjk:j<k:=by
   have:=(List.getElem?_eq_some_iff.1 hj).1;omega
  rw[Nat.add_assoc]
  exact hc (p+j) u (by rw[hu j hjk];exact hj)
theorem rt_elem1 {α:Type} {f:α→List Value} {t:TypeId} {x:Operand} (ho:o.op=.load t x) {v:Value} {j:Nat} (hx:evl l x=some (.pointer (some ⟨vb v,vo v+j*1,none⟩))) (hkt:KT t none) {m:Nat} {xs:List α} (hg:GS L 1 v m (xs.flatMap f)) (he:EL f 1) {y:α} (hy:xs[j]? = some y) {u:Value} (hu:(f y)[0]? = some u):RT o l L n u :=
 rt_load_at ho hx hkt hg (by have:=flat_get he.len xs j 0 y hy (by omega);simp only[Nat.add_zero] at this;rw[this,hu])
theorem rt_elemA {α:Type} {f:α→List Value} {t:TypeId} {x:Operand} (ho:o.op=.load t x) {v:Value} {j k:Nat} (hx:evl l x=some (.pointer (some ⟨vb v,vo v+j*k,none⟩))) (hkt:KT t (some k)) {m:Nat} {xs:List α} (hg:GS L k v m (xs.flatMap f)) (he:EL f k) (hk0:Nat.ble 1 k=true) {y:α} (hy:xs[j]? = some y):RT o l L n (.agg (f y).toArray) :=
 rt_load_atA ho hx hkt hg (he.len y) (Nat.le_of_ble_eq_true hk0) fun i hi=>flat_get he.len xs j i y hy hi
theorem rt_elemF {α:Type} {f:α→List Value} {t:TypeId} {x:Operand} (ho:o.op=.load t x) {v:Value} {j k i:Nat} (hx:evl l x=some (.pointer (some ⟨vb v,vo v+j*k+i,none⟩))) (hkt:KT t none) {m:Nat} {xs:List α} (hg:GS L k v m (xs.flatMap f)) (he:EL f k) {y:α} (hy:xs[j]? = some y) {u:Value} (hu:(f y)[i]? = some u):RT o l L n u :=
 rt_load_at ho (p:=j*k+i) (by rw[← Nat.add_assoc];exact hx) hkt hg (by
  have hi:i<k:=by have:=(List.getElem?_eq_some_iff.1 hu).1;rw[he.len] at this;exact this
  rw[flat_get he.len xs j i y hy hi,hu])
theorem Spec.of_below_g {k:FuncId} {us us':List Value} {v:Value} {φ:World→Prop} (h:∀ w,φ w→Calls Tryz.prog k us'.toArray w fun e w'=>e=.returned v∧Below w.heap.size w w') (hg:Gives L φ) (hu:us=us') (hC:C v L):Spec k us L C:=by
 subst hu
 exact fun G w M=>(h w (hg w M.drop_app)).mono fun e w' ⟨he,hb⟩=>⟨v,L,he,hC,M.of_below hb⟩
def unidx:Nat→List (Nat × Value)→Option (List Value)
 | _,[]=>some []
 | k,(i,v)::r=>match Nat.beq i k,unidx (k+1) r with
  | true,some vs=>some (v::vs)
  | _,_=>none
def idxL:Nat→List Value→List (Nat × Value)
 | _,[]=>[]
 | k,v::r=>(k,v)::idxL (k+1) r
theorem unidx_spec:∀ (ps:List (Nat × Value)) (k:Nat) {vs:List Value},unidx k ps=some vs→ps=idxL k vs
 | [],k,vs,h=>by simp[unidx] at h;subst h;rfl
 | (i,v)::r,k,vs,h=>by
  simp only[unidx] at h
  split at h
  ·rename_i vs' h1 h2
   obtain rfl:=Option.some.inj h
   rw[Nat.eq_of_beq_eq_true h1,unidx_spec r (k+1) h2];rfl
  ·cases h
def cellsL:List Value→List Value
 | []=>[]
 | v::r=>partL v++cellsL r
def sizesOK (size:Nat):List Value→Bool
 | []=>true
 | v::r=>Nat.beq (partL v).length size && sizesOK size r
theorem fill_all (size:Nat):∀ (vs:List Value) (i:Nat) (cells:Array Value),sizesOK size vs=true→i*size+vs.length*size≤cells.size →
  Instr.fill (fun i=>some (i*size,size)) cells (idxL i vs)=some (cells.toList.take (i*size)++cellsL vs++cells.toList.drop (i*size+vs.length*size)).toArray∧(cellsL vs).length=vs.length*size
 | [],i,cells,_,_=>by simp[idxL,Instr.fill,cellsL]
 | v::r,i,cells,h,hle=>by
  simp only[sizesOK,Bool.and_eq_true] at h
  obtain ⟨h1,h2⟩:=h
  have h1:(partL v).length=size:=Nat.eq_of_beq_eq_true h1
  have hsz:v.cells.size=size:=by rw[← h1,← partL_eq];simp
  simp only[List.length_cons,Nat.succ_mul] at hle
  have hfold:(v.cells.zipIdx.foldl (fun cs x=>cs.setIfInBounds (i*size+x.2) x.1) cells).toList=cells.toList.take (i*size)++partL v++cells.toList.drop (i*size+size):=by
   rw[← Array.foldl_toList,Array.toList_zipIdx]
   have:=fold_set (i*size) v.cells.toList 0 cells
   simp only[Nat.add_zero] at this
   rw[this,setMany_eq _ _ _ (by simp[hsz];omega),partL_eq,h1]
  obtain ⟨k1,k2⟩:=fill_all size r (i+1) (v.cells.zipIdx.foldl (fun cs x=>cs.setIfInBounds (i*size+x.2) x.1) cells) h2 (by
   have:(v.cells.zipIdx.foldl (fun cs x=>cs.setIfInBounds (i*size+x.2) x.1) cells).size=cells.size:=by
    rw[← Array.length_toList,hfold];simp[h1];omega
   rw[this,Nat.succ_mul];omega)
  refine⟨?_,by simp only[cellsL,List.length_append,List.length_cons,k2,h1,Nat.succ_mul];omega⟩
  rw[idxL,Instr.fill]
  have hcond:¬((decide (v.cells.size≠size) || decide (i*size+v.cells.size>cells.size))=true):=by
   simp[hsz];omega
  simp only[if_neg hcond]
  have e:=k1
  rw[hfold] at e
  refine Eq.trans e ?_
  congr 2
  have l1:(cells.toList.take (i*size)).length=i*size:=by simp;omega
  have e1:(cells.toList.take (i*size)++partL v++cells.toList.drop (i*size+size)).take ((i+1)*size)=cells.toList.take (i*size)++partL v:=by
   rw[Nat.succ_mul]
   have:(cells.toList.take (i*size)++partL v).length=i*size+size:=by rw[List.length_append,l1,h1]
   rw[← this];exact List.take_left
  have e2:(cells.toList.take (i*size)++partL v++cells.toList.drop (i*size+size)).drop ((i+1)*size+r.length*size)=cells.toList.drop (i*size+(v::r).length*size):=by
   have:(cells.toList.take (i*size)++partL v).length=i*size+size:=by rw[List.length_append,l1,h1]
   rw[Nat.succ_mul,List.drop_append,List.drop_of_length_le (by rw[this];omega),List.nil_append,this,List.drop_drop]
   congr 1
   simp only[List.length_cons,Nat.succ_mul];omega
  rw[e1,e2]
  simp[cellsL]
theorem rt_buildA {t:TypeId} {parts:Array (Nat × Operand)} (ho:o.op=.build t parts) {zs:List Value} (hz:ZT t zs) {len e size:Nat} (ht:AT t len e size) {ps:List (Nat × Value)} (hv:evps l parts.toList=some ps) {vs:List Value} (hu:unidx 0 ps=some vs)
  (hl:Nat.beq zs.length (len*size)=true) (hs:sizesOK size vs=true) (hlen:Nat.beq vs.length len=true) {cs:List Value} (hcs:cellsL vs=cs):RT o l L n (.agg cs.toArray):=fun a w F M=>by
 subst hcs
 obtain ⟨i,z,hi,hzz,h3⟩:=zero_run hz
 have hl:zs.length=len*size:=Nat.eq_of_beq_eq_true hl
 have hlen:vs.length=len:=Nat.eq_of_beq_eq_true hlen
 have hps:=unidx_spec ps 0 hu
 have hparts:(parts.map fun x=>(x.1,a.eval x.2)).toList=idxL 0 vs:=by rw[← hps];have:=F.evps hv;simpa using this
 obtain ⟨k1,k2⟩:=fill_all size vs 0 zs.toArray hs (by simp[hl,hlen])
 have hzv:(zeroValue t).run Tryz.prog w=.ok z w:=by simp[zeroValue,typeInfo,hi,hzz]
 have hss:(sizeOf e).run Tryz.prog w=.ok size w:=by
  obtain ⟨j,hj,hj2⟩:=Option.map_eq_some_iff.1 ht.k.2
  simp[sizeOf,typeInfo,hj,hj2]
 have hd:(zs.toArray).toList.take (0*size)++cellsL vs++zs.toArray.toList.drop (0*size+vs.length*size)=cellsL vs:=by
  simp only[Nat.zero_mul,Nat.zero_add,List.take_zero,List.nil_append]
  rw[List.drop_of_length_le (by simp[hl,hlen]),List.append_nil]
 rw[hd] at k1
 unfold execOp
 rw[ho]
 simp only[Instr.build,Sem.run_bind,hzv,run_underlying ht.k.1 w,Result.andThen_ok,hss,h3,hparts,k1,Sem.run_pure]
theorem ac_buildSlice {t:TypeId} {len:Nat} {parts:Array (Nat × Operand)} (ho:o.op=.buildSlice t len parts) {e:TypeId} {z:Value} {size bytes:Nat} (ht:ST t e z size bytes) {ps:List (Nat × Value)} (hv:evps l parts.toList=some ps) {vs:List Value} (hu:unidx 0 ps=some vs) (hl:Nat.beq vs.length len=true) (hs:sizesOK size vs=true) (hsm:Nat.ble (len*size) 65536=true) {cs:List Value} (hcs:cellsL vs=cs)
  (h:∀ b,C (.slice (some ⟨b,0,none⟩) len len) (own e size (.slice (some ⟨b,0,none⟩) len len) len cs::L)):AC o l L n C:=fun G a w F M=>by
 subst hcs
 obtain ⟨i,hu1,hi,hz,hsize,hby,hzs,hsz⟩:=st_info ht
 have hl:vs.length=len:=Nat.eq_of_beq_eq_true hl
 have hsm:len*size≤65536:=Nat.le_of_ble_eq_true hsm
 have hps:=unidx_spec ps 0 hu
 have hparts:(parts.map fun x=>(x.1,a.eval x.2)).toList=idxL 0 vs:=by rw[← hps];have:=F.evps hv;simpa using this
 have key:∀ cells:Array Value,cells.size=len*size→Instr.fill (fun i=>some (i*size,size)) cells (idxL 0 vs)=some (cellsL vs).toArray:=fun cells hc=>by
  obtain ⟨k1,k2⟩:=fill_all size vs 0 cells hs (by rw[hc,hl];omega)
  rw[k1]
  congr 2
  simp only[Nat.zero_mul,Nat.zero_add,List.take_zero,List.nil_append]
  rw[List.drop_of_length_le (by rw[hl,Array.length_toList,hc];omega),List.append_nil]
 have hlen:(cellsL vs).length=len*size:=by
  obtain ⟨_,k2⟩:=fill_all size vs 0 (Array.replicate (len*size) undef) hs (by simp[hl])
  rw[k2,hl]
 have hrun:(execOp a.eval o).run Tryz.prog w=.ok (.value (.slice (some ⟨w.heap.size,0,none⟩) len len)) (w.alloc (.cells (cellsL vs).toArray e)):=by
  unfold execOp
  rw[ho]
  have hzv:(zeroValue e).run Tryz.prog w=.ok z w:=by simp[zeroValue,typeInfo,hi,hz]
  have h24:¬(len*size>2 ^ 24):=by omega
  have hk:=key ((Array.range (len*size)).map ((if len*size=0 then #[] else z.cells)[· % (if len*size=0 then #[] else z.cells).size]!)) (by simp)
  have hss:(sizeOf e).run Tryz.prog w=.ok size w:=by simp[sizeOf,typeInfo,hi,hsize]
  by_cases h0:len*size=0
  ·simp only[if_pos h0] at hk
   simp only[Instr.buildSlice,Sem.run_bind,run_underlying hu1 w,hss,Result.andThen_ok,if_neg h24,hparts,if_pos h0,Sem.run_pure,hk]
   simp[newRow,newObj,Sem.run]
  ·simp only[if_neg h0] at hk
   simp only[Instr.buildSlice,Sem.run_bind,run_underlying hu1 w,hss,Result.andThen_ok,if_neg h24,hparts,if_neg h0,Sem.run_pure,hzv,hk]
   simp[newRow,newObj,Sem.run]
 rw[hrun]
 refine⟨_,h _,?_⟩
 exact Mem.own_pt (M.alloc (cellsL vs) e) hlen (by simp only[maxLen];have:=Nat.le_mul_of_pos_right len hsz;omega)
theorem GS.len_le {size m:Nat} {v:Value} {xs:List Value} (h:GS L size v m xs) (M:Mem w L):m≤9223372036854775807:=(h w M).len_le
theorem GS.imp {K:List Asn} {size m:Nat} {v:Value} {xs:List Value} (h:GS L size v m xs) (hk:∀ w,Mem w K→Mem w L):GS K size v m xs:=fun w M=>h w (hk w M)
def Reads (k:FuncId) (us:List Value) (v:Value) (L:List Asn):Prop:=∀ K,(∀ w,Mem w K→Mem w L)→∀ w,Mem w K→Calls Tryz.prog k us.toArray w fun e w'=>e=.returned v∧Mem w' K
theorem Spec.of_reads {k:FuncId} {us us':List Value} {v:Value} (h:Reads k us' v L) (hu:us=us') (hC:C v L):Spec k us L C:=by
 subst hu
 exact fun G w M=>(h (L++G) (fun w M=>M.drop_app) w M).mono fun e w' ⟨he,hm⟩=>⟨v,L,he,hC,hm⟩
abbrev str (s:List UInt8):Value:=.string ⟨s.toArray⟩
theorem rt_cat {t ty:TypeId} {x y:Operand} (ho:o.op=.binOp .add t x y ty) {s r:List UInt8} (hx:evl l x=some (str s)) (hy:evl l y=some (str r)) (hb:s.length+r.length≤9223372036854775807):RT o l L n (str (s++r)):=fun a w F M=>by
 unfold execOp
 rw[ho]
 have:(ByteArray.mk s.toArray)++(ByteArray.mk r.toArray)=ByteArray.mk (s++r).toArray:=by
  apply ByteArray.ext;simp
 have h1:(ByteArray.mk s.toArray).size=s.length:=rfl
 have h2:(ByteArray.mk r.toArray).size=r.length:=rfl
 have h3:¬((s.length:Int)+(r.length:Int)>IntKind.i64.max):=by
  show ¬((s.length:Int)+(r.length:Int)>9223372036854775807)
  omega
 simp[F.eval hx,F.eval hy,eqGuard,binOp,Op.stringOp,this,h1,h2]
 omega
theorem rt_eqT {t ty:TypeId} {x y:Operand} (ho:o.op=.binOp .eql t x y ty) {s r:List UInt8} (hx:evl l x=some (str s)) (hy:evl l y=some (str r)):RT o l L n (.bool (decide (s=r))):=fun a w F M=>by
 unfold execOp
 rw[ho]
 simp[F.eval hx,F.eval hy,eqGuard,binOp,Op.stringOp,ByteArray.toList_mk]
 rw[Bool.eq_iff_iff];simp
theorem rt_neT {t ty:TypeId} {x y:Operand} (ho:o.op=.binOp .neq t x y ty) {s r:List UInt8} (hx:evl l x=some (str s)) (hy:evl l y=some (str r)):RT o l L n (.bool (decide (s≠r))):=fun a w F M=>by
 unfold execOp
 rw[ho]
 simp[F.eval hx,F.eval hy,eqGuard,binOp,Op.stringOp,ByteArray.toList_mk]
 rw[Bool.eq_iff_iff];simp
class PT (t:TypeId) (e:outParam TypeId):Prop where
 k:Tryz.prog.underlying t=some (.pointer e)∧(Tryz.prog.info? e).isSome=true
class TT (t:TypeId):Prop where
 k:Tryz.prog.underlying t=some .string
theorem rt_lenStr {x:Operand} {ats:Array TypeId} {t:TypeId} (ho:o.op=.call {callee:=.builtin .len,args:=#[x],argTypes:=ats}) (hat:ats = #[t]) {s:List UInt8} (hx:evl l x=some (str s)) (ht:TT t):RT o l L n (.int .i64 s.length):=rt_lenT ho hat hx ht.k
theorem rt_byte {t:TypeId} {x y:Operand} (ho:o.op=.index t x y) {s:List UInt8} (hx:evl l x=some (str s)) {k:IntKind} {j:Int} (hy:evl l y=some (.int k j)) (ht:TT t) (h0:0≤j) {b:UInt8} (hb:s[j.toNat]? = some b):RT o l L n (.int .u8 b.toNat):=fun a w F M=>by
 unfold execOp
 rw[ho]
 obtain ⟨hlt,hb'⟩:=List.getElem?_eq_some_iff.1 hb
 have h1:(ByteArray.mk s.toArray)[j.toNat]? = some b:=by
  have hs:j.toNat<(ByteArray.mk s.toArray).size:=hlt
  rw[getElem?_pos (ByteArray.mk s.toArray) j.toNat hs]
  congr 1
 simp[F.eval hx,F.eval hy,Instr.index,asIntOf,run_underlying ht.k w,h0,h1]
theorem rt_mid {t:TypeId} {x y z:Operand} (ho:o.op=.slice t x (some y) (some z) none) {s:List UInt8} (hx:evl l x=some (str s)) {k k':IntKind} {i j:Int} (hy:evl l y=some (.int k i)) (hz:evl l z=some (.int k' j)) (ht:TT t) (h0:0≤i) (h1:i≤j) (h2:j≤s.length):RT o l L n (str ((s.drop i.toNat).take (j.toNat - i.toNat))):=fun a w F M=>by
 unfold execOp
 rw[ho]
 have hr:=run_sliceAt_string (P:=Tryz.prog) w t (.string ⟨s.toArray⟩) (some (.int k i)) (some (.int k' j)) none ht.k
 have hs:=run_slice_string (P:=Tryz.prog) w t ⟨s.toArray⟩ k k' i j ht.k h0 h1 (by show j≤(s.length:Int);exact h2)
 simp[F.eval hx,F.eval hy,F.eval hz,hr,hs,ByteArray.extract_mk]
theorem rt_midFrom {t:TypeId} {x y:Operand} (ho:o.op=.slice t x (some y) none none) {s:List UInt8} (hx:evl l x=some (str s)) {k:IntKind} {i:Int} (hy:evl l y=some (.int k i)) (ht:TT t) (h0:0≤i) (h1:i≤s.length):RT o l L n (str (s.drop i.toNat)):=fun a w F M=>by
 unfold execOp
 rw[ho]
 have hr:=run_sliceAt_string (P:=Tryz.prog) w t (.string ⟨s.toArray⟩) (some (.int k i)) none none ht.k
 have hs:=run_slice_string_l (P:=Tryz.prog) w t ⟨s.toArray⟩ ht.k k i h0 (by show i≤(s.length:Int);exact h1)
 have hz:(ByteArray.mk s.toArray).size=s.length:=rfl
 have:(s.drop i.toNat).take (s.length - i.toNat)=s.drop i.toNat:=List.take_of_length_le (by simp)
 simp[F.eval hx,F.eval hy,hr,hs,ByteArray.extract_mk,hz,this]
theorem rt_midTo {t:TypeId} {x y:Operand} (ho:o.op=.slice t x none (some y) none) {s:List UInt8} (hx:evl l x=some (str s)) {k:IntKind} {i:Int} (hy:evl l y=some (.int k i)) (ht:TT t) (h0:0≤i) (h1:i≤s.length):RT o l L n (str (s.take i.toNat)):=fun a w F M=>by
 unfold execOp
 rw[ho]
 have hr:=run_sliceAt_string (P:=Tryz.prog) w t (.string ⟨s.toArray⟩) none (some (.int k i)) none ht.k
 have hs:=run_slice_string_h (P:=Tryz.prog) w t ⟨s.toArray⟩ ht.k k i h0 (by show i≤(s.length:Int);exact h1)
 simp[F.eval hx,F.eval hy,hr,hs,ByteArray.extract_mk]
theorem rt_sliceA {t:TypeId} {x y:Operand} (ho:o.op=.slice t x none (some y) none) {b i:Nat} (hx:evl l x=some (.pointer (some ⟨b,i,none⟩))) {k:IntKind} {j:Int} (hy:evl l y=some (.int k j)) {len e size:Nat} (ht:AT t len e size) (h0:0≤j) (h1:j≤len):RT o l L n (.slice (some ⟨b,i,none⟩) j.toNat len):=fun a w F M=>by
 unfold execOp
 rw[ho]
 obtain ⟨hu,hs⟩:=ht.k
 have e1:Tryz.prog.arrayLen t=len:=by simp[Program.arrayLen,hu]
 have e2:Tryz.prog.elem t=e:=by simp[Program.elem,hu]
 have hr:=run_sliceAt_array_h (P:=Tryz.prog) w t ⟨b,i,none⟩ (by rw[e1,e2];exact hu) k j h0 (by rw[e1];exact h1)
 have hz:(sizeOf e).run Tryz.prog w=.ok size w:=by
  cases hi:Tryz.prog.info? e with
  | none=>rw[hi] at hs;cases hs
  | some ie =>
   rw[hi] at hs
   have hs:=Option.some.inj hs
   simp[sizeOf,typeInfo,hi,hs]
 rw[e1,e2,hz] at hr
 simp only[Result.andThen_ok,slicedAt] at hr
 have:(if len=0 then (⟨b,i,none⟩:Addr) else (⟨b,i,none⟩:Addr).add (0*size))=⟨b,i,none⟩:=by
  split
  ·rfl
  ·rw[add0];simp
 rw[this] at hr
 simp[F.eval hx,F.eval hy,hr]
theorem st_size {t e:TypeId} {z:Value} {size bytes:Nat} (ht:ST t e z size bytes) (w:World):(sizeOf e).run Tryz.prog w=.ok size w:=by
 obtain ⟨i,_,hi,_,hs,_⟩:=st_info ht
 simp[sizeOf,typeInfo,hi,hs]
structure SlH where
 a:Option Addr
 n:Nat
 c:Nat
abbrev sl (h:SlH):Value:=.slice h.a h.n h.c
theorem rt_nilp {t ty:TypeId} {x y:Operand} (ho:o.op=.binOp .eql t x y ty) {p:Option Addr} (hx:evl l x=some (.pointer p)) (hy:evl l y=some (.pointer none)) {e:TypeId} (ht:PT t e):RT o l L n (.bool p.isNone):=fun a w F M=>by
 have h:=ht.k.1
 have h':Tryz.prog.underlying t=some (.pointer (Tryz.prog.pointee t)):=by simp[Program.pointee,h]
 unfold execOp
 rw[ho]
 simp[F.eval hx,F.eval hy,eqGuard,run_eql_pointer_nil w t p h']
theorem rt_nenilp {t ty:TypeId} {x y:Operand} (ho:o.op=.binOp .neq t x y ty) {p:Option Addr} (hx:evl l x=some (.pointer p)) (hy:evl l y=some (.pointer none)) {e:TypeId} (ht:PT t e):RT o l L n (.bool (!p.isNone)):=fun a w F M=>by
 have h:=ht.k.1
 have h':Tryz.prog.underlying t=some (.pointer (Tryz.prog.pointee t)):=by simp[Program.pointee,h]
 unfold execOp
 rw[ho]
 simp[F.eval hx,F.eval hy,eqGuard,run_neq_pointer_nil w t p h']
theorem SlR.nil_len {w:World} {size m:Nat} {n c:Nat} {xs:List Value} (h:SlR w size (sl ⟨none,n,c⟩) m xs):m=0:=by
 rcases h.parts with⟨⟨_,_,hh⟩,h1,_⟩|⟨b,off,cap,hh,_⟩
 ·exact h1
 ·cases hh
theorem rt_nils {t ty:TypeId} {x y:Operand} (ho:o.op=.binOp .eql t x y ty) {h:SlH} (hx:evl l x=some (sl h)) (hy:evl l y=some (.slice none 0 0)) {e:TypeId} {z:Value} {k bytes:Nat} (ht:ST t e z k bytes):RT o l L n (.bool h.a.isNone):=fun a w F M=>by
 obtain ⟨ha,hn,hc⟩:=h
 have hr:=Go.run_eql_slice_nil (P:=Tryz.prog) w t e ha hn hc ht.k.1
 unfold execOp
 rw[ho]
 simp[F.eval hx,F.eval hy,eqGuard,hr]
theorem rt_nenils {t ty:TypeId} {x y:Operand} (ho:o.op=.binOp .neq t x y ty) {h:SlH} (hx:evl l x=some (sl h)) (hy:evl l y=some (.slice none 0 0)) {e:TypeId} {z:Value} {k bytes:Nat} (ht:ST t e z k bytes):RT o l L n (.bool (!h.a.isNone)):=fun a w F M=>by
 obtain ⟨ha,hn,hc⟩:=h
 have hr:=Go.run_neq_slice_nil (P:=Tryz.prog) w t e ha hn hc ht.k.1
 unfold execOp
 rw[ho]
 simp[F.eval hx,F.eval hy,eqGuard,hr]
theorem rt_neg {t:TypeId} {x:Operand} (ho:o.op=.unOp .neg t x) {k:IntKind} {m:Int} (hx:evl l x=some (.int k m)) {r:Int} (hr:k.wrap (-m)=r):RT o l L n (.int k r):=fun a w F M=>by
 subst hr
 unfold execOp
 rw[ho]
 have hr:(Op.intArith .sub k 0 m).run Tryz.prog w=.ok (.int k (k.wrap (-m))) w:=by
  simp[Op.intArith]
 simp[F.eval hx,Op.unary,hr]
theorem Gives.app {L G:List Asn} {φ:World→Prop} (h:Gives L φ):Gives (L++G) φ:=fun w M=>h w M.drop_app
end
end
section
open Go.RowKit
class EQF {α:Type} [DecidableEq α] (f:α→List Value) (ks:outParam (List Sc)):Prop where
 k:∀ x y,cellsEq ks (f x) (f y)=some (decide (x=y))
section
variable {ops:Array Oper} {Q:Exit→Act→World→Prop} {rest:List Oper} {o:Oper} {a:Act} {w:World} {n:Nat} {l:List (Nat × Value)} {L:List Asn} {C:Value→List Asn→Prop}
theorem rt_loadO {t:TypeId} {x:Operand} (ho:o.op=.load t x) {b i:Nat} (hx:evl l x=some (.pointer (some ⟨b,i,none⟩))) (hkt:KT t none) {L':List Asn} {e:TypeId} {k m j:Nat} {xs:List Value} (hp:Pull L (own e k (.slice (some ⟨b,0,none⟩) m j) m xs) L') {v:Value} (hv:xs[i]? = some v):RT o l L n v :=
 rt_loadg ho hx hkt fun w M=>by
  rcases (gives_own hp w M).parts with⟨⟨_,_,h⟩,rfl,_⟩|⟨b',off,c,h,_,_,hc⟩
  ·rename_i h2
   subst h2
   simp at hv
  ·obtain ⟨⟨rfl,rfl,_⟩,_⟩:=by simpa using h
   simpa using hc i v hv
theorem rtA {v:Value} (h:RT o l L n v:=by(first|(apply rt_eqT;(exact rfl);(exact rfl);(exact rfl))|(apply rt_neT;(exact rfl);(exact rfl);(exact rfl))|(exact rt_pure rfl)|(apply rt_extract;(exact rfl);(exact rfl);(exact rfl))|(apply rt_field;(exact rfl);(exact rfl);(exact inferInstance);(exact rfl))|(apply rt_load;(exact rfl);(exact rfl);(exact inferInstance);(focus ((repeat (first|exact Pull.here|apply Pull.there));done));(exact rfl))|(apply rt_loadA;(exact rfl);(exact rfl);(exact inferInstance);(focus ((repeat (first|exact Pull.here|apply Pull.there));done));(exact rfl))|(apply rt_add;(exact rfl);(exact rfl);(exact rfl);(focus (first|omega|((simp only[maxLen,List.length_append,List.length_cons,List.length_nil] at *);omega)));(focus (first|omega|((simp only[maxLen,List.length_append,List.length_cons,List.length_nil] at *);omega))))|(apply rt_sub;(exact rfl);(exact rfl);(exact rfl);(focus (first|omega|((simp only[maxLen,List.length_append,List.length_cons,List.length_nil] at *);omega)));(focus (first|omega|((simp only[maxLen,List.length_append,List.length_cons,List.length_nil] at *);omega))))|(apply rt_addu;(exact rfl);(exact rfl);(exact rfl);(focus (first|omega|((simp only[maxLen,List.length_append,List.length_cons,List.length_nil] at *);omega)));(focus (first|omega|((simp only[maxLen,List.length_append,List.length_cons,List.length_nil] at *);omega))))|(apply rt_subu;(exact rfl);(exact rfl);(exact rfl);(focus (first|omega|((simp only[maxLen,List.length_append,List.length_cons,List.length_nil] at *);omega)));(focus (first|omega|((simp only[maxLen,List.length_append,List.length_cons,List.length_nil] at *);omega))))|(apply rt_conv;(exact rfl);(exact rfl);(exact inferInstance);(exact inferInstance);(focus (first|assumption|exact IntWalk.i64_in _ (by omega)|exact u64_in (by omega) (by omega)|exact IntWalk.u8_in _ (by omega)|exact rfl)))|(apply rt_indexA;(exact rfl);(exact rfl);(exact rfl);(exact inferInstance);(focus (first|omega|((simp only[maxLen,List.length_append,List.length_cons,List.length_nil] at *);omega)));(focus (first|omega|((simp only[maxLen,List.length_append,List.length_cons,List.length_nil] at *);omega)));(exact rfl))|(apply rt_indexS;(exact rfl);(exact rfl);(exact rfl);(exact inferInstance);(focus (first|omega|((simp only[maxLen,List.length_append,List.length_cons,List.length_nil] at *);omega)));(focus (first|omega|((simp only[maxLen,List.length_append,List.length_cons,List.length_nil] at *);omega)));(exact rfl))|(apply rt_eql1;(exact rfl);(exact rfl);(exact rfl);(exact inferInstance);(exact rfl))|(apply rt_neq1;(exact rfl);(exact rfl);(exact rfl);(exact inferInstance);(exact rfl))|(apply rt_eql;(exact rfl);(exact rfl);(exact rfl);(exact inferInstance);(exact rfl))|(apply rt_neq;(exact rfl);(exact rfl);(exact rfl);(exact inferInstance);(exact rfl))|(apply rt_loadS;(exact rfl);(exact rfl);(exact inferInstance);(focus ((repeat (first|exact Pull.here|apply Pull.there));done));(exact rfl))|(apply rt_eqb;(exact rfl);(exact rfl);(exact rfl);(exact inferInstance))|(apply rt_neb;(exact rfl);(exact rfl);(exact rfl);(exact inferInstance))|(apply rt_min;(exact rfl);(exact rfl);(exact rfl))|(apply rt_max;(exact rfl);(exact rfl);(exact rfl))|(apply rt_build;(exact rfl);(exact inferInstance);(exact inferInstance);(exact rfl);(exact rfl))|(apply rt_buildA;(exact rfl);(exact inferInstance);(exact inferInstance);(exact rfl);(exact rfl);(exact rfl);(exact rfl);(exact rfl);(exact rfl))|(apply rt_rem;(exact rfl);(exact rfl);(exact rfl);(focus (first|omega|((simp only[maxLen,List.length_append,List.length_cons,List.length_nil] at *);omega)));(focus (first|omega|((simp only[maxLen,List.length_append,List.length_cons,List.length_nil] at *);omega))))|(apply rt_quo;(exact rfl);(exact rfl);(exact rfl);(focus (first|omega|((simp only[maxLen,List.length_append,List.length_cons,List.length_nil] at *);omega)));(focus (first|omega|((simp only[maxLen,List.length_append,List.length_cons,List.length_nil] at *);omega)));(focus (first|assumption|exact IntWalk.i64_in _ (by omega)|exact u64_in (by omega) (by omega)|exact IntWalk.u8_in _ (by omega)|exact rfl)))|(apply rt_mul;(exact rfl);(exact rfl);(exact rfl);(focus (first|omega|((simp only[maxLen,List.length_append,List.length_cons,List.length_nil] at *);omega)));(focus (first|omega|((simp only[maxLen,List.length_append,List.length_cons,List.length_nil] at *);omega))))|(apply rt_lenG;(exact rfl);(exact rfl);(exact rfl);(exact inferInstance);(first|(focus ((repeat (first|assumption|apply GS.tail));done))|(apply gs_old;assumption;(focus ((repeat (first|exact Pull.here|apply Pull.there));done)))|(apply gs_oldT;assumption;(focus ((repeat (first|exact Pull.here|apply Pull.there));done)))|(apply gs_own;(focus ((repeat (first|exact Pull.here|apply Pull.there));done)))|(apply gs_ro;(focus ((repeat (first|exact Pull.here|apply Pull.there));done)))|exact GS.nil _ _))|(apply rt_lenS;(exact rfl);(exact rfl);(exact rfl);(exact inferInstance))|(apply rt_indexG;(exact rfl);(exact rfl);(exact rfl);(exact inferInstance);(first|(focus ((repeat (first|assumption|apply GS.tail));done))|(apply gs_old;assumption;(focus ((repeat (first|exact Pull.here|apply Pull.there));done)))|(apply gs_oldT;assumption;(focus ((repeat (first|exact Pull.here|apply Pull.there));done)))|(apply gs_own;(focus ((repeat (first|exact Pull.here|apply Pull.there));done)))|(apply gs_ro;(focus ((repeat (first|exact Pull.here|apply Pull.there));done)))|exact GS.nil _ _);(focus (first|omega|((simp only[maxLen,List.length_append,List.length_cons,List.length_nil] at *);omega)));(focus (first|omega|((simp only[maxLen,List.length_append,List.length_cons,List.length_nil] at *);omega))))|(apply rt_elemF;(exact rfl);(exact rfl);(exact inferInstance);(first|(focus ((repeat (first|assumption|apply GS.tail));done))|(apply gs_old;assumption;(focus ((repeat (first|exact Pull.here|apply Pull.there));done)))|(apply gs_oldT;assumption;(focus ((repeat (first|exact Pull.here|apply Pull.there));done)))|(apply gs_own;(focus ((repeat (first|exact Pull.here|apply Pull.there));done)))|(apply gs_ro;(focus ((repeat (first|exact Pull.here|apply Pull.there));done)))|exact GS.nil _ _);(exact inferInstance);assumption;(exact rfl))|(apply rt_elem1;(exact rfl);(exact rfl);(exact inferInstance);(first|(focus ((repeat (first|assumption|apply GS.tail));done))|(apply gs_old;assumption;(focus ((repeat (first|exact Pull.here|apply Pull.there));done)))|(apply gs_oldT;assumption;(focus ((repeat (first|exact Pull.here|apply Pull.there));done)))|(apply gs_own;(focus ((repeat (first|exact Pull.here|apply Pull.there));done)))|(apply gs_ro;(focus ((repeat (first|exact Pull.here|apply Pull.there));done)))|exact GS.nil _ _);(exact inferInstance);assumption;(exact rfl))|(apply rt_elemA;(exact rfl);(exact rfl);(exact inferInstance);(first|(focus ((repeat (first|assumption|apply GS.tail));done))|(apply gs_old;assumption;(focus ((repeat (first|exact Pull.here|apply Pull.there));done)))|(apply gs_oldT;assumption;(focus ((repeat (first|exact Pull.here|apply Pull.there));done)))|(apply gs_own;(focus ((repeat (first|exact Pull.here|apply Pull.there));done)))|(apply gs_ro;(focus ((repeat (first|exact Pull.here|apply Pull.there));done)))|exact GS.nil _ _);(exact inferInstance);(exact rfl);assumption)|(apply rt_lenStr;(exact rfl);(exact rfl);(exact rfl);(exact inferInstance))|(apply rt_byte;(exact rfl);(exact rfl);(exact rfl);(exact inferInstance);(focus (first|omega|((simp only[maxLen,List.length_append,List.length_cons,List.length_nil] at *);omega)));assumption)|(apply rt_mid;(exact rfl);(exact rfl);(exact rfl);(exact rfl);(exact inferInstance);(focus (first|omega|((simp only[maxLen,List.length_append,List.length_cons,List.length_nil] at *);omega)));(focus (first|omega|((simp only[maxLen,List.length_append,List.length_cons,List.length_nil] at *);omega)));(focus (first|omega|((simp only[maxLen,List.length_append,List.length_cons,List.length_nil] at *);omega))))|(apply rt_midFrom;(exact rfl);(exact rfl);(exact rfl);(exact inferInstance);(focus (first|omega|((simp only[maxLen,List.length_append,List.length_cons,List.length_nil] at *);omega)));(focus (first|omega|((simp only[maxLen,List.length_append,List.length_cons,List.length_nil] at *);omega))))|(apply rt_midTo;(exact rfl);(exact rfl);(exact rfl);(exact inferInstance);(focus (first|omega|((simp only[maxLen,List.length_append,List.length_cons,List.length_nil] at *);omega)));(focus (first|omega|((simp only[maxLen,List.length_append,List.length_cons,List.length_nil] at *);omega))))|(apply rt_cat;(exact rfl);(exact rfl);(exact rfl);(focus (first|omega|((simp only[maxLen,List.length_append,List.length_cons,List.length_nil] at *);omega))))|(apply rt_sliceA;(exact rfl);(exact rfl);(exact rfl);(exact inferInstance);(focus (first|omega|((simp only[maxLen,List.length_append,List.length_cons,List.length_nil] at *);omega)));(focus (first|omega|((simp only[maxLen,List.length_append,List.length_cons,List.length_nil] at *);omega))))|(apply rt_nils;(exact rfl);(exact rfl);(exact rfl);(exact inferInstance))|(apply rt_nenils;(exact rfl);(exact rfl);(exact rfl);(exact inferInstance))|(apply rt_nilp;(exact rfl);(exact rfl);(exact rfl);(exact inferInstance))|(apply rt_nenilp;(exact rfl);(exact rfl);(exact rfl);(exact inferInstance))|(apply rt_neg;(exact rfl);(exact rfl);(exact rfl))|(apply rt_loadO;(exact rfl);(exact rfl);(exact inferInstance);(focus ((repeat (first|exact Pull.here|apply Pull.there));done));(exact rfl))|(apply rt_arith;(exact rfl);(exact rfl);(exact rfl);(exact rfl)))):RT o l L n v:=h
theorem acB {v:Value} {L':List Asn} (h:C v L') (s:C v L'→AC o l L n C:=by(intro h;first|(apply ac_store;(exact rfl);(exact rfl);(exact inferInstance);(exact rfl);(exact rfl);(focus ((repeat (first|exact Rep.here|apply Rep.there));done));(exact rfl);(exact h))|(apply ac_storeW;(exact rfl);(exact rfl);(exact inferInstance);(exact rfl);(exact rfl);(exact rfl);(focus ((repeat (first|exact Rep.here|apply Rep.there));done));(exact rfl);(exact h))|(apply ac_storeA;(exact rfl);(exact rfl);(exact inferInstance);(exact rfl);(exact rfl);(exact rfl);(focus ((repeat (first|exact Rep.here|apply Rep.there));done));(exact rfl);(exact h)))):AC o l L n C:=s h
theorem acA {fv:Nat→Value} {fL:Nat→List Asn} (h:∀ b,C (fv b) (fL b)) (s:(∀ b,C (fv b) (fL b))→AC o l L n C:=by(intro h;first|(apply ac_boxA;(exact rfl);(exact rfl);(exact h))|(apply ac_box;(exact rfl);(exact rfl);(exact rfl);(exact h))|(apply ac_alloc;(exact rfl);(exact inferInstance);(exact h))|(apply ac_buildSlice;(exact rfl);(exact inferInstance);(exact rfl);(exact rfl);(exact rfl);(exact rfl);(exact rfl);(exact rfl);(exact h)))):AC o l L n C:=s h
theorem sv1 (F:Fr a n l) (M:Mem w L) {d:Nat} {v:Value} (h:∀ a',Fr a' n ((d,v)::l)→wpList Tryz.prog ops Q rest a' w)
  (hw:Wanted o ops l=some true:=by exact rfl) (hd:o.dst=some d:=by exact rfl) (hn:Nat.ble (d+1) n=true:=by exact rfl) (hr:RT o l L n v:=by exact rtA):wpList Tryz.prog ops Q (o::rest) a w:=sv_run F M hw hd hn hr h
theorem sv2 (F:Fr a n l) (M:Mem w L) {d:Nat} {fv:Nat→Value} {fL:Nat→List Asn} (h:∀ b a' w',Fr a' n ((d,fv b)::l)→Mem w' (fL b)→wpList Tryz.prog ops Q rest a' w')
  (hw:Wanted o ops l=some true:=by exact rfl) (hd:o.dst=some d:=by exact rfl) (hn:Nat.ble (d+1) n=true:=by exact rfl)
  (s:∀ C:Value→List Asn→Prop,(∀ b,C (fv b) (fL b))→AC o l L n C:=by(intro C h;exact acA h)):wpList Tryz.prog ops Q (o::rest) a w:=sv_act F M hw hd hn (s _ h)
theorem sv3 (F:Fr a n l) (M:Mem w L) {v:Value} {L':List Asn} (h:∀ w',Mem w' L'→wpList Tryz.prog ops Q rest a w')
  (hw:Wanted o ops l=some true:=by exact rfl) (hd:o.dst=none:=by exact rfl)
  (s:∀ C:Value→List Asn→Prop,C v L'→AC o l L n C:=by(intro C h;exact acB h)):wpList Tryz.prog ops Q (o::rest) a w:=sv_act0 F M hw hd (s _ h)
theorem svK (F:Fr a n l) {d:Nat} (h:∀ a',Fr a' n ((d,undef)::l)→wpList Tryz.prog ops Q rest a' w) (hw:Wanted o ops l=some false:=by exact rfl) (hd:o.dst=some d:=by exact rfl) (hn:Nat.ble (d+1) n=true:=by exact rfl):wpList Tryz.prog ops Q (o::rest) a w:=sx_skip F hw hd hn h
theorem svK0 (F:Fr a n l) (h:wpList Tryz.prog ops Q rest a w) (hw:Wanted o ops l=some false:=by exact rfl) (hd:o.dst=none:=by exact rfl):wpList Tryz.prog ops Q (o::rest) a w:=sx_skip0 F hw hd h
theorem svC (F:Fr a n l) (M:Mem w L) {d:Nat} (h:AC o l L n (fun v L'=>∀ a' w',Fr a' n ((d,v)::l)→Mem w' L'→wpList Tryz.prog ops Q rest a' w')) (hw:Wanted o ops l=some true:=by exact rfl) (hd:o.dst=some d:=by exact rfl) (hn:Nat.ble (d+1) n=true:=by exact rfl):wpList Tryz.prog ops Q (o::rest) a w:=sv_act F M hw hd hn h
theorem svC0 (F:Fr a n l) (M:Mem w L) (h:AC o l L n (fun v L'=>∀ w',Mem w' L'→wpList Tryz.prog ops Q rest a w')) (hw:Wanted o ops l=some true:=by exact rfl) (hd:o.dst=none:=by exact rfl):wpList Tryz.prog ops Q (o::rest) a w:=sv_act0 F M hw hd h
theorem acCall {f:Operand} {xs:Array Operand} {ats:Array TypeId} {k:FuncId} {caps:Array Value} {vs us:List Value} (hs:Spec k us L C) (ho:o.op=.call {callee:=.value f,args:=xs,argTypes:=ats}:=by exact rfl) (hf:evl l f=some (.func (.func k) #[] caps):=by exact rfl) (hfk:FK k:=by exact inferInstance) (hx:evls l xs.toList=some vs:=by exact rfl) (hu:vs++caps.toList=us:=by exact rfl):AC o l L n C:=ac_call ho hf hfk hx hu hs
theorem rvsA {js:List Nat} (h:Rvs Tryz.prog ops n js l L:=by(first|(focus ((repeat (first|exact rvs_nil|((apply rvs_run);(exact rfl);(exact rfl);(exact rfl);(exact rfl);(exact rtA))|((apply rvs_skip);(exact rfl);(exact rfl);(exact rfl);(exact rfl))));done))|fail)):Rvs Tryz.prog ops n js l L:=h
section
variable {E Fl:List Nat} {S:List (Nat × List Nat)} {σ done:List Nat} {i:Nat}
theorem pv1 {d:Nat} {v:Value} (h:PW Tryz.prog ops n Q E Fl S σ (i::done) ((d,v)::l) L) (hi:ops[i]? = some o:=by exact rfl) (hf:Fl.contains i=false:=by exact rfl) (he:E.contains i=false:=by exact rfl) (hw:Wanted o ops l=some true:=by exact rfl) (hd:o.dst=some d:=by exact rfl) (hr:RT o l L n v:=by exact rtA) :
  PW Tryz.prog ops n Q E Fl S (i::σ) done l L:=pv_run hi hf he hw hd hr h
theorem pv2 {d:Nat} {fv:Nat→Value} {fL:Nat→List Asn} {js:List Nat} (h:∀ b,PW Tryz.prog ops n Q E Fl S σ (i::done) ((d,fv b)::l) (fL b)) (hi:ops[i]? = some o:=by exact rfl) (hf:Fl.contains i=false:=by exact rfl) (he:E.contains i=true:=by exact rfl) (hw:Wanted o ops l=some true:=by exact rfl) (hd:o.dst=some d:=by exact rfl) (hj:lookS S i=js:=by exact rfl)
  (s:∀ C:Value→List Asn→Prop,(∀ b,C (fv b) (fL b))→AC o l L n C:=by(intro C h;exact acA h)) (hr:∀ b,Rvs Tryz.prog ops n js ((d,fv b)::l) (fL b):=by(intro b;exact rvsA)):PW Tryz.prog ops n Q E Fl S (i::σ) done l L:=pv_act hi hf he hw hd hj (s _ fun b=>⟨hr b,h b⟩)
theorem pv3 {v:Value} {L':List Asn} {js:List Nat} (h:PW Tryz.prog ops n Q E Fl S σ (i::done) l L') (hi:ops[i]? = some o:=by exact rfl) (hf:Fl.contains i=false:=by exact rfl) (he:E.contains i=true:=by exact rfl) (hw:Wanted o ops l=some true:=by exact rfl) (hd:o.dst=none:=by exact rfl) (hj:lookS S i=js:=by exact rfl)
  (s:∀ C:Value→List Asn→Prop,C v L'→AC o l L n C:=by(intro C h;exact acB h)) (hr:Rvs Tryz.prog ops n js l L':=by exact rvsA):PW Tryz.prog ops n Q E Fl S (i::σ) done l L:=pv_act0 hi hf he hw hd hj (s _ ⟨hr,h⟩)
theorem pvC {d:Nat} {js:List Nat} (h:AC o l L n (fun v L'=>Rvs Tryz.prog ops n js ((d,v)::l) L'∧PW Tryz.prog ops n Q E Fl S σ (i::done) ((d,v)::l) L')) (hi:ops[i]? = some o:=by exact rfl) (hf:Fl.contains i=false:=by exact rfl) (he:E.contains i=true:=by exact rfl) (hw:Wanted o ops l=some true:=by exact rfl) (hd:o.dst=some d:=by exact rfl) (hj:lookS S i=js:=by exact rfl) :
  PW Tryz.prog ops n Q E Fl S (i::σ) done l L:=pv_act hi hf he hw hd hj h
theorem pvC0 {js:List Nat} (h:AC o l L n (fun v L'=>Rvs Tryz.prog ops n js l L'∧PW Tryz.prog ops n Q E Fl S σ (i::done) l L')) (hi:ops[i]? = some o:=by exact rfl) (hf:Fl.contains i=false:=by exact rfl) (he:E.contains i=true:=by exact rfl) (hw:Wanted o ops l=some true:=by exact rfl) (hd:o.dst=none:=by exact rfl) (hj:lookS S i=js:=by exact rfl) :
  PW Tryz.prog ops n Q E Fl S (i::σ) done l L:=pv_act0 hi hf he hw hd hj h
theorem pvF {t:TypeId} {cs:List Value} {d:Nat} (h:∀ b,PW Tryz.prog ops n Q E Fl S σ (i::done) ((d,.pointer (some ⟨b,0,none⟩))::l) (pt b cs t::L)) (hi:ops[i]? = some o:=by exact rfl) (hf:Fl.contains i=true:=by exact rfl) (ho:o.op=.alloc t:=by exact rfl) (hz:ZT t cs:=by exact inferInstance) (hd:o.dst=some d:=by exact rfl):PW Tryz.prog ops n Q E Fl S (i::σ) done l L:=pv_float hi hf ho hz hd h
theorem pvK {d:Nat} (h:PW Tryz.prog ops n Q E Fl S σ (i::done) ((d,undef)::l) L) (hi:ops[i]? = some o:=by exact rfl) (hf:Fl.contains i=false:=by exact rfl) (hw:Wanted o ops l=some false:=by exact rfl) (hd:o.dst=some d:=by exact rfl):PW Tryz.prog ops n Q E Fl S (i::σ) done l L:=by
 cases he:E.contains i
 ·exact pv_skip hi hf he hw hd h
 ·exact pv_skipE hi hf he hw hd h
theorem pvK0 (h:PW Tryz.prog ops n Q E Fl S σ (i::done) l L) (hi:ops[i]? = some o:=by exact rfl) (hf:Fl.contains i=false:=by exact rfl) (he:E.contains i=true:=by exact rfl) (hw:Wanted o ops l=some false:=by exact rfl) (hd:o.dst=none:=by exact rfl):PW Tryz.prog ops n Q E Fl S (i::σ) done l L:=pv_skipE0 hi hf he hw hd h
end
theorem svT {c:Operand} {x y:Code} (F:Fr a n l) (h:x.wp Tryz.prog Q a w) (hc:evl l c=some (.bool true):=by exact rfl):(Code.cond c x y).wp Tryz.prog Q a w:=sx_cond_t F hc h
theorem svF {c:Operand} {x y:Code} (F:Fr a n l) (h:y.wp Tryz.prog Q a w) (hc:evl l c=some (.bool false):=by exact rfl):(Code.cond c x y).wp Tryz.prog Q a w:=sx_cond_f F hc h
theorem tidyA {b:Bool} {p q:Prop} (hp:b=true→p:=by(intro hc;first|((try simp only[decide_eq_true_eq,decide_eq_false_iff_not,Bool.not_eq_true,Bool.not_eq_false,Bool.not_eq_true',Bool.not_eq_false',ne_eq,not_true_eq_false,not_false_eq_true,Decidable.not_not,Bool.and_eq_true,Bool.or_eq_true,Bool.and_eq_false_iff,Bool.or_eq_false_iff,beq_iff_eq,beq_eq_false_iff_ne,bne_iff_ne] at hc);exact hc)|exact hc)) (hq:b=false→q:=by(intro hc;first|((try simp only[decide_eq_true_eq,decide_eq_false_iff_not,Bool.not_eq_true,Bool.not_eq_false,Bool.not_eq_true',Bool.not_eq_false',ne_eq,not_true_eq_false,not_false_eq_true,Decidable.not_not,Bool.and_eq_true,Bool.or_eq_true,Bool.and_eq_false_iff,Bool.or_eq_false_iff,beq_iff_eq,beq_eq_false_iff_ne,bne_iff_ne] at hc);exact hc)|exact hc)):(b=true→p)∧(b=false→q):=⟨hp,hq⟩
theorem svB {c:Operand} {x y:Code} {b:Bool} {p q:Prop} (F:Fr a n l) (h1:p→x.wp Tryz.prog Q a w) (h2:q→y.wp Tryz.prog Q a w) (hc:evl l c=some (.bool b):=by exact rfl) (ht:(b=true→p)∧(b=false→q):=by exact tidyA):(Code.cond c x y).wp Tryz.prog Q a w:=sx_cond_b F hc (fun h=>h1 (ht.1 h)) fun h=>h2 (ht.2 h)
theorem no {G p:Prop} (hc:p) (h:p→False:=by(intro hc;first|exact hc|exact hc rfl|contradiction|omega|((simp only[decide_eq_true_eq,decide_eq_false_iff_not,ne_eq,Decidable.not_not,Bool.not_eq_true',Bool.not_eq_false'] at hc);first|contradiction|exact hc rfl|omega)|(simp at hc;done)|fail)):G:=(h hc).elim
theorem pullA {L L':List Asn} {A:Asn} (h:Pull L A L':=by(first|(focus ((repeat (first|exact Pull.here|apply Pull.there));done))|fail)):Pull L A L':=h
theorem gsA {L:List Asn} {size m:Nat} {v:Value} {xs:List Value} (h:GS L size v m xs:=by(first|(first|(focus ((repeat (first|assumption|apply GS.tail));done))|(apply gs_old;assumption;(focus ((repeat (first|exact Pull.here|apply Pull.there));done)))|(apply gs_oldT;assumption;(focus ((repeat (first|exact Pull.here|apply Pull.there));done)))|(apply gs_own;(focus ((repeat (first|exact Pull.here|apply Pull.there));done)))|(apply gs_ro;(focus ((repeat (first|exact Pull.here|apply Pull.there));done)))|exact GS.nil _ _)|fail)):GS L size v m xs:=h
theorem permsA {L L':List Asn} (h:Perms L L':=by(first|(focus ((repeat (first|exact Perms.rest|exact Perms.nil|(apply Perms.cons;(focus ((repeat (first|exact Pull.here|apply Pull.there));done)))|apply Perms.skip));done))|fail)):Perms L L':=h
theorem kpA {l l':List (Nat × Value)} (h:∀ p∈l',look l p.1=some p.2:=by(first|(focus ((repeat (first|exact keep_nil|(apply keep_cons;(exact rfl))));done))|fail)):∀ p∈l',look l p.1=some p.2:=h
theorem svEnd {fn:Func} {R:Ending→World→Prop} {rs:List ResultVar} {vs:List Value} {v:Value} (F:Fr a n l) (M:Mem w L) (hR:R (.returned v) w) (hf:fn.results=rs.toArray:=by exact rfl) (hr:Ress L l rs vs:=by(first|(focus ((repeat (first|exact Ress.nil|(apply Ress.cons)|(apply Res.tmp;exact rfl)|(apply Res.agg;(exact rfl);(exact inferInstance);((focus ((repeat (first|exact Pull.here|apply Pull.there));done)));(exact rfl))|(apply Res.one;(exact rfl);(exact inferInstance);((focus ((repeat (first|exact Pull.here|apply Pull.there));done)));(exact rfl))));done))|fail)) (hv:tupOf vs=v:=by exact rfl):bodyPost Tryz.prog fn R .normal a w:=sx_end F M hf hr hv hR
theorem svRet {fn:Func} {R:Ending→World→Prop} {rs:List ResultVar} {vs:List Value} {v:Value} (F:Fr a n l) (M:Mem w L) (hR:R (.returned v) w) (hf:fn.results=rs.toArray:=by exact rfl) (hr:Ress L l rs vs:=by(first|(focus ((repeat (first|exact Ress.nil|(apply Ress.cons)|(apply Res.tmp;exact rfl)|(apply Res.agg;(exact rfl);(exact inferInstance);((focus ((repeat (first|exact Pull.here|apply Pull.there));done)));(exact rfl))|(apply Res.one;(exact rfl);(exact inferInstance);((focus ((repeat (first|exact Pull.here|apply Pull.there));done)));(exact rfl))));done))|fail)) (hv:tupOf vs=v:=by exact rfl):bodyPost Tryz.prog fn R .ret a w:=sx_ret F M hf hr hv hR
theorem rt_neqT {α:Type} [DecidableEq α] {f:α→List Value} {t ty:TypeId} {x y:Operand} (ho:o.op=.binOp .neq t x y ty) {p q:α} (hx:evl l x=some (.agg (f p).toArray)) (hy:evl l y=some (.agg (f q).toArray)) {ks:List Sc} (he:EQ t ks) (hf:EQF f ks):RT o l L n (.bool (decide (p≠q))):=by
 have:=rt_neq (L:=L) (n:=n) ho hx hy he (hf.k p q)
 simpa using this
theorem rt_eqlT {α:Type} [DecidableEq α] {f:α→List Value} {t ty:TypeId} {x y:Operand} (ho:o.op=.binOp .eql t x y ty) {p q:α} (hx:evl l x=some (.agg (f p).toArray)) (hy:evl l y=some (.agg (f q).toArray)) {ks:List Sc} (he:EQ t ks) (hf:EQF f ks):RT o l L n (.bool (decide (p=q))):=by
 have:=rt_eql (L:=L) (n:=n) ho hx hy he (hf.k p q)
 simpa using this
def restO:List Nat→List (Nat × Value)→Option (List (Nat × Value))
 | _,[]=>some []
 | ds,(s,v)::r=>match hasN ds s,restO ds r with
  | true,some r'=>some r'
  | false,some r'=>some ((s,v)::r')
  | _,none=>none
theorem restO_look:∀ (l:List (Nat × Value)) (ds:List Nat) {l':List (Nat × Value)},restO ds l=some l'→∀ t v,look l' t=some v→hasN ds t=false∧look l t=some v
 | [],ds,l',h,t,v,ht=>by simp[restO] at h;subst h;simp[look] at ht
 | (s,u)::r,ds,l',h,t,v,ht=>by
  simp only[restO] at h
  cases hk:hasN ds s with
  | true =>
   rw[hk] at h
   cases hr:restO ds r with
   | none=>rw[hr] at h;cases h
   | some r' =>
    rw[hr] at h
    obtain rfl:=Option.some.inj h
    obtain ⟨h1,h2⟩:=restO_look r ds hr t v ht
    refine⟨h1,?_⟩
    have hst:s≠t:=fun e=>by rw[e,h1] at hk;cases hk
    simp only[look,nbeq hst];exact h2
  | false =>
   rw[hk] at h
   cases hr:restO ds r with
   | none=>rw[hr] at h;cases h
   | some r' =>
    rw[hr] at h
    obtain rfl:=Option.some.inj h
    simp only[look] at ht ⊢
    by_cases hst:s=t
    ·subst hst
     rw[show Nat.beq s s=true from Nat.beq_refl s] at ht ⊢
     exact⟨hk,ht⟩
    ·rw[nbeq hst] at ht ⊢
     exact restO_look r ds hr t v ht
def slotsL:List (Nat × Value)→List Nat
 | []=>[]
 | (s,_)::r=>s::slotsL r
theorem look_append:∀ (l r:List (Nat × Value)) (t:Nat),look (l++r) t=(match look l t with|some v=>some v|none=>look r t)
 | [],r,t=>rfl
 | (s,v)::l,r,t=>by
  simp only[List.cons_append,look]
  by_cases hst:s=t
  ·subst hst
   rw[show Nat.beq s s=true from Nat.beq_refl s];rfl
  ·rw[nbeq hst]
   exact look_append l r t
inductive Pulls:List Asn→List Asn→List Asn→Prop where
 | nil {L:List Asn}:Pulls L [] L
 | cons {L L1 R As:List Asn} {A:Asn}:Pull L A L1→Pulls L1 As R→Pulls L (A::As) R
theorem Mem.pulls {L As R:List Asn} {w:World} (h:Pulls L As R) (M:Mem w L):Mem w (As++R):=by
 have key:∀ {L As R:List Asn},Pulls L As R→∀ {s:List Nat} {w:World},Sat L s w→∃ s',Sat (As++R) s' w∧∀ b∈s',b∈s:=by
  intro L As R h
  induction h with
  | nil=>exact fun hs=>⟨_,hs,fun _ h=>h⟩
  | cons hp _ ih =>
   intro s w hs
   obtain ⟨s1,k1,k2⟩:=hs.pull hp
   cases k1 with
   | @cons _ _ sa ra _ m1 m2 m3 =>
    obtain ⟨s2,q1,q2⟩:=ih m2
    refine⟨_,.cons m1 q1 fun b hb hm=>m3 b hb (q2 b hm),fun b hb=>?_⟩
    rcases List.mem_append.1 hb with hb|hb
    ·exact(k2 b).1 (by simp[hb])
    ·exact(k2 b).1 (by simp[q2 b hb])
 obtain ⟨s,hs⟩:=M
 obtain ⟨s',h1,_⟩:=key h hs
 exact⟨s',h1⟩
theorem svLoop {c:Code} {σ:Type} (F:Fr a n l) (M:Mem w L) (s0:σ) (dl:σ→List (Nat × Value)) (dL:σ→List Asn) (Pf:σ→Prop) (μ:σ→Nat) (fg:List Nat) {st:List (Nat × Value)} {R:List Asn} (hP:Pf s0)
  (round:∀ s,Pf s→∀ a w,Fr a n (dl s++st)→Mem w (dL s++R)→c.wp Tryz.prog (Exit.then (fun a' w'=>∃ s',(Fr a' n (dl s'++st)∧Mem w' (dL s'++R)∧Pf s')∧μ s'<μ s) Q) a w)
  (hs:restO (fg++slotsL (dl s0)) l=some st:=by exact rfl) (h0:∀ p∈dl s0,look l p.1=some p.2:=by(first|(focus ((repeat (first|exact keep_nil|(apply keep_cons;(exact rfl))));done))|fail)) (hR:Pulls L (dL s0) R:=by(first|(focus ((repeat (first|exact Pulls.nil|(apply Pulls.cons;(focus ((repeat (first|exact Pull.here|apply Pull.there));done)))));done))|fail)):(Code.loop c).wp Tryz.prog Q a w :=
 wp_loop_ghost (fun s a w=>Fr a n (dl s++st)∧Mem w (dL s++R)∧Pf s) μ (fun s a w ⟨h1,h2,h3⟩=>round s h3 a w h1 h2) s0 ⟨⟨F.ds,F.size,fun t v ht=>by
  rw[look_append] at ht
  have F1:=F.keep h0
  cases hl:look (dl s0) t with
  | some u =>
   rw[hl] at ht
   obtain rfl:=Option.some.inj ht
   exact F1.val t u hl
  | none =>
   rw[hl] at ht
   exact F.val t v (restO_look l _ hs t v ht).2⟩,Mem.pulls hR M,hP⟩
theorem own_sl {e:TypeId} {size:Nat} {v:Value} {m:Nat} {xs:List Value} {L':List Asn} {w:World} (M:Mem w (own e size v m xs::L')):∃ h,v=sl h:=by
 obtain ⟨r,hs,_⟩:=M.head
 rcases hs.2 with⟨rfl,_,_⟩|⟨g,cap,cur,rfl,_⟩
 ·exact⟨⟨none,0,0⟩,rfl⟩
 ·exact⟨⟨some ⟨g,0,none⟩,m,cap⟩,rfl⟩
theorem ac_appendH {α:Type} {f:α→List Value} {x y:Operand} {t:TypeId} {ats:Array TypeId} (ho:o.op=.call {callee:=.builtin .append,args:=#[x,y],argTypes:=ats}) (hat:ats = #[t,t]) {e:TypeId} {z:Value} {k bytes:Nat} (ht:ST t e z k bytes) {v:Value} (hx:evl l x=some v) {u:Value} (hy:evl l y=some u)
  {xs ys:List α} {L':List Asn} (hp:Pull L (ownT e f k v xs) L') (he:EL f k) {m:Nat} {cs:List Value} (hg:GS L k u m cs) (hm:m=ys.length) (hcs:cs=ys.flatMap f) (hb:(xs.length+ys.length)*(bytes+1)≤140737488355328)
  (h:∀ v',C (sl v') (ownT e f k (sl v') (xs++ys)::L')):AC o l L n C:=fun G a w F M=>by
 subst hat;subst hm;subst hcs
 have hb1:(xs.length+ys.length)*bytes≤140737488355328:=Nat.le_trans (Nat.mul_le_mul_left _ (Nat.le_succ _)) hb
 have hb2:xs.length+ys.length≤140737488355328:=Nat.le_trans (Nat.le_mul_of_pos_right _ (Nat.succ_pos _)) hb
 obtain ⟨v',w',hr,hM⟩:=append_run (ty:=o.type) ht (M.pull (hp.app G)) (hg w M.drop_app) (flat_one ys) (by simp only[maxLen];omega) hb1
 have:(execOp a.eval o).run Tryz.prog w=.ok (.value v') w':=by
  unfold execOp
  rw[ho]
  simp[resolve,invoke,builtin,F.eval hx,F.eval hy,hr]
 rw[this]
 obtain ⟨h',rfl⟩:=own_sl hM
 have:=h h'
 rw[ownT,List.length_append,List.flatMap_append] at this
 exact⟨_,this,hM⟩
end
end
section
open Go.RowKit
section
variable {o:Oper} {n:Nat} {l:List (Nat × Value)} {L:List Asn} {C:Value→List Asn→Prop}
theorem own_set {w:World} {e:TypeId} {size m:Nat} {v:Value} {xs:List Value} {s:List Nat} (h:Ok (own e size v m xs) s w) {p:Nat} {u:Value} (hp:p<xs.length):∃ b,v=.slice (some ⟨b,0,none⟩) m (match v with|.slice _ _ c=>c|_=>0)∧(∃ z,w.cell? ⟨b,p,none⟩=some z)∧w.frozen? ⟨b,p,none⟩=false∧Chg s w (w.setCell ⟨b,p,none⟩ u)∧Ok (own e size v m (xs.set p u)) s (w.setCell ⟨b,p,none⟩ u):=by
 obtain ⟨h1,h2⟩:=h.now
 rcases h2 with⟨_,rfl,_⟩|⟨g,cap,cur,rfl,rfl,hg,hn,hc,hs,ht⟩
 ·omega
 ·have hpc:p<cur.size:=by
   have:(cur.toList.take (m*size)).length=xs.length:=by rw[ht]
   rw[List.length_take,Array.length_toList] at this;omega
  have e1:w.setCell ⟨g,p,none⟩ u=w.setRow g (cur.toList.set p u).toArray:=setCell_row (cs:=cur.toList) (by simpa using hg)
  refine⟨g,rfl,⟨cur[p],by simp[World.cell?,hg,hpc]⟩,by simp[World.frozen?,hg],?_,?_⟩
  ·rw[e1];exact chg_setRow
  ·rw[e1]
   refine ok_own (by simpa using h1) (setRow_heap w g _ _ e _ hg) hn hc (by simpa using hs) ?_
   simp only[List.toList_toArray]
   rw[List.take_set,ht]
theorem Mem.ok {A:Asn} {L:List Asn} {w:World} (M:Mem w (A::L)):∃ s,Ok A s w:=by
 obtain ⟨s,hs⟩:=M
 cases hs with
 | cons h1 _ _=>exact⟨_,h1⟩
theorem flat_lenE {α:Type} {f:α→List Value} {k:Nat} (he:EL f k):∀ xs:List α,(xs.flatMap f).length=xs.length*k
 | []=>by simp
 | x::r=>by rw[List.flatMap_cons,List.length_append,he.len,flat_lenE he r,List.length_cons,Nat.succ_mul];omega
theorem ac_storeE {α:Type} {f:α→List Value} {t:TypeId} {x y:Operand} (ho:o.op=.store t x y) {v:Value} {j k i:Nat} (hx:evl l x=some (.pointer (some ⟨vb v,vo v+j*k+i,none⟩))) (hkt:KT t none) {u:Value} (hy:evl l y=some u) (hu:u.oneCell'=true)
  {e:TypeId} {xs:List α} {L2:List Asn} {z:α} (hz:xs[j]? = some z) (he:EL f k) (hi:Nat.ble (i+1) k=true) (y':α) (hf:f y'=(f z).set i u) (hp:Rep L (ownT e f k v xs) (ownT e f k v (xs.set j y')) L2) (h:C undef L2):AC o l L n C:=fun G a w F M=>by
 have hi':i<k:=Nat.le_of_ble_eq_true hi
 obtain ⟨L',h1,h2⟩:=hp.both
 have hj:j<xs.length:=(List.getElem?_eq_some_iff.1 hz).1
 have hlen:=flat_lenE he xs
 have hpl:j*k+i<(xs.flatMap f).length:=by
  rw[hlen]
  have:(j+1)*k≤xs.length*k:=Nat.mul_le_mul_right k hj
  rw[Nat.succ_mul] at this;omega
 obtain ⟨s,hs⟩:=(M.pull (h1.app G)).ok
 obtain ⟨b,hv,⟨c,hc⟩,hfz,_,_⟩:=own_set (u:=u) hs hpl
 have hvb:vb v=b∧vo v=0:=by rw[hv];exact⟨rfl,rfl⟩
 rw[hvb.1,hvb.2,Nat.zero_add] at hx
 have:(execOp a.eval o).run Tryz.prog w=.ok .skip (w.setCell ⟨b,j*k+i,none⟩ u):=by
  unfold execOp
  rw[ho]
  simp[F.eval hx,F.eval hy,Instr.storeAt,Instr.sureAddr,run_storeVar_one hc hfz hu]
 rw[this]
 refine⟨L2,h,M.rep (hp.app G) fun s hs=>?_⟩
 obtain ⟨b',hv',_,_,hcg,hok⟩:=own_set (u:=u) hs hpl
 obtain rfl:b'=b:=by
  have:=hv.symm.trans hv'
  simp at this
  exact this.1.symm
 refine⟨hcg,s,?_,fun b hb=>.inl hb⟩
 rw[flat_set he.len xs j i z u hz hi' y' hf] at hok
 unfold ownT
 rw[List.length_set]
 exact hok
end
end
end Go.Proofs.YtjbfcacmdahnhaaGreat
