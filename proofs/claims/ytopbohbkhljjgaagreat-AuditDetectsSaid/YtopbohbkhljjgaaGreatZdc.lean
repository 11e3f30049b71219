import Derived.Test.YtopbohbkhljjgaaGreatZdb
set_option linter.unusedVariables false
set_option linter.unusedSimpArgs false
set_option maxRecDepth 100000
set_option maxHeartbeats 8000000
namespace Go.Proofs.YtopbohbkhljjgaaGreat
section
open Go.RowKit
theorem wp_loop_ghost {P:Program} {Q:Exit→Act→World→Prop} {c:Code} {σ:Type} (I:σ→Act→World→Prop) (μ:σ→Nat)
  (round:∀ s a w,I s a w→c.wp P (Exit.then (fun a' w'=>∃ s',I s' a' w'∧μ s'<μ s) Q) a w) {a:Act} {w:World} (s0:σ) (h0:I s0 a w):(Code.loop c).wp P Q a w:=by
 intro b k cs
 have key:∀ (n:Nat) (s:σ) (a:Act) (w:World),μ s=n→I s a w→∃ e a' w',Q e a' w'∧Arrives P (lone (b.at a (.code c::.inLoop c::k)) cs w) b k cs e a' w':=by
  intro n
  induction n using Nat.strongRecOn with
  | _ n ih =>
   intro s a w hn hI
   obtain ⟨e,a1,w1,hq,harr⟩:=round s a w hI b (.inLoop c::k) cs
   cases e with
   | normal =>
    obtain ⟨s',hI1,hlt⟩:=hq
    obtain ⟨e2,a2,w2,hq2,harr2⟩:=ih (μ s') (hn ▸ hlt) s' a1 w1 rfl hI1
    exact⟨e2,a2,w2,hq2,.of_steps (Steps.trans harr (.one step_inLoop)) harr2⟩
   | exit id=>exact⟨_,a1,w1,hq,.pass (x:=.inLoop c) rfl (fun _ _=>.inl (by simp)) harr⟩
   | goto l=>exact⟨_,a1,w1,hq,.pass (x:=.inLoop c) rfl (fun _ _=>.inl (by simp)) harr⟩
   | ret=>exact⟨_,a1,w1,hq,.pass (x:=.inLoop c) rfl (fun _ _=>.inl (by simp)) harr⟩
   | panic ch=>exact⟨_,a1,w1,hq,.pass (x:=.inLoop c) rfl (fun _ _=>.inl (by simp)) harr⟩
   | outgrown=>exact⟨_,a1,w1,hq,.pass (x:=.inLoop c) rfl (fun _ _=>.inl (by simp)) harr⟩
 obtain ⟨e,a',w',hq,harr⟩:=key _ s0 a w rfl h0
 exact⟨e,a',w',hq,.of_steps (.one step_loop) harr⟩
section
variable {Q:Exit→Act→World→Prop} {a:Act} {w:World} {n:Nat} {l:List (Nat × Value)} {L:List Asn}
theorem sv_loop {c:Code} {σ:Type} (lf:σ→List (Nat × Value)) (Lf:σ→List Asn) (Pf:σ→Prop) (μ:σ→Nat) (F:Fr a n l) (M:Mem w L)
  (s0:σ) (h0:∀ p∈lf s0,look l p.1=some p.2) (hL:Perms L (Lf s0)) (hP:Pf s0)
  (round:∀ s,Pf s→∀ a w,Fr a n (lf s)→Mem w (Lf s)→c.wp Tryz.prog (Exit.then (fun a' w'=>∃ s',(Fr a' n (lf s')∧Mem w' (Lf s')∧Pf s')∧μ s'<μ s) Q) a w):(Code.loop c).wp Tryz.prog Q a w :=
 wp_loop_ghost (fun s a w=>Fr a n (lf s)∧Mem w (Lf s)∧Pf s) μ (fun s a w ⟨h1,h2,h3⟩=>round s h3 a w h1 h2) s0 ⟨F.keep h0,M.perms hL,hP⟩
theorem sv_again {σ:Type} {lf:σ→List (Nat × Value)} {Lf:σ→List Asn} {Pf:σ→Prop} {μ:σ→Nat} {m:Nat} (F:Fr a n l) (M:Mem w L) (s':σ) (h0:∀ p∈lf s',look l p.1=some p.2) (hL:Perms L (Lf s')) (hP:Pf s') (hμ:μ s'<m) :
  ∃ s',(Fr a n (lf s')∧Mem w (Lf s')∧Pf s')∧μ s'<m:=⟨s',⟨F.keep h0,M.perms hL,hP⟩,hμ⟩
end
class EL {α:Type} (f:α→List Value) (k:outParam Nat):Prop where
 len:∀ x,(f x).length=k
 one:∀ x,∀ u∈f x,u.oneCell'=true
def vb:Value→Nat
 | .slice (some a) _ _=>a.block
 | _=>0
def vo:Value→Nat
 | .slice (some a) _ _=>a.off
 | _=>0
theorem flat_get {α:Type} {f:α→List Value} {k:Nat} (h:∀ x,(f x).length=k):∀ (xs:List α) (j i:Nat) (x:α),xs[j]? = some x→i<k→(xs.flatMap f)[j*k+i]? = (f x)[i]?
 | [],j,i,x,hj,_=>by simp at hj
 | y::r,0,i,x,hj,hi=>by
  obtain rfl:y=x:=by simpa using hj
  rw[List.flatMap_cons,Nat.zero_mul,Nat.zero_add,List.getElem?_append_left (by rw[h];exact hi)]
 | y::r,j+1,i,x,hj,hi=>by
  rw[List.flatMap_cons,List.getElem?_append_right (by rw[h,Nat.succ_mul];omega),h,show(j+1)*k+i - k=j*k+i by rw[Nat.succ_mul];omega]
  exact flat_get h r j i x (by simpa using hj) hi
theorem flat_one {α:Type} {f:α→List Value} {k:Nat} [h:EL f k] (xs:List α):∀ u∈xs.flatMap f,u.oneCell'=true:=fun u hu=>by
 obtain ⟨x,_,hx⟩:=List.mem_flatMap.1 hu
 exact h.one x u hx
theorem flat_drop {α:Type} {f:α→List Value} {k:Nat} (h:∀ x,(f x).length=k):∀ (xs:List α) (i:Nat),(xs.flatMap f).drop (i*k)=(xs.drop i).flatMap f
 | xs,0=>by simp
 | [],i+1=>by simp
 | x::r,i+1=>by
  rw[List.flatMap_cons,Nat.succ_mul,Nat.add_comm,← List.drop_drop,show k=(f x).length from (h x).symm,List.drop_left,h,flat_drop h r i,List.drop_succ_cons]
theorem flat_take {α:Type} {f:α→List Value} {k:Nat} (h:∀ x,(f x).length=k):∀ (xs:List α) (i:Nat),(xs.flatMap f).take (i*k)=(xs.take i).flatMap f
 | xs,0=>by simp
 | [],i+1=>by simp
 | x::r,i+1=>by
  rw[List.flatMap_cons,List.take_succ_cons,List.flatMap_cons,← flat_take h r i,Nat.succ_mul,Nat.add_comm]
  have e:(f x).length=k:=h x
  rw[List.take_append,e,List.take_of_length_le (by omega),show k+i*k - k=i*k by omega]
theorem flat_set {α:Type} {f:α→List Value} {k:Nat} (h:∀ x,(f x).length=k):∀ (xs:List α) (j i:Nat) (x:α) (v:Value),xs[j]? = some x→i<k→∀ y,f y=(f x).set i v→(xs.flatMap f).set (j*k+i) v=(xs.set j y).flatMap f
 | [],j,i,x,v,hj,_,_,_=>by simp at hj
 | z::r,0,i,x,v,hj,hi,y,hy=>by
  obtain rfl:z=x:=by simpa using hj
  rw[List.flatMap_cons,Nat.zero_mul,Nat.zero_add,List.set_append_left _ _ (by rw[h];exact hi),List.set_cons_zero,List.flatMap_cons,hy]
 | z::r,j+1,i,x,v,hj,hi,y,hy=>by
  rw[List.flatMap_cons,List.set_append_right _ _ (by rw[h,Nat.succ_mul];omega),h,show(j+1)*k+i - k=j*k+i by rw[Nat.succ_mul];omega,List.set_cons_succ,List.flatMap_cons,
   flat_set h r j i x v (by simpa using hj) hi y hy]
def SlT {α:Type} (w:World) (f:α→List Value) (k:Nat) (v:Value) (xs:List α):Prop:=SlR w k v xs.length (xs.flatMap f)
abbrev ownT {α:Type} (e:TypeId) (f:α→List Value) (k:Nat) (v:Value) (xs:List α):Asn:=own e k v xs.length (xs.flatMap f)
section
variable {ops:Array Oper} {Q:Exit→Act→World→Prop} {rest:List Oper} {o:Oper} {a:Act} {w:World} {n:Nat} {l:List (Nat × Value)} {L:List Asn} {C:Value→List Asn→Prop}
theorem SlR.at {size:Nat} {v:Value} {m:Nat} {xs:List Value} (h:SlR w size v m xs) (hm:0<m):∃ cap,v=.slice (some ⟨vb v,vo v,none⟩) m cap∧∀ j u,xs[j]? = some u→w.cell? ⟨vb v,vo v+j,none⟩=some u:=by
 obtain ⟨b,off,cap,rfl,_,hc⟩:=h.openSome hm
 exact⟨cap,rfl,hc⟩
def GS (L:List Asn) (size:Nat) (v:Value) (m:Nat) (xs:List Value):Prop:=Gives L fun w=>SlR w size v m xs
theorem gs_old {w0:World} {size m:Nat} {v:Value} {xs:List Value} (h:SlR w0 size v m xs) {L':List Asn} (hp:Pull L (Old w0) L'):GS L size v m xs:=Old.slr h hp
theorem gs_oldT {α:Type} {w0:World} {f:α→List Value} {k:Nat} {v:Value} {xs:List α} (h:SlT w0 f k v xs) {L':List Asn} (hp:Pull L (Old w0) L'):GS L k v xs.length (xs.flatMap f):=Old.slr h hp
theorem gs_own {e:TypeId} {size:Nat} {v:Value} {m:Nat} {xs:List Value} {L':List Asn} (hp:Pull L (own e size v m xs) L'):GS L size v m xs:=gives_own hp
def roA (size:Nat) (v:Value) (m:Nat) (xs:List Value):Asn:=fun _ w=>SlR w size v m xs∧∃ p c,v=.slice p m c∧m≤c
theorem gs_ro {size:Nat} {v:Value} {m:Nat} {xs:List Value} {L':List Asn} (hp:Pull L (roA size v m xs) L'):GS L size v m xs:=fun w M=>by
 obtain ⟨s,hs,_⟩:=(M.pull hp).head
 exact hs.1
theorem Mem.ro {e:TypeId} {size:Nat} {v:Value} {m:Nat} {xs:List Value} {w:World} (M:Mem w (own e size v m xs::L)):Mem w (roA size v m xs::L) :=
 M.imp fun s w' h=>⟨own_slr h,by
  rcases h.2 with⟨rfl,rfl,_⟩|⟨g,cap,cur,rfl,_,_,hm,_⟩
  ·exact⟨_,_,rfl,Nat.le_refl _⟩
  ·exact⟨_,_,rfl,hm⟩⟩
theorem GS.tail {A:Asn} {size:Nat} {v:Value} {m:Nat} {xs:List Value} (h:GS L size v m xs):GS (A::L) size v m xs:=fun w M=>h w M.drop
theorem GS.nil (L:List Asn) (size:Nat):GS L size (.slice none 0 0) 0 []:=fun w _=>SlR.nil w size
theorem rt_lenG {x:Operand} {ats:Array TypeId} {t:TypeId} (ho:o.op=.call {callee:=.builtin .len,args:=#[x],argTypes:=ats}) (hat:ats = #[t]) {v:Value} (hx:evl l x=some v) {e:TypeId} {z:Value} {size bytes:Nat} (ht:ST t e z size bytes) {m:Nat} {xs:List Value} (hg:GS L size v m xs):RT o l L n (.int .i64 m):=fun a w F M=>by
 obtain ⟨p,c,rfl⟩:=(hg w M).form
 exact rt_lenS (L:=L) ho hat hx ht a w F M
theorem rt_indexG {t:TypeId} {x y:Operand} (ho:o.op=.indexAddr t x y) {v:Value} (hx:evl l x=some v) {k:IntKind} {j:Int} (hy:evl l y=some (.int k j)) {e:TypeId} {z:Value} {size bytes:Nat} (ht:ST t e z size bytes) {m:Nat} {xs:List Value} (hg:GS L size v m xs) (h0:0≤j) (h1:j<m):RT o l L n (.pointer (some ⟨vb v,vo v+j.toNat*size,none⟩)):=fun a w F M=>by
 obtain ⟨cap,hv,_⟩:=(hg w M).at (by omega)
 have hx':=hx
 rw[hv] at hx'
 exact rt_indexS (L:=L) ho hx' hy ht h0 h1 rfl a w F M
theorem rt_load_at {t:TypeId} {x:Operand} (ho:o.op=.load t x) {v:Value} {p:Nat} (hx:evl l x=some (.pointer (some ⟨vb v,vo v+p,none⟩))) (hkt:KT t none) {size m:Nat} {xs:List Value} (hg:GS L size v m xs) {u:Value} (hu:xs[p]? = some u):RT o l L n u :=
 rt_loadg ho hx hkt fun w M=>by
  have h:=hg w M
  have hm:0<m:=by
   rcases Nat.eq_zero_or_pos m with h0|h0
   ·subst h0
    have:xs=[]:=List.eq_nil_of_length_eq_zero (by simpa using h.1)
    subst this;simp at hu
   ·exact h0
  obtain ⟨cap,_,hc⟩:=h.at hm
  exact hc p u hu
theorem rt_load_atA {t:TypeId} {x:Operand} (ho:o.op=.load t x) {v:Value} {p:Nat} (hx:evl l x=some (.pointer (some ⟨vb v,vo v+p,none⟩))) {k:Nat} (hkt:KT t (some k)) {size m:Nat} {xs:List Value} (hg:GS L size v m xs) {cs:List Value} (hk:cs.length=k) (hk0:0<k) (hu:∀ i,i<k→xs[p+i]? = cs[i]?):RT o l L n (.agg cs.toArray) :=
 rt_loadgA ho hx hkt hk fun w M=>by
  have h:=hg w M
  have hm:0<m:=by
   rcases Nat.eq_zero_or_pos m with h0|h0
   ·subst h0
    have:xs=[]:=List.eq_nil_of_length_eq_zero (by simpa using h.1)
    subst this
    have h2:=(hu 0 hk0).symm
    rw[List.getElem?_eq_getElem (by omega)] at h2
    simp at h2
   ·exact h0
  obtain ⟨cap,_,hc⟩:=h.at hm
  intro j u hj
  have hjk:j<k:=by
   have:=(List.getElem?_eq_some_iff.1 hj).1;omega
  rw[Nat.add_assoc]
  exact hc (p+j) u (by rw[hu j hjk];exact hj)
theorem rt_elem1 {α:Type} {f:α→List Value} {t:TypeId} {x:Operand} (ho:o.op=.load t x) {v:Value} {j:Nat} (hx:evl l x=some (.pointer (some ⟨vb v,vo v+j*1,none⟩))) (hkt:KT t none) {m:Nat} {xs:List α} (hg:GS L 1 v m (xs.flatMap f)) (he:EL f 1) {y:α} (hy:xs[j]? = some y) {u:Value} (hu:(f y)[0]? = some u):RT o l L n u :=
 rt_load_at ho hx hkt hg (by have:=flat_get he.len xs j 0 y hy (by omega);simp only[Nat.add_zero] at this;rw[this,hu])
theorem rt_elemA {α:Type} {f:α→List Value} {t:TypeId} {x:Operand} (ho:o.op=.load t x) {v:Value} {j k:Nat} (hx:evl l x=some (.pointer (some ⟨vb v,vo v+j*k,none⟩))) (hkt:KT t (some k)) {m:Nat} {xs:List α} (hg:GS L k v m (xs.flatMap f)) (he:EL f k) (hk0:Nat.ble 1 k=true) {y:α} (hy:xs[j]? = some y):RT o l L n (.agg (f y).toArray) :=
 rt_load_atA ho hx hkt hg (he.len y) (Nat.le_of_ble_eq_true hk0) fun i hi=>flat_get he.len xs j i y hy hi
theorem rt_elemF {α:Type} {f:α→List Value} {t:TypeId} {x:Operand} (ho:o.op=.load t x) {v:Value} {j k i:Nat} (hx:evl l x=some (.pointer (some ⟨vb v,vo v+j*k+i,none⟩))) (hkt:KT t none) {m:Nat} {xs:List α} (hg:GS L k v m (xs.flatMap f)) (he:EL f k) {y:α} (hy:xs[j]? = some y) {u:Value} (hu:(f y)[i]? = some u):RT o l L n u :=
 rt_load_at ho (p:=j*k+i) (by rw[← Nat.add_assoc];exact hx) hkt hg (by
  have hi:i<k:=by have:=(List.getElem?_eq_some_iff.1 hu).1;rw[he.len] at this;exact this
  rw[flat_get he.len xs j i y hy hi,hu])
theorem Spec.of_below_g {k:FuncId} {us us':List Value} {v:Value} {φ:World→Prop} (h:∀ w,φ w→Calls Tryz.prog k us'.toArray w fun e w'=>e=.returned v∧Below w.heap.size w w') (hg:Gives L φ) (hu:us=us') (hC:C v L):Spec k us L C:=by
 subst hu
 exact fun G w M=>(h w (hg w M.drop_app)).mono fun e w' ⟨he,hb⟩=>⟨v,L,he,hC,M.of_below hb⟩
def unidx:Nat→List (Nat × Value)→Option (List Value)
 | _,[]=>some []
 | k,(i,v)::r=>match Nat.beq i k,unidx (k+1) r with
  | true,some vs=>some (v::vs)
  | _,_=>none
def idxL:Nat→List Value→List (Nat × Value)
 | _,[]=>[]
 | k,v::r=>(k,v)::idxL (k+1) r
theorem unidx_spec:∀ (ps:List (Nat × Value)) (k:Nat) {vs:List Value},unidx k ps=some vs→ps=idxL k vs
 | [],k,vs,h=>by simp[unidx] at h;subst h;rfl
 | (i,v)::r,k,vs,h=>by
  simp only[unidx] at h
  split at h
  ·rename_i vs' h1 h2
   obtain rfl:=Option.some.inj h
   rw[Nat.eq_of_beq_eq_true h1,unidx_spec r (k+1) h2];rfl
  ·cases h
def cellsL:List Value→List Value
 | []=>[]
 | v::r=>partL v++cellsL r
def sizesOK (size:Nat):List Value→Bool
 | []=>true
 | v::r=>Nat.beq (partL v).length size && sizesOK size r
theorem fill_all (size:Nat):∀ (vs:List Value) (i:Nat) (cells:Array Value),sizesOK size vs=true→i*size+vs.length*size≤cells.size →
  Instr.fill (fun i=>some (i*size,size)) cells (idxL i vs)=some (cells.toList.take (i*size)++cellsL vs++cells.toList.drop (i*size+vs.length*size)).toArray∧(cellsL vs).length=vs.length*size
 | [],i,cells,_,_=>by simp[idxL,Instr.fill,cellsL]
 | v::r,i,cells,h,hle=>by
  simp only[sizesOK,Bool.and_eq_true] at h
  obtain ⟨h1,h2⟩:=h
  have h1:(partL v).length=size:=Nat.eq_of_beq_eq_true h1
  have hsz:v.cells.size=size:=by rw[← h1,← partL_eq];simp
  simp only[List.length_cons,Nat.succ_mul] at hle
  have hfold:(v.cells.zipIdx.foldl (fun cs x=>cs.setIfInBounds (i*size+x.2) x.1) cells).toList=cells.toList.take (i*size)++partL v++cells.toList.drop (i*size+size):=by
   rw[← Array.foldl_toList,Array.toList_zipIdx]
   have:=fold_set (i*size) v.cells.toList 0 cells
   simp only[Nat.add_zero] at this
   rw[this,setMany_eq _ _ _ (by simp[hsz];omega),partL_eq,h1]
  obtain ⟨k1,k2⟩:=fill_all size r (i+1) (v.cells.zipIdx.foldl (fun cs x=>cs.setIfInBounds (i*size+x.2) x.1) cells) h2 (by
   have:(v.cells.zipIdx.foldl (fun cs x=>cs.setIfInBounds (i*size+x.2) x.1) cells).size=cells.size:=by
    rw[← Array.length_toList,hfold];simp[h1];omega
   rw[this,Nat.succ_mul];omega)
  refine⟨?_,by simp only[cellsL,List.length_append,List.length_cons,k2,h1,Nat.succ_mul];omega⟩
  rw[idxL,Instr.fill]
  have hcond:¬((decide (v.cells.size≠size) || decide (i*size+v.cells.size>cells.size))=true):=by
   simp[hsz];omega
  simp only[if_neg hcond]
  have e:=k1
  rw[hfold] at e
  refine Eq.trans e ?_
  congr 2
  have l1:(cells.toList.take (i*size)).length=i*size:=by simp;omega
  have e1:(cells.toList.take (i*size)++partL v++cells.toList.drop (i*size+size)).take ((i+1)*size)=cells.toList.take (i*size)++partL v:=by
   rw[Nat.succ_mul]
   have:(cells.toList.take (i*size)++partL v).length=i*size+size:=by rw[List.length_append,l1,h1]
   rw[← this];exact List.take_left
  have e2:(cells.toList.take (i*size)++partL v++cells.toList.drop (i*size+size)).drop ((i+1)*size+r.length*size)=cells.toList.drop (i*size+(v::r).length*size):=by
   have:(cells.toList.take (i*size)++partL v).length=i*size+size:=by rw[List.length_append,l1,h1]
   rw[Nat.succ_mul,List.drop_append,List.drop_of_length_le (by rw[this];omega),List.nil_append,this,List.drop_drop]
   congr 1
   simp only[List.length_cons,Nat.succ_mul];omega
  rw[e1,e2]
  simp[cellsL]
theorem rt_buildA {t:TypeId} {parts:Array (Nat × Operand)} (ho:o.op=.build t parts) {zs:List Value} (hz:ZT t zs) {len e size:Nat} (ht:AT t len e size) {ps:List (Nat × Value)} (hv:evps l parts.toList=some ps) {vs:List Value} (hu:unidx 0 ps=some vs)
  (hl:Nat.beq zs.length (len*size)=true) (hs:sizesOK size vs=true) (hlen:Nat.beq vs.length len=true) {cs:List Value} (hcs:cellsL vs=cs):RT o l L n (.agg cs.toArray):=fun a w F M=>by
 subst hcs
 obtain ⟨i,z,hi,hzz,h3⟩:=zero_run hz
 have hl:zs.length=len*size:=Nat.eq_of_beq_eq_true hl
 have hlen:vs.length=len:=Nat.eq_of_beq_eq_true hlen
 have hps:=unidx_spec ps 0 hu
 have hparts:(parts.map fun x=>(x.1,a.eval x.2)).toList=idxL 0 vs:=by rw[← hps];have:=F.evps hv;simpa using this
 obtain ⟨k1,k2⟩:=fill_all size vs 0 zs.toArray hs (by simp[hl,hlen])
 have hzv:(zeroValue t).run Tryz.prog w=.ok z w:=by simp[zeroValue,typeInfo,hi,hzz]
 have hss:(sizeOf e).run Tryz.prog w=.ok size w:=by
  obtain ⟨j,hj,hj2⟩:=Option.map_eq_some_iff.1 ht.k.2
  simp[sizeOf,typeInfo,hj,hj2]
 have hd:(zs.toArray).toList.take (0*size)++cellsL vs++zs.toArray.toList.drop (0*size+vs.length*size)=cellsL vs:=by
  simp only[Nat.zero_mul,Nat.zero_add,List.take_zero,List.nil_append]
  rw[List.drop_of_length_le (by simp[hl,hlen]),List.append_nil]
 rw[hd] at k1
 unfold execOp
 rw[ho]
 simp only[Instr.build,Sem.run_bind,hzv,run_underlying ht.k.1 w,Result.andThen_ok,hss,h3,hparts,k1,Sem.run_pure]
theorem ac_buildSlice {t:TypeId} {len:Nat} {parts:Array (Nat × Operand)} (ho:o.op=.buildSlice t len parts) {e:TypeId} {z:Value} {size bytes:Nat} (ht:ST t e z size bytes) {ps:List (Nat × Value)} (hv:evps l parts.toList=some ps) {vs:List Value} (hu:unidx 0 ps=some vs) (hl:Nat.beq vs.length len=true) (hs:sizesOK size vs=true) (hsm:Nat.ble (len*size) 65536=true) {cs:List Value} (hcs:cellsL vs=cs)
  (h:∀ b,C (.slice (some ⟨b,0,none⟩) len len) (own e size (.slice (some ⟨b,0,none⟩) len len) len cs::L)):AC o l L n C:=fun G a w F M=>by
 subst hcs
 obtain ⟨i,hu1,hi,hz,hsize,hby,hzs,hsz⟩:=st_info ht
 have hl:vs.length=len:=Nat.eq_of_beq_eq_true hl
 have hsm:len*size≤65536:=Nat.le_of_ble_eq_true hsm
 have hps:=unidx_spec ps 0 hu
 have hparts:(parts.map fun x=>(x.1,a.eval x.2)).toList=idxL 0 vs:=by rw[← hps];have:=F.evps hv;simpa using this
 have key:∀ cells:Array Value,cells.size=len*size→Instr.fill (fun i=>some (i*size,size)) cells (idxL 0 vs)=some (cellsL vs).toArray:=fun cells hc=>by
  obtain ⟨k1,k2⟩:=fill_all size vs 0 cells hs (by rw[hc,hl];omega)
  rw[k1]
  congr 2
  simp only[Nat.zero_mul,Nat.zero_add,List.take_zero,List.nil_append]
  rw[List.drop_of_length_le (by rw[hl,Array.length_toList,hc];omega),List.append_nil]
 have hlen:(cellsL vs).length=len*size:=by
  obtain ⟨_,k2⟩:=fill_all size vs 0 (Array.replicate (len*size) undef) hs (by simp[hl])
  rw[k2,hl]
 have hrun:(execOp a.eval o).run Tryz.prog w=.ok (.value (.slice (some ⟨w.heap.size,0,none⟩) len len)) (w.alloc (.cells (cellsL vs).toArray e)):=by
  unfold execOp
  rw[ho]
  have hzv:(zeroValue e).run Tryz.prog w=.ok z w:=by simp[zeroValue,typeInfo,hi,hz]
  have h24:¬(len*size>2 ^ 24):=by omega
  have hk:=key ((Array.range (len*size)).map ((if len*size=0 then #[] else z.cells)[· % (if len*size=0 then #[] else z.cells).size]!)) (by simp)
  have hss:(sizeOf e).run Tryz.prog w=.ok size w:=by simp[sizeOf,typeInfo,hi,hsize]
  by_cases h0:len*size=0
  ·simp only[if_pos h0] at hk
   simp only[Instr.buildSlice,Sem.run_bind,run_underlying hu1 w,hss,Result.andThen_ok,if_neg h24,hparts,if_pos h0,Sem.run_pure,hk]
   simp[newRow,newObj,Sem.run]
  ·simp only[if_neg h0] at hk
   simp only[Instr.buildSlice,Sem.run_bind,run_underlying hu1 w,hss,Result.andThen_ok,if_neg h24,hparts,if_neg h0,Sem.run_pure,hzv,hk]
   simp[newRow,newObj,Sem.run]
 rw[hrun]
 refine⟨_,h _,?_⟩
 exact Mem.own_pt (M.alloc (cellsL vs) e) hlen (by simp only[maxLen];have:=Nat.le_mul_of_pos_right len hsz;omega)
theorem GS.len_le {size m:Nat} {v:Value} {xs:List Value} (h:GS L size v m xs) (M:Mem w L):m≤9223372036854775807:=(h w M).len_le
theorem GS.imp {K:List Asn} {size m:Nat} {v:Value} {xs:List Value} (h:GS L size v m xs) (hk:∀ w,Mem w K→Mem w L):GS K size v m xs:=fun w M=>h w (hk w M)
def Reads (k:FuncId) (us:List Value) (v:Value) (L:List Asn):Prop:=∀ K,(∀ w,Mem w K→Mem w L)→∀ w,Mem w K→Calls Tryz.prog k us.toArray w fun e w'=>e=.returned v∧Mem w' K
theorem Spec.of_reads {k:FuncId} {us us':List Value} {v:Value} (h:Reads k us' v L) (hu:us=us') (hC:C v L):Spec k us L C:=by
 subst hu
 exact fun G w M=>(h (L++G) (fun w M=>M.drop_app) w M).mono fun e w' ⟨he,hm⟩=>⟨v,L,he,hC,hm⟩
abbrev str (s:List UInt8):Value:=.string ⟨s.toArray⟩
theorem rt_cat {t ty:TypeId} {x y:Operand} (ho:o.op=.binOp .add t x y ty) {s r:List UInt8} (hx:evl l x=some (str s)) (hy:evl l y=some (str r)) (hb:s.length+r.length≤9223372036854775807):RT o l L n (str (s++r)):=fun a w F M=>by
 unfold execOp
 rw[ho]
 have:(ByteArray.mk s.toArray)++(ByteArray.mk r.toArray)=ByteArray.mk (s++r).toArray:=by
  apply ByteArray.ext;simp
 have h1:(ByteArray.mk s.toArray).size=s.length:=rfl
 have h2:(ByteArray.mk r.toArray).size=r.length:=rfl
 have h3:¬((s.length:Int)+(r.length:Int)>IntKind.i64.max):=by
  show ¬((s.length:Int)+(r.length:Int)>9223372036854775807)
  omega
 simp[F.eval hx,F.eval hy,eqGuard,binOp,Op.stringOp,this,h1,h2]
 omega
theorem rt_eqT {t ty:TypeId} {x y:Operand} (ho:o.op=.binOp .eql t x y ty) {s r:List UInt8} (hx:evl l x=some (str s)) (hy:evl l y=some (str r)):RT o l L n (.bool (decide (s=r))):=fun a w F M=>by
 unfold execOp
 rw[ho]
 simp[F.eval hx,F.eval hy,eqGuard,binOp,Op.stringOp,ByteArray.toList_mk]
 rw[Bool.eq_iff_iff];simp
theorem rt_neT {t ty:TypeId} {x y:Operand} (ho:o.op=.binOp .neq t x y ty) {s r:List UInt8} (hx:evl l x=some (str s)) (hy:evl l y=some (str r)):RT o l L n (.bool (decide (s≠r))):=fun a w F M=>by
 unfold execOp
 rw[ho]
 simp[F.eval hx,F.eval hy,eqGuard,binOp,Op.stringOp,ByteArray.toList_mk]
 rw[Bool.eq_iff_iff];simp
class PT (t:TypeId) (e:outParam TypeId):Prop where
 k:Tryz.prog.underlying t=some (.pointer e)∧(Tryz.prog.info? e).isSome=true
class TT (t:TypeId):Prop where
 k:Tryz.prog.underlying t=some .string
theorem rt_lenStr {x:Operand} {ats:Array TypeId} {t:TypeId} (ho:o.op=.call {callee:=.builtin .len,args:=#[x],argTypes:=ats}) (hat:ats = #[t]) {s:List UInt8} (hx:evl l x=some (str s)) (ht:TT t):RT o l L n (.int .i64 s.length):=rt_lenT ho hat hx ht.k
theorem rt_byte {t:TypeId} {x y:Operand} (ho:o.op=.index t x y) {s:List UInt8} (hx:evl l x=some (str s)) {k:IntKind} {j:Int} (hy:evl l y=some (.int k j)) (ht:TT t) (h0:0≤j) {b:UInt8} (hb:s[j.toNat]? = some b):RT o l L n (.int .u8 b.toNat):=fun a w F M=>by
 unfold execOp
 rw[ho]
 obtain ⟨hlt,hb'⟩:=List.getElem?_eq_some_iff.1 hb
 have h1:(ByteArray.mk s.toArray)[j.toNat]? = some b:=by
  have hs:j.toNat<(ByteArray.mk s.toArray).size:=hlt
  rw[getElem?_pos (ByteArray.mk s.toArray) j.toNat hs]
  congr 1
 simp[F.eval hx,F.eval hy,Instr.index,asIntOf,run_underlying ht.k w,h0,h1]
theorem rt_mid {t:TypeId} {x y z:Operand} (ho:o.op=.slice t x (some y) (some z) none) {s:List UInt8} (hx:evl l x=some (str s)) {k k':IntKind} {i j:Int} (hy:evl l y=some (.int k i)) (hz:evl l z=some (.int k' j)) (ht:TT t) (h0:0≤i) (h1:i≤j) (h2:j≤s.length):RT o l L n (str ((s.drop i.toNat).take (j.toNat - i.toNat))):=fun a w F M=>by
 unfold execOp
 rw[ho]
 have hr:=run_sliceAt_string (P:=Tryz.prog) w t (.string ⟨s.toArray⟩) (some (.int k i)) (some (.int k' j)) none ht.k
 have hs:=run_slice_string (P:=Tryz.prog) w t ⟨s.toArray⟩ k k' i j ht.k h0 h1 (by show j≤(s.length:Int);exact h2)
 simp[F.eval hx,F.eval hy,F.eval hz,hr,hs,ByteArray.extract_mk]
theorem rt_midFrom {t:TypeId} {x y:Operand} (ho:o.op=.slice t x (some y) none none) {s:List UInt8} (hx:evl l x=some (str s)) {k:IntKind} {i:Int} (hy:evl l y=some (.int k i)) (ht:TT t) (h0:0≤i) (h1:i≤s.length):RT o l L n (str (s.drop i.toNat)):=fun a w F M=>by
 unfold execOp
 rw[ho]
 have hr:=run_sliceAt_string (P:=Tryz.prog) w t (.string ⟨s.toArray⟩) (some (.int k i)) none none ht.k
 have hs:=run_slice_string_l (P:=Tryz.prog) w t ⟨s.toArray⟩ ht.k k i h0 (by show i≤(s.length:Int);exact h1)
 have hz:(ByteArray.mk s.toArray).size=s.length:=rfl
 have:(s.drop i.toNat).take (s.length - i.toNat)=s.drop i.toNat:=List.take_of_length_le (by simp)
 simp[F.eval hx,F.eval hy,hr,hs,ByteArray.extract_mk,hz,this]
theorem rt_midTo {t:TypeId} {x y:Operand} (ho:o.op=.slice t x none (some y) none) {s:List UInt8} (hx:evl l x=some (str s)) {k:IntKind} {i:Int} (hy:evl l y=some (.int k i)) (ht:TT t) (h0:0≤i) (h1:i≤s.length):RT o l L n (str (s.take i.toNat)):=fun a w F M=>by
 unfold execOp
 rw[ho]
 have hr:=run_sliceAt_string (P:=Tryz.prog) w t (.string ⟨s.toArray⟩) none (some (.int k i)) none ht.k
 have hs:=run_slice_string_h (P:=Tryz.prog) w t ⟨s.toArray⟩ ht.k k i h0 (by show i≤(s.length:Int);exact h1)
 simp[F.eval hx,F.eval hy,hr,hs,ByteArray.extract_mk]
theorem rt_sliceA {t:TypeId} {x y:Operand} (ho:o.op=.slice t x none (some y) none) {b i:Nat} (hx:evl l x=some (.pointer (some ⟨b,i,none⟩))) {k:IntKind} {j:Int} (hy:evl l y=some (.int k j)) {len e size:Nat} (ht:AT t len e size) (h0:0≤j) (h1:j≤len):RT o l L n (.slice (some ⟨b,i,none⟩) j.toNat len):=fun a w F M=>by
 unfold execOp
 rw[ho]
 obtain ⟨hu,hs⟩:=ht.k
 have e1:Tryz.prog.arrayLen t=len:=by simp[Program.arrayLen,hu]
 have e2:Tryz.prog.elem t=e:=by simp[Program.elem,hu]
 have hr:=run_sliceAt_array_h (P:=Tryz.prog) w t ⟨b,i,none⟩ (by rw[e1,e2];exact hu) k j h0 (by rw[e1];exact h1)
 have hz:(sizeOf e).run Tryz.prog w=.ok size w:=by
  cases hi:Tryz.prog.info? e with
  | none=>rw[hi] at hs;cases hs
  | some ie =>
   rw[hi] at hs
   have hs:=Option.some.inj hs
   simp[sizeOf,typeInfo,hi,hs]
 rw[e1,e2,hz] at hr
 simp only[Result.andThen_ok,slicedAt] at hr
 have:(if len=0 then (⟨b,i,none⟩:Addr) else (⟨b,i,none⟩:Addr).add (0*size))=⟨b,i,none⟩:=by
  split
  ·rfl
  ·rw[add0];simp
 rw[this] at hr
 simp[F.eval hx,F.eval hy,hr]
theorem st_size {t e:TypeId} {z:Value} {size bytes:Nat} (ht:ST t e z size bytes) (w:World):(sizeOf e).run Tryz.prog w=.ok size w:=by
 obtain ⟨i,_,hi,_,hs,_⟩:=st_info ht
 simp[sizeOf,typeInfo,hi,hs]
structure SlH where
 a:Option Addr
 n:Nat
 c:Nat
abbrev sl (h:SlH):Value:=.slice h.a h.n h.c
theorem rt_nilp {t ty:TypeId} {x y:Operand} (ho:o.op=.binOp .eql t x y ty) {p:Option Addr} (hx:evl l x=some (.pointer p)) (hy:evl l y=some (.pointer none)) {e:TypeId} (ht:PT t e):RT o l L n (.bool p.isNone):=fun a w F M=>by
 have h:=ht.k.1
 have h':Tryz.prog.underlying t=some (.pointer (Tryz.prog.pointee t)):=by simp[Program.pointee,h]
 unfold execOp
 rw[ho]
 simp[F.eval hx,F.eval hy,eqGuard,run_eql_pointer_nil w t p h']
theorem rt_nenilp {t ty:TypeId} {x y:Operand} (ho:o.op=.binOp .neq t x y ty) {p:Option Addr} (hx:evl l x=some (.pointer p)) (hy:evl l y=some (.pointer none)) {e:TypeId} (ht:PT t e):RT o l L n (.bool (!p.isNone)):=fun a w F M=>by
 have h:=ht.k.1
 have h':Tryz.prog.underlying t=some (.pointer (Tryz.prog.pointee t)):=by simp[Program.pointee,h]
 unfold execOp
 rw[ho]
 simp[F.eval hx,F.eval hy,eqGuard,run_neq_pointer_nil w t p h']
theorem SlR.nil_len {w:World} {size m:Nat} {n c:Nat} {xs:List Value} (h:SlR w size (sl ⟨none,n,c⟩) m xs):m=0:=by
 rcases h.parts with⟨⟨_,_,hh⟩,h1,_⟩|⟨b,off,cap,hh,_⟩
 ·exact h1
 ·cases hh
theorem rt_nils {t ty:TypeId} {x y:Operand} (ho:o.op=.binOp .eql t x y ty) {h:SlH} (hx:evl l x=some (sl h)) (hy:evl l y=some (.slice none 0 0)) {e:TypeId} {z:Value} {k bytes:Nat} (ht:ST t e z k bytes):RT o l L n (.bool h.a.isNone):=fun a w F M=>by
 obtain ⟨ha,hn,hc⟩:=h
 have hr:=Go.run_eql_slice_nil (P:=Tryz.prog) w t e ha hn hc ht.k.1
 unfold execOp
 rw[ho]
 simp[F.eval hx,F.eval hy,eqGuard,hr]
theorem rt_nenils {t ty:TypeId} {x y:Operand} (ho:o.op=.binOp .neq t x y ty) {h:SlH} (hx:evl l x=some (sl h)) (hy:evl l y=some (.slice none 0 0)) {e:TypeId} {z:Value} {k bytes:Nat} (ht:ST t e z k bytes):RT o l L n (.bool (!h.a.isNone)):=fun a w F M=>by
 obtain ⟨ha,hn,hc⟩:=h
 have hr:=Go.run_neq_slice_nil (P:=Tryz.prog) w t e ha hn hc ht.k.1
 unfold execOp
 rw[ho]
 simp[F.eval hx,F.eval hy,eqGuard,hr]
theorem rt_neg {t:TypeId} {x:Operand} (ho:o.op=.unOp .neg t x) {k:IntKind} {m:Int} (hx:evl l x=some (.int k m)) {r:Int} (hr:k.wrap (-m)=r):RT o l L n (.int k r):=fun a w F M=>by
 subst hr
 unfold execOp
 rw[ho]
 have hr:(Op.intArith .sub k 0 m).run Tryz.prog w=.ok (.int k (k.wrap (-m))) w:=by
  simp[Op.intArith]
 simp[F.eval hx,Op.unary,hr]
theorem Gives.app {L G:List Asn} {φ:World→Prop} (h:Gives L φ):Gives (L++G) φ:=fun w M=>h w M.drop_app
end
end
section
open Go.RowKit
class EQF {α:Type} [DecidableEq α] (f:α→List Value) (ks:outParam (List Sc)):Prop where
 k:∀ x y,cellsEq ks (f x) (f y)=some (decide (x=y))
section
variable {ops:Array Oper} {Q:Exit→Act→World→Prop} {rest:List Oper} {o:Oper} {a:Act} {w:World} {n:Nat} {l:List (Nat × Value)} {L:List Asn} {C:Value→List Asn→Prop}
theorem rtA {v:Value} (h:RT o l L n v:=by(first|(apply rt_eqT;(exact rfl);(exact rfl);(exact rfl))|(apply rt_neT;(exact rfl);(exact rfl);(exact rfl))|(exact rt_pure rfl)|(apply rt_extract;(exact rfl);(exact rfl);(exact rfl))|(apply rt_field;(exact rfl);(exact rfl);(exact inferInstance);(exact rfl))|(apply rt_load;(exact rfl);(exact rfl);(exact inferInstance);(focus ((repeat (first|exact Pull.here|apply Pull.there));done));(exact rfl))|(apply rt_loadA;(exact rfl);(exact rfl);(exact inferInstance);(focus ((repeat (first|exact Pull.here|apply Pull.there));done));(exact rfl))|(apply rt_add;(exact rfl);(exact rfl);(exact rfl);(focus (first|omega|((simp only[maxLen,List.length_append,List.length_cons,List.length_nil] at *);omega)));(focus (first|omega|((simp only[maxLen,List.length_append,List.length_cons,List.length_nil] at *);omega))))|(apply rt_sub;(exact rfl);(exact rfl);(exact rfl);(focus (first|omega|((simp only[maxLen,List.length_append,List.length_cons,List.length_nil] at *);omega)));(focus (first|omega|((simp only[maxLen,List.length_append,List.length_cons,List.length_nil] at *);omega))))|(apply rt_addu;(exact rfl);(exact rfl);(exact rfl);(focus (first|omega|((simp only[maxLen,List.length_append,List.length_cons,List.length_nil] at *);omega)));(focus (first|omega|((simp only[maxLen,List.length_append,List.length_cons,List.length_nil] at *);omega))))|(apply rt_subu;(exact rfl);(exact rfl);(exact rfl);(focus (first|omega|((simp only[maxLen,List.length_append,List.length_cons,List.length_nil] at *);omega)));(focus (first|omega|((simp only[maxLen,List.length_append,List.length_cons,List.length_nil] at *);omega))))|(apply rt_conv;(exact rfl);(exact rfl);(exact inferInstance);(exact inferInstance);(focus (first|assumption|exact IntWalk.i64_in _ (by omega)|exact u64_in (by omega) (by omega)|exact IntWalk.u8_in _ (by omega)|exact rfl)))|(apply rt_indexA;(exact rfl);(exact rfl);(exact rfl);(exact inferInstance);(focus (first|omega|((simp only[maxLen,List.length_append,List.length_cons,List.length_nil] at *);omega)));(focus (first|omega|((simp only[maxLen,List.length_append,List.length_cons,List.length_nil] at *);omega)));(exact rfl))|(apply rt_indexS;(exact rfl);(exact rfl);(exact rfl);(exact inferInstance);(focus (first|omega|((simp only[maxLen,List.length_append,List.length_cons,List.length_nil] at *);omega)));(focus (first|omega|((simp only[maxLen,List.length_append,List.length_cons,List.length_nil] at *);omega)));(exact rfl))|(apply rt_eql1;(exact rfl);(exact rfl);(exact rfl);(exact inferInstance);(exact rfl))|(apply rt_neq1;(exact rfl);(exact rfl);(exact rfl);(exact inferInstance);(exact rfl))|(apply rt_eql;(exact rfl);(exact rfl);(exact rfl);(exact inferInstance);(exact rfl))|(apply rt_neq;(exact rfl);(exact rfl);(exact rfl);(exact inferInstance);(exact rfl))|(apply rt_loadS;(exact rfl);(exact rfl);(exact inferInstance);(focus ((repeat (first|exact Pull.here|apply Pull.there));done));(exact rfl))|(apply rt_eqb;(exact rfl);(exact rfl);(exact rfl);(exact inferInstance))|(apply rt_neb;(exact rfl);(exact rfl);(exact rfl);(exact inferInstance))|(apply rt_min;(exact rfl);(exact rfl);(exact rfl))|(apply rt_max;(exact rfl);(exact rfl);(exact rfl))|(apply rt_build;(exact rfl);(exact inferInstance);(exact inferInstance);(exact rfl);(exact rfl))|(apply rt_buildA;(exact rfl);(exact inferInstance);(exact inferInstance);(exact rfl);(exact rfl);(exact rfl);(exact rfl);(exact rfl);(exact rfl))|(apply rt_rem;(exact rfl);(exact rfl);(exact rfl);(focus (first|omega|((simp only[maxLen,List.length_append,List.length_cons,List.length_nil] at *);omega)));(focus (first|omega|((simp only[maxLen,List.length_append,List.length_cons,List.length_nil] at *);omega))))|(apply rt_quo;(exact rfl);(exact rfl);(exact rfl);(focus (first|omega|((simp only[maxLen,List.length_append,List.length_cons,List.length_nil] at *);omega)));(focus (first|omega|((simp only[maxLen,List.length_append,List.length_cons,List.length_nil] at *);omega)));(focus (first|assumption|exact IntWalk.i64_in _ (by omega)|exact u64_in (by omega) (by omega)|exact IntWalk.u8_in _ (by omega)|exact rfl)))|(apply rt_mul;(exact rfl);(exact rfl);(exact rfl);(focus (first|omega|((simp only[maxLen,List.length_append,List.length_cons,List.length_nil] at *);omega)));(focus (first|omega|((simp only[maxLen,List.length_append,List.length_cons,List.length_nil] at *);omega))))|(apply rt_lenG;(exact rfl);(exact rfl);(exact rfl);(exact inferInstance);(first|(focus ((repeat (first|assumption|apply GS.tail));done))|(apply gs_old;assumption;(focus ((repeat (first|exact Pull.here|apply Pull.there));done)))|(apply gs_oldT;assumption;(focus ((repeat (first|exact Pull.here|apply Pull.there));done)))|(apply gs_own;(focus ((repeat (first|exact Pull.here|apply Pull.there));done)))|(apply gs_ro;(focus ((repeat (first|exact Pull.here|apply Pull.there));done)))|exact GS.nil _ _))|(apply rt_lenS;(exact rfl);(exact rfl);(exact rfl);(exact inferInstance))|(apply rt_indexG;(exact rfl);(exact rfl);(exact rfl);(exact inferInstance);(first|(focus ((repeat (first|assumption|apply GS.tail));done))|(apply gs_old;assumption;(focus ((repeat (first|exact Pull.here|apply Pull.there));done)))|(apply gs_oldT;assumption;(focus ((repeat (first|exact Pull.here|apply Pull.there));done)))|(apply gs_own;(focus ((repeat (first|exact Pull.here|apply Pull.there));done)))|(apply gs_ro;(focus ((repeat (first|exact Pull.here|apply Pull.there));done)))|exact GS.nil _ _);(focus (first|omega|((simp only[maxLen,List.length_append,List.length_cons,List.length_nil] at *);omega)));(focus (first|omega|((simp only[maxLen,List.length_append,List.length_cons,List.length_nil] at *);omega))))|(apply rt_elemF;(exact rfl);(exact rfl);(exact inferInstance);(first|(focus ((repeat (first|assumption|apply GS.tail));done))|(apply gs_old;assumption;(focus ((repeat (first|exact Pull.here|apply Pull.there));done)))|(apply gs_oldT;assumption;(focus ((repeat (first|exact Pull.here|apply Pull.there));done)))|(apply gs_own;(focus ((repeat (first|exact Pull.here|apply Pull.there));done)))|(apply gs_ro;(focus ((repeat (first|exact Pull.here|apply Pull.there));done)))|exact GS.nil _ _);(exact inferInstance);assumption;(exact rfl))|(apply rt_elem1;(exact rfl);(exact rfl);(exact inferInstance);(first|(focus ((repeat (first|assumption|apply GS.tail));done))|(apply gs_old;assumption;(focus ((repeat (first|exact Pull.here|apply Pull.there));done)))|(apply gs_oldT;assumption;(focus ((repeat (first|exact Pull.here|apply Pull.there));done)))|(apply gs_own;(focus ((repeat (first|exact Pull.here|apply Pull.there));done)))|(apply gs_ro;(focus ((repeat (first|exact Pull.here|apply Pull.there));done)))|exact GS.nil _ _);(exact inferInstance);assumption;(exact rfl))|(apply rt_elemA;(exact rfl);(exact rfl);(exact inferInstance);(first|(focus ((repeat (first|assumption|apply GS.tail));done))|(apply gs_old;assumption;(focus ((repeat (first|exact Pull.here|apply Pull.there));done)))|(apply gs_oldT;assumption;(focus ((repeat (first|exact Pull.here|apply Pull.there));done)))|(apply gs_own;(focus ((repeat (first|exact Pull.here|apply Pull.there));done)))|(apply gs_ro;(focus ((repeat (first|exact Pull.here|apply Pull.there));done)))|exact GS.nil _ _);(exact inferInstance);(exact rfl);assumption)|(apply rt_lenStr;(exact rfl);(exact rfl);(exact rfl);(exact inferInstance))|(apply rt_byte;(exact rfl);(exact rfl);(exact rfl);(exact inferInstance);(focus (first|omega|((simp only[maxLen,List.length_append,List.length_cons,List.length_nil] at *);omega)));assumption)|(apply rt_mid;(exact rfl);(exact rfl);(exact rfl);(exact rfl);(exact inferInstance);(focus (first|omega|((simp only[maxLen,List.length_append,List.length_cons,List.length_nil] at *);omega)));(focus (first|omega|((simp only[maxLen,List.length_append,List.length_cons,List.length_nil] at *);omega)));(focus (first|omega|((simp only[maxLen,List.length_append,List.length_cons,List.length_nil] at *);omega))))|(apply rt_midFrom;(exact rfl);(exact rfl);(exact rfl);(exact inferInstance);(focus (first|omega|((simp only[maxLen,List.length_append,List.length_cons,List.length_nil] at *);omega)));(focus (first|omega|((simp only[maxLen,List.length_append,List.length_cons,List.length_nil] at *);omega))))|(apply rt_midTo;(exact rfl);(exact rfl);(exact rfl);(exact inferInstance);(focus (first|omega|((simp only[maxLen,List.length_append,List.length_cons,List.length_nil] at *);omega)));(focus (first|omega|((simp only[maxLen,List.length_append,List.length_cons,List.length_nil] at *);omega))))|(apply rt_cat;(exact rfl);(exact rfl);(exact rfl);(focus (first|omega|((simp only[maxLen,List.length_append,List.length_cons,List.length_nil] at *);omega))))|(apply rt_sliceA;(exact rfl);(exact rfl);(exact rfl);(exact inferInstance);(focus (first|omega|((simp only[maxLen,List.length_append,List.length_cons,List.length_nil] at *);omega)));(focus (first|omega|((simp only[maxLen,List.length_append,List.length_cons,List.length_nil] at *);omega))))|(apply rt_nils;(exact rfl);(exact rfl);(exact rfl);(exact inferInstance))|(apply rt_nenils;(exact rfl);(exact rfl);(exact rfl);(exact inferInstance))|(apply rt_nilp;(exact rfl);(exact rfl);(exact rfl);(exact inferInstance))|(apply rt_nenilp;(exact rfl);(exact rfl);(exact rfl);(exact inferInstance))|(apply rt_neg;(exact rfl);(exact rfl);(exact rfl))|fail|(apply rt_arith;(exact rfl);(exact rfl);(exact rfl);(exact rfl)))):RT o l L n v:=h
theorem acB {v:Value} {L':List Asn} (h:C v L') (s:C v L'→AC o l L n C:=by(intro h;first|(apply ac_store;(exact rfl);(exact rfl);(exact inferInstance);(exact rfl);(exact rfl);(focus ((repeat (first|exact Rep.here|apply Rep.there));done));(exact rfl);(exact h))|(apply ac_storeW;(exact rfl);(exact rfl);(exact inferInstance);(exact rfl);(exact rfl);(exact rfl);(focus ((repeat (first|exact Rep.here|apply Rep.there));done));(exact rfl);(exact h))|(apply ac_storeA;(exact rfl);(exact rfl);(exact inferInstance);(exact rfl);(exact rfl);(exact rfl);(focus ((repeat (first|exact Rep.here|apply Rep.there));done));(exact rfl);(exact h)))):AC o l L n C:=s h
theorem acA {fv:Nat→Value} {fL:Nat→List Asn} (h:∀ b,C (fv b) (fL b)) (s:(∀ b,C (fv b) (fL b))→AC o l L n C:=by(intro h;first|(apply ac_boxA;(exact rfl);(exact rfl);(exact h))|(apply ac_box;(exact rfl);(exact rfl);(exact rfl);(exact h))|(apply ac_alloc;(exact rfl);(exact inferInstance);(exact h))|(apply ac_buildSlice;(exact rfl);(exact inferInstance);(exact rfl);(exact rfl);(exact rfl);(exact rfl);(exact rfl);(exact rfl);(exact h)))):AC o l L n C:=s h
theorem sv1 (F:Fr a n l) (M:Mem w L) {d:Nat} {v:Value} (h:∀ a',Fr a' n ((d,v)::l)→wpList Tryz.prog ops Q rest a' w)
  (hw:Wanted o ops l=some true:=by exact rfl) (hd:o.dst=some d:=by exact rfl) (hn:Nat.ble (d+1) n=true:=by exact rfl) (hr:RT o l L n v:=by exact rtA):wpList Tryz.prog ops Q (o::rest) a w:=sv_run F M hw hd hn hr h
theorem sv2 (F:Fr a n l) (M:Mem w L) {d:Nat} {fv:Nat→Value} {fL:Nat→List Asn} (h:∀ b a' w',Fr a' n ((d,fv b)::l)→Mem w' (fL b)→wpList Tryz.prog ops Q rest a' w')
  (hw:Wanted o ops l=some true:=by exact rfl) (hd:o.dst=some d:=by exact rfl) (hn:Nat.ble (d+1) n=true:=by exact rfl)
  (s:∀ C:Value→List Asn→Prop,(∀ b,C (fv b) (fL b))→AC o l L n C:=by(intro C h;exact acA h)):wpList Tryz.prog ops Q (o::rest) a w:=sv_act F M hw hd hn (s _ h)
theorem sv3 (F:Fr a n l) (M:Mem w L) {v:Value} {L':List Asn} (h:∀ w',Mem w' L'→wpList Tryz.prog ops Q rest a w')
  (hw:Wanted o ops l=some true:=by exact rfl) (hd:o.dst=none:=by exact rfl)
  (s:∀ C:Value→List Asn→Prop,C v L'→AC o l L n C:=by(intro C h;exact acB h)):wpList Tryz.prog ops Q (o::rest) a w:=sv_act0 F M hw hd (s _ h)
theorem svK (F:Fr a n l) {d:Nat} (h:∀ a',Fr a' n ((d,undef)::l)→wpList Tryz.prog ops Q rest a' w) (hw:Wanted o ops l=some false:=by exact rfl) (hd:o.dst=some d:=by exact rfl) (hn:Nat.ble (d+1) n=true:=by exact rfl):wpList Tryz.prog ops Q (o::rest) a w:=sx_skip F hw hd hn h
theorem svK0 (F:Fr a n l) (h:wpList Tryz.prog ops Q rest a w) (hw:Wanted o ops l=some false:=by exact rfl) (hd:o.dst=none:=by exact rfl):wpList Tryz.prog ops Q (o::rest) a w:=sx_skip0 F hw hd h
theorem svC (F:Fr a n l) (M:Mem w L) {d:Nat} (h:AC o l L n (fun v L'=>∀ a' w',Fr a' n ((d,v)::l)→Mem w' L'→wpList Tryz.prog ops Q rest a' w')) (hw:Wanted o ops l=some true:=by exact rfl) (hd:o.dst=some d:=by exact rfl) (hn:Nat.ble (d+1) n=true:=by exact rfl):wpList Tryz.prog ops Q (o::rest) a w:=sv_act F M hw hd hn h
theorem svC0 (F:Fr a n l) (M:Mem w L) (h:AC o l L n (fun v L'=>∀ w',Mem w' L'→wpList Tryz.prog ops Q rest a w')) (hw:Wanted o ops l=some true:=by exact rfl) (hd:o.dst=none:=by exact rfl):wpList Tryz.prog ops Q (o::rest) a w:=sv_act0 F M hw hd h
theorem acCall {f:Operand} {xs:Array Operand} {ats:Array TypeId} {k:FuncId} {caps:Array Value} {vs us:List Value} (hs:Spec k us L C) (ho:o.op=.call {callee:=.value f,args:=xs,argTypes:=ats}:=by exact rfl) (hf:evl l f=some (.func (.func k) #[] caps):=by exact rfl) (hfk:FK k:=by exact inferInstance) (hx:evls l xs.toList=some vs:=by exact rfl) (hu:vs++caps.toList=us:=by exact rfl):AC o l L n C:=ac_call ho hf hfk hx hu hs
theorem rvsA {js:List Nat} (h:Rvs Tryz.prog ops n js l L:=by(first|(focus ((repeat (first|exact rvs_nil|((apply rvs_run);(exact rfl);(exact rfl);(exact rfl);(exact rfl);(exact rtA))|((apply rvs_skip);(exact rfl);(exact rfl);(exact rfl);(exact rfl))));done))|fail)):Rvs Tryz.prog ops n js l L:=h
section
variable {E Fl:List Nat} {S:List (Nat × List Nat)} {σ done:List Nat} {i:Nat}
theorem pv1 {d:Nat} {v:Value} (h:PW Tryz.prog ops n Q E Fl S σ (i::done) ((d,v)::l) L) (hi:ops[i]? = some o:=by exact rfl) (hf:Fl.contains i=false:=by exact rfl) (he:E.contains i=false:=by exact rfl) (hw:Wanted o ops l=some true:=by exact rfl) (hd:o.dst=some d:=by exact rfl) (hr:RT o l L n v:=by exact rtA) :
  PW Tryz.prog ops n Q E Fl S (i::σ) done l L:=pv_run hi hf he hw hd hr h
theorem pv2 {d:Nat} {fv:Nat→Value} {fL:Nat→List Asn} {js:List Nat} (h:∀ b,PW Tryz.prog ops n Q E Fl S σ (i::done) ((d,fv b)::l) (fL b)) (hi:ops[i]? = some o:=by exact rfl) (hf:Fl.contains i=false:=by exact rfl) (he:E.contains i=true:=by exact rfl) (hw:Wanted o ops l=some true:=by exact rfl) (hd:o.dst=some d:=by exact rfl) (hj:lookS S i=js:=by exact rfl)
  (s:∀ C:Value→List Asn→Prop,(∀ b,C (fv b) (fL b))→AC o l L n C:=by(intro C h;exact acA h)) (hr:∀ b,Rvs Tryz.prog ops n js ((d,fv b)::l) (fL b):=by(intro b;exact rvsA)):PW Tryz.prog ops n Q E Fl S (i::σ) done l L:=pv_act hi hf he hw hd hj (s _ fun b=>⟨hr b,h b⟩)
theorem pv3 {v:Value} {L':List Asn} {js:List Nat} (h:PW Tryz.prog ops n Q E Fl S σ (i::done) l L') (hi:ops[i]? = some o:=by exact rfl) (hf:Fl.contains i=false:=by exact rfl) (he:E.contains i=true:=by exact rfl) (hw:Wanted o ops l=some true:=by exact rfl) (hd:o.dst=none:=by exact rfl) (hj:lookS S i=js:=by exact rfl)
  (s:∀ C:Value→List Asn→Prop,C v L'→AC o l L n C:=by(intro C h;exact acB h)) (hr:Rvs Tryz.prog ops n js l L':=by exact rvsA):PW Tryz.prog ops n Q E Fl S (i::σ) done l L:=pv_act0 hi hf he hw hd hj (s _ ⟨hr,h⟩)
theorem pvC {d:Nat} {js:List Nat} (h:AC o l L n (fun v L'=>Rvs Tryz.prog ops n js ((d,v)::l) L'∧PW Tryz.prog ops n Q E Fl S σ (i::done) ((d,v)::l) L')) (hi:ops[i]? = some o:=by exact rfl) (hf:Fl.contains i=false:=by exact rfl) (he:E.contains i=true:=by exact rfl) (hw:Wanted o ops l=some true:=by exact rfl) (hd:o.dst=some d:=by exact rfl) (hj:lookS S i=js:=by exact rfl) :
  PW Tryz.prog ops n Q E Fl S (i::σ) done l L:=pv_act hi hf he hw hd hj h
theorem pvC0 {js:List Nat} (h:AC o l L n (fun v L'=>Rvs Tryz.prog ops n js l L'∧PW Tryz.prog ops n Q E Fl S σ (i::done) l L')) (hi:ops[i]? = some o:=by exact rfl) (hf:Fl.contains i=false:=by exact rfl) (he:E.contains i=true:=by exact rfl) (hw:Wanted o ops l=some true:=by exact rfl) (hd:o.dst=none:=by exact rfl) (hj:lookS S i=js:=by exact rfl) :
  PW Tryz.prog ops n Q E Fl S (i::σ) done l L:=pv_act0 hi hf he hw hd hj h
theorem pvF {t:TypeId} {cs:List Value} {d:Nat} (h:∀ b,PW Tryz.prog ops n Q E Fl S σ (i::done) ((d,.pointer (some ⟨b,0,none⟩))::l) (pt b cs t::L)) (hi:ops[i]? = some o:=by exact rfl) (hf:Fl.contains i=true:=by exact rfl) (ho:o.op=.alloc t:=by exact rfl) (hz:ZT t cs:=by exact inferInstance) (hd:o.dst=some d:=by exact rfl):PW Tryz.prog ops n Q E Fl S (i::σ) done l L:=pv_float hi hf ho hz hd h
theorem pvK {d:Nat} (h:PW Tryz.prog ops n Q E Fl S σ (i::done) ((d,undef)::l) L) (hi:ops[i]? = some o:=by exact rfl) (hf:Fl.contains i=false:=by exact rfl) (hw:Wanted o ops l=some false:=by exact rfl) (hd:o.dst=some d:=by exact rfl):PW Tryz.prog ops n Q E Fl S (i::σ) done l L:=by
 cases he:E.contains i
 ·exact pv_skip hi hf he hw hd h
 ·exact pv_skipE hi hf he hw hd h
theorem pvK0 (h:PW Tryz.prog ops n Q E Fl S σ (i::done) l L) (hi:ops[i]? = some o:=by exact rfl) (hf:Fl.contains i=false:=by exact rfl) (he:E.contains i=true:=by exact rfl) (hw:Wanted o ops l=some false:=by exact rfl) (hd:o.dst=none:=by exact rfl):PW Tryz.prog ops n Q E Fl S (i::σ) done l L:=pv_skipE0 hi hf he hw hd h
end
theorem svT {c:Operand} {x y:Code} (F:Fr a n l) (h:x.wp Tryz.prog Q a w) (hc:evl l c=some (.bool true):=by exact rfl):(Code.cond c x y).wp Tryz.prog Q a w:=sx_cond_t F hc h
theorem svF {c:Operand} {x y:Code} (F:Fr a n l) (h:y.wp Tryz.prog Q a w) (hc:evl l c=some (.bool false):=by exact rfl):(Code.cond c x y).wp Tryz.prog Q a w:=sx_cond_f F hc h
theorem tidyA {b:Bool} {p q:Prop} (hp:b=true→p:=by(intro hc;first|((try simp only[decide_eq_true_eq,decide_eq_false_iff_not,Bool.not_eq_true,Bool.not_eq_false,Bool.not_eq_true',Bool.not_eq_false',ne_eq,not_true_eq_false,not_false_eq_true,Decidable.not_not,Bool.and_eq_true,Bool.or_eq_true,Bool.and_eq_false_iff,Bool.or_eq_false_iff,beq_iff_eq,beq_eq_false_iff_ne,bne_iff_ne] at hc);exact hc)|exact hc)) (hq:b=false→q:=by(intro hc;first|((try simp only[decide_eq_true_eq,decide_eq_false_iff_not,Bool.not_eq_true,Bool.not_eq_false,Bool.not_eq_true',Bool.not_eq_false',ne_eq,not_true_eq_false,not_false_eq_true,Decidable.not_not,Bool.and_eq_true,Bool.or_eq_true,Bool.and_eq_false_iff,Bool.or_eq_false_iff,beq_iff_eq,beq_eq_false_iff_ne,bne_iff_ne] at hc);exact hc)|exact hc)):(b=true→p)∧(b=false→q):=⟨hp,hq⟩
theorem svB {c:Operand} {x y:Code} {b:Bool} {p q:Prop} (F:Fr a n l) (h1:p→x.wp Tryz.prog Q a w) (h2:q→y.wp Tryz.prog Q a w) (hc:evl l c=some (.bool b):=by exact rfl) (ht:(b=true→p)∧(b=false→q):=by exact tidyA):(Code.cond c x y).wp Tryz.prog Q a w:=sx_cond_b F hc (fun h=>h1 (ht.1 h)) fun h=>h2 (ht.2 h)
theorem no {G p:Prop} (hc:p) (h:p→False:=by(intro hc;first|exact hc|exact hc rfl|contradiction|omega|((simp only[decide_eq_true_eq,decide_eq_false_iff_not,ne_eq,Decidable.not_not,Bool.not_eq_true',Bool.not_eq_false'] at hc);first|contradiction|exact hc rfl|omega)|(simp at hc;done)|fail)):G:=(h hc).elim
theorem pullA {L L':List Asn} {A:Asn} (h:Pull L A L':=by(first|(focus ((repeat (first|exact Pull.here|apply Pull.there));done))|fail)):Pull L A L':=h
theorem gsA {L:List Asn} {size m:Nat} {v:Value} {xs:List Value} (h:GS L size v m xs:=by(first|(first|(focus ((repeat (first|assumption|apply GS.tail));done))|(apply gs_old;assumption;(focus ((repeat (first|exact Pull.here|apply Pull.there));done)))|(apply gs_oldT;assumption;(focus ((repeat (first|exact Pull.here|apply Pull.there));done)))|(apply gs_own;(focus ((repeat (first|exact Pull.here|apply Pull.there));done)))|(apply gs_ro;(focus ((repeat (first|exact Pull.here|apply Pull.there));done)))|exact GS.nil _ _)|fail)):GS L size v m xs:=h
theorem permsA {L L':List Asn} (h:Perms L L':=by(first|(focus ((repeat (first|exact Perms.rest|exact Perms.nil|(apply Perms.cons;(focus ((repeat (first|exact Pull.here|apply Pull.there));done)))|apply Perms.skip));done))|fail)):Perms L L':=h
theorem kpA {l l':List (Nat × Value)} (h:∀ p∈l',look l p.1=some p.2:=by(first|(focus ((repeat (first|exact keep_nil|(apply keep_cons;(exact rfl))));done))|fail)):∀ p∈l',look l p.1=some p.2:=h
theorem svEnd {fn:Func} {R:Ending→World→Prop} {rs:List ResultVar} {vs:List Value} {v:Value} (F:Fr a n l) (M:Mem w L) (hR:R (.returned v) w) (hf:fn.results=rs.toArray:=by exact rfl) (hr:Ress L l rs vs:=by(first|(focus ((repeat (first|exact Ress.nil|(apply Ress.cons)|(apply Res.tmp;exact rfl)|(apply Res.agg;(exact rfl);(exact inferInstance);((focus ((repeat (first|exact Pull.here|apply Pull.there));done)));(exact rfl))|(apply Res.one;(exact rfl);(exact inferInstance);((focus ((repeat (first|exact Pull.here|apply Pull.there));done)));(exact rfl))));done))|fail)) (hv:tupOf vs=v:=by exact rfl):bodyPost Tryz.prog fn R .normal a w:=sx_end F M hf hr hv hR
theorem svRet {fn:Func} {R:Ending→World→Prop} {rs:List ResultVar} {vs:List Value} {v:Value} (F:Fr a n l) (M:Mem w L) (hR:R (.returned v) w) (hf:fn.results=rs.toArray:=by exact rfl) (hr:Ress L l rs vs:=by(first|(focus ((repeat (first|exact Ress.nil|(apply Ress.cons)|(apply Res.tmp;exact rfl)|(apply Res.agg;(exact rfl);(exact inferInstance);((focus ((repeat (first|exact Pull.here|apply Pull.there));done)));(exact rfl))|(apply Res.one;(exact rfl);(exact inferInstance);((focus ((repeat (first|exact Pull.here|apply Pull.there));done)));(exact rfl))));done))|fail)) (hv:tupOf vs=v:=by exact rfl):bodyPost Tryz.prog fn R .ret a w:=sx_ret F M hf hr hv hR
theorem svDraw {id:Nat} (E Fl:List Nat) (S:List (Nat × List Nat)) (σ:List Nat) (F:Fr a n l) (M:Mem w L) (h:PW Tryz.prog ops n Q E Fl S σ [] l L) (hok:drawOK ops E Fl S σ n=true:=by kernel_rfl) (hFl:FlOK Tryz.prog ops Fl:=by(first|(focus ((repeat (first|exact flok_nil|(apply flok_cons;(exact rfl);(exact rfl);(exact inferInstance);(exact rfl);(exact rfl))));done))|fail)):(Code.region id ops true).wp Tryz.prog Q a w:=sv_draw E Fl S σ F M hok hFl h
theorem rt_neqT {α:Type} [DecidableEq α] {f:α→List Value} {t ty:TypeId} {x y:Operand} (ho:o.op=.binOp .neq t x y ty) {p q:α} (hx:evl l x=some (.agg (f p).toArray)) (hy:evl l y=some (.agg (f q).toArray)) {ks:List Sc} (he:EQ t ks) (hf:EQF f ks):RT o l L n (.bool (decide (p≠q))):=by
 have:=rt_neq (L:=L) (n:=n) ho hx hy he (hf.k p q)
 simpa using this
theorem rt_eqlT {α:Type} [DecidableEq α] {f:α→List Value} {t ty:TypeId} {x y:Operand} (ho:o.op=.binOp .eql t x y ty) {p q:α} (hx:evl l x=some (.agg (f p).toArray)) (hy:evl l y=some (.agg (f q).toArray)) {ks:List Sc} (he:EQ t ks) (hf:EQF f ks):RT o l L n (.bool (decide (p=q))):=by
 have:=rt_eql (L:=L) (n:=n) ho hx hy he (hf.k p q)
 simpa using this
def restO:List Nat→List (Nat × Value)→Option (List (Nat × Value))
 | _,[]=>some []
 | ds,(s,v)::r=>match hasN ds s,restO ds r with
  | true,some r'=>some r'
  | false,some r'=>some ((s,v)::r')
  | _,none=>none
theorem restO_look:∀ (l:List (Nat × Value)) (ds:List Nat) {l':List (Nat × Value)},restO ds l=some l'→∀ t v,look l' t=some v→hasN ds t=false∧look l t=some v
 | [],ds,l',h,t,v,ht=>by simp[restO] at h;subst h;simp[look] at ht
 | (s,u)::r,ds,l',h,t,v,ht=>by
  simp only[restO] at h
  cases hk:hasN ds s with
  | true =>
   rw[hk] at h
   cases hr:restO ds r with
   | none=>rw[hr] at h;cases h
   | some r' =>
    rw[hr] at h
    obtain rfl:=Option.some.inj h
    obtain ⟨h1,h2⟩:=restO_look r ds hr t v ht
    refine⟨h1,?_⟩
    have hst:s≠t:=fun e=>by rw[e,h1] at hk;cases hk
    simp only[look,nbeq hst];exact h2
  | false =>
   rw[hk] at h
   cases hr:restO ds r with
   | none=>rw[hr] at h;cases h
   | some r' =>
    rw[hr] at h
    obtain rfl:=Option.some.inj h
    simp only[look] at ht ⊢
    by_cases hst:s=t
    ·subst hst
     rw[show Nat.beq s s=true from Nat.beq_refl s] at ht ⊢
     exact⟨hk,ht⟩
    ·rw[nbeq hst] at ht ⊢
     exact restO_look r ds hr t v ht
def slotsL:List (Nat × Value)→List Nat
 | []=>[]
 | (s,_)::r=>s::slotsL r
theorem look_append:∀ (l r:List (Nat × Value)) (t:Nat),look (l++r) t=(match look l t with|some v=>some v|none=>look r t)
 | [],r,t=>rfl
 | (s,v)::l,r,t=>by
  simp only[List.cons_append,look]
  by_cases hst:s=t
  ·subst hst
   rw[show Nat.beq s s=true from Nat.beq_refl s];rfl
  ·rw[nbeq hst]
   exact look_append l r t
inductive Pulls:List Asn→List Asn→List Asn→Prop where
 | nil {L:List Asn}:Pulls L [] L
 | cons {L L1 R As:List Asn} {A:Asn}:Pull L A L1→Pulls L1 As R→Pulls L (A::As) R
theorem Mem.pulls {L As R:List Asn} {w:World} (h:Pulls L As R) (M:Mem w L):Mem w (As++R):=by
 have key:∀ {L As R:List Asn},Pulls L As R→∀ {s:List Nat} {w:World},Sat L s w→∃ s',Sat (As++R) s' w∧∀ b∈s',b∈s:=by
  intro L As R h
  induction h with
  | nil=>exact fun hs=>⟨_,hs,fun _ h=>h⟩
  | cons hp _ ih =>
   intro s w hs
   obtain ⟨s1,k1,k2⟩:=hs.pull hp
   cases k1 with
   | @cons _ _ sa ra _ m1 m2 m3 =>
    obtain ⟨s2,q1,q2⟩:=ih m2
    refine⟨_,.cons m1 q1 fun b hb hm=>m3 b hb (q2 b hm),fun b hb=>?_⟩
    rcases List.mem_append.1 hb with hb|hb
    ·exact(k2 b).1 (by simp[hb])
    ·exact(k2 b).1 (by simp[q2 b hb])
 obtain ⟨s,hs⟩:=M
 obtain ⟨s',h1,_⟩:=key h hs
 exact⟨s',h1⟩
theorem svLoop {c:Code} {σ:Type} (F:Fr a n l) (M:Mem w L) (s0:σ) (dl:σ→List (Nat × Value)) (dL:σ→List Asn) (Pf:σ→Prop) (μ:σ→Nat) (fg:List Nat) {st:List (Nat × Value)} {R:List Asn} (hP:Pf s0)
  (round:∀ s,Pf s→∀ a w,Fr a n (dl s++st)→Mem w (dL s++R)→c.wp Tryz.prog (Exit.then (fun a' w'=>∃ s',(Fr a' n (dl s'++st)∧Mem w' (dL s'++R)∧Pf s')∧μ s'<μ s) Q) a w)
  (hs:restO (fg++slotsL (dl s0)) l=some st:=by exact rfl) (h0:∀ p∈dl s0,look l p.1=some p.2:=by(first|(focus ((repeat (first|exact keep_nil|(apply keep_cons;(exact rfl))));done))|fail)) (hR:Pulls L (dL s0) R:=by(first|(focus ((repeat (first|exact Pulls.nil|(apply Pulls.cons;(focus ((repeat (first|exact Pull.here|apply Pull.there));done)))));done))|fail)):(Code.loop c).wp Tryz.prog Q a w :=
 wp_loop_ghost (fun s a w=>Fr a n (dl s++st)∧Mem w (dL s++R)∧Pf s) μ (fun s a w ⟨h1,h2,h3⟩=>round s h3 a w h1 h2) s0 ⟨⟨F.ds,F.size,fun t v ht=>by
  rw[look_append] at ht
  have F1:=F.keep h0
  cases hl:look (dl s0) t with
  | some u =>
   rw[hl] at ht
   obtain rfl:=Option.some.inj ht
   exact F1.val t u hl
  | none =>
   rw[hl] at ht
   exact F.val t v (restO_look l _ hs t v ht).2⟩,Mem.pulls hR M,hP⟩
theorem own_sl {e:TypeId} {size:Nat} {v:Value} {m:Nat} {xs:List Value} {L':List Asn} {w:World} (M:Mem w (own e size v m xs::L')):∃ h,v=sl h:=by
 obtain ⟨r,hs,_⟩:=M.head
 rcases hs.2 with⟨rfl,_,_⟩|⟨g,cap,cur,rfl,_⟩
 ·exact⟨⟨none,0,0⟩,rfl⟩
 ·exact⟨⟨some ⟨g,0,none⟩,m,cap⟩,rfl⟩
theorem ac_appendH {α:Type} {f:α→List Value} {x y:Operand} {t:TypeId} {ats:Array TypeId} (ho:o.op=.call {callee:=.builtin .append,args:=#[x,y],argTypes:=ats}) (hat:ats = #[t,t]) {e:TypeId} {z:Value} {k bytes:Nat} (ht:ST t e z k bytes) {v:Value} (hx:evl l x=some v) {u:Value} (hy:evl l y=some u)
  {xs ys:List α} {L':List Asn} (hp:Pull L (ownT e f k v xs) L') (he:EL f k) {m:Nat} {cs:List Value} (hg:GS L k u m cs) (hm:m=ys.length) (hcs:cs=ys.flatMap f) (hb:(xs.length+ys.length)*(bytes+1)≤140737488355328)
  (h:∀ v',C (sl v') (ownT e f k (sl v') (xs++ys)::L')):AC o l L n C:=fun G a w F M=>by
 subst hat;subst hm;subst hcs
 have hb1:(xs.length+ys.length)*bytes≤140737488355328:=Nat.le_trans (Nat.mul_le_mul_left _ (Nat.le_succ _)) hb
 have hb2:xs.length+ys.length≤140737488355328:=Nat.le_trans (Nat.le_mul_of_pos_right _ (Nat.succ_pos _)) hb
 obtain ⟨v',w',hr,hM⟩:=append_run (ty:=o.type) ht (M.pull (hp.app G)) (hg w M.drop_app) (flat_one ys) (by simp only[maxLen];omega) hb1
 have:(execOp a.eval o).run Tryz.prog w=.ok (.value v') w':=by
  unfold execOp
  rw[ho]
  simp[resolve,invoke,builtin,F.eval hx,F.eval hy,hr]
 rw[this]
 obtain ⟨h',rfl⟩:=own_sl hM
 have:=h h'
 rw[ownT,List.length_append,List.flatMap_append] at this
 exact⟨_,this,hM⟩
end
end
section
open Go.RowKit
section
variable {o:Oper} {n:Nat} {l:List (Nat × Value)} {L:List Asn} {C:Value→List Asn→Prop}
theorem own_set {w:World} {e:TypeId} {size m:Nat} {v:Value} {xs:List Value} {s:List Nat} (h:Ok (own e size v m xs) s w) {p:Nat} {u:Value} (hp:p<xs.length):∃ b,v=.slice (some ⟨b,0,none⟩) m (match v with|.slice _ _ c=>c|_=>0)∧(∃ z,w.cell? ⟨b,p,none⟩=some z)∧w.frozen? ⟨b,p,none⟩=false∧Chg s w (w.setCell ⟨b,p,none⟩ u)∧Ok (own e size v m (xs.set p u)) s (w.setCell ⟨b,p,none⟩ u):=by
 obtain ⟨h1,h2⟩:=h.now
 rcases h2 with⟨_,rfl,_⟩|⟨g,cap,cur,rfl,rfl,hg,hn,hc,hs,ht⟩
 ·omega
 ·have hpc:p<cur.size:=by
   have:(cur.toList.take (m*size)).length=xs.length:=by rw[ht]
   rw[List.length_take,Array.length_toList] at this;omega
  have e1:w.setCell ⟨g,p,none⟩ u=w.setRow g (cur.toList.set p u).toArray:=setCell_row (cs:=cur.toList) (by simpa using hg)
  refine⟨g,rfl,⟨cur[p],by simp[World.cell?,hg,hpc]⟩,by simp[World.frozen?,hg],?_,?_⟩
  ·rw[e1];exact chg_setRow
  ·rw[e1]
   refine ok_own (by simpa using h1) (setRow_heap w g _ _ e _ hg) hn hc (by simpa using hs) ?_
   simp only[List.toList_toArray]
   rw[List.take_set,ht]
theorem Mem.ok {A:Asn} {L:List Asn} {w:World} (M:Mem w (A::L)):∃ s,Ok A s w:=by
 obtain ⟨s,hs⟩:=M
 cases hs with
 | cons h1 _ _=>exact⟨_,h1⟩
theorem flat_lenE {α:Type} {f:α→List Value} {k:Nat} (he:EL f k):∀ xs:List α,(xs.flatMap f).length=xs.length*k
 | []=>by simp
 | x::r=>by rw[List.flatMap_cons,List.length_append,he.len,flat_lenE he r,List.length_cons,Nat.succ_mul];omega
theorem ac_storeE {α:Type} {f:α→List Value} {t:TypeId} {x y:Operand} (ho:o.op=.store t x y) {v:Value} {j k i:Nat} (hx:evl l x=some (.pointer (some ⟨vb v,vo v+j*k+i,none⟩))) (hkt:KT t none) {u:Value} (hy:evl l y=some u) (hu:u.oneCell'=true)
  {e:TypeId} {xs:List α} {L2:List Asn} {z:α} (hz:xs[j]? = some z) (he:EL f k) (hi:Nat.ble (i+1) k=true) (y':α) (hf:f y'=(f z).set i u) (hp:Rep L (ownT e f k v xs) (ownT e f k v (xs.set j y')) L2) (h:C undef L2):AC o l L n C:=fun G a w F M=>by
 have hi':i<k:=Nat.le_of_ble_eq_true hi
 obtain ⟨L',h1,h2⟩:=hp.both
 have hj:j<xs.length:=(List.getElem?_eq_some_iff.1 hz).1
 have hlen:=flat_lenE he xs
 have hpl:j*k+i<(xs.flatMap f).length:=by
  rw[hlen]
  have:(j+1)*k≤xs.length*k:=Nat.mul_le_mul_right k hj
  rw[Nat.succ_mul] at this;omega
 obtain ⟨s,hs⟩:=(M.pull (h1.app G)).ok
 obtain ⟨b,hv,⟨c,hc⟩,hfz,_,_⟩:=own_set (u:=u) hs hpl
 have hvb:vb v=b∧vo v=0:=by rw[hv];exact⟨rfl,rfl⟩
 rw[hvb.1,hvb.2,Nat.zero_add] at hx
 have:(execOp a.eval o).run Tryz.prog w=.ok .skip (w.setCell ⟨b,j*k+i,none⟩ u):=by
  unfold execOp
  rw[ho]
  simp[F.eval hx,F.eval hy,Instr.storeAt,Instr.sureAddr,run_storeVar_one hc hfz hu]
 rw[this]
 refine⟨L2,h,M.rep (hp.app G) fun s hs=>?_⟩
 obtain ⟨b',hv',_,_,hcg,hok⟩:=own_set (u:=u) hs hpl
 obtain rfl:b'=b:=by
  have:=hv.symm.trans hv'
  simp at this
  exact this.1.symm
 refine⟨hcg,s,?_,fun b hb=>.inl hb⟩
 rw[flat_set he.len xs j i z u hz hi' y' hf] at hok
 unfold ownT
 rw[List.length_set]
 exact hok
end
end
section
open Go.RowKit Go.Maps
open Go.ChangeMaps (setBlock)
def pairs (es:Array MapEntry):List (Value × Value):=es.toList.map fun e=>(e.key,e.val)
def BornOK (es:Array MapEntry) (clk:Nat):Prop:=(es.toList.map (·.born)).Nodup∧∀ e∈es.toList,e.born<clk
theorem BornOK.nil (clk:Nat):BornOK #[] clk:=⟨by simp,by simp⟩
def MapIs (P:Program) (K:TypeId) (w:World) (b:Nat) (L:List (Value × Value)):Prop :=
 ∃ es clk,w.heap[b]? = some (.map es clk)∧(pairs es).Perm L∧(∀ p∈L,∃ l,keyOf P K p.1=some l)∧(L.map (·.1)).Nodup∧BornOK es clk
theorem MapIs.perm {P:Program} {K:TypeId} {w:World} {b:Nat} {L L':List (Value × Value)} (h:MapIs P K w b L) (hp:L.Perm L'):MapIs P K w b L':=by
 obtain ⟨es,clk,h1,h2,h3,h4⟩:=h
 exact⟨es,clk,h1,h2.trans hp,fun p hm=>h3 p (hp.mem_iff.2 hm),(hp.map _).nodup_iff.1 h4.1,h4.2⟩
theorem MapIs.of_block {P:Program} {K:TypeId} {w w':World} {b:Nat} {L:List (Value × Value)} (h:MapIs P K w b L) (e:w'.heap[b]? = w.heap[b]?):MapIs P K w' b L:=by
 obtain ⟨es,clk,h1,h2⟩:=h
 exact⟨es,clk,e.trans h1,h2⟩
theorem MapIs.lt {P:Program} {K:TypeId} {w:World} {b:Nat} {L:List (Value × Value)} (h:MapIs P K w b L):b<w.heap.size:=by
 obtain ⟨es,clk,h1,_⟩:=h
 exact(Array.getElem?_eq_some_iff.1 h1).1
structure Touch (b:Nat) (w w':World):Prop where
 os:w'.os=w.os
 tape:w'.tape=w.tape
 output:w'.output=w.output
 drawn:w'.drawn=w.drawn
 size:w'.heap.size=w.heap.size
 block:∀ k,k≠b→w'.heap[k]? = w.heap[k]?
theorem touch_setBlock (w:World) (b:Nat) (o:Obj):Touch b w (setBlock w b o):=by
 refine⟨rfl,rfl,rfl,rfl,by simp[setBlock],fun k hk=>?_⟩
 simp[setBlock,Array.getElem?_setIfInBounds,Ne.symm hk]
theorem nodup_val {L:List (Value × Value)} (hn:(L.map (·.1)).Nodup) {k v v':Value} (h:(k,v)∈L) (h':(k,v')∈L):v=v':=by
 induction L with
 | nil=>cases h
 | cons p L ih =>
  rw[List.map_cons,List.nodup_cons] at hn
  rcases List.mem_cons.1 h with h4|h4<;>rcases List.mem_cons.1 h' with h5|h5
  ·rw[← h4] at h5;exact(congrArg Prod.snd h5).symm
  ·exfalso;apply hn.1;rw[← h4];exact List.mem_map.2 ⟨_,h5,rfl⟩
  ·exfalso;apply hn.1;rw[← h5];exact List.mem_map.2 ⟨_,h4,rfl⟩
  ·exact ih hn.2 h4 h5
section
variable {P:Program} {w:World} {b:Nat} {L:List (Value × Value)} {T K E:TypeId}
theorem run_mapUpdate_new (hT:P.underlying T=some (.map K E)) (hK:Keyed P K) {k v:Value} {l:Lit} (hk:keyOf P K k=some l) (hm:MapIs P K w b L) (hnew:∀ p∈L,p.1≠k) :
  ∃ w',(Instr.mapUpdate T (.map (some b)) k v).run P w=.ok () w'∧MapIs P K w' b ((k,v)::L)∧Touch b w w':=by
 obtain ⟨es,clk,hb,hp,hl,hn⟩:=hm
 have hkeys:∀ e∈es.toList,∃ l,keyOf P K e.key=some l:=fun e he=>hl (e.key,e.val) (hp.mem_iff.1 (List.mem_map.2 ⟨e,he,rfl⟩))
 rcases hK.find w hk es.toList hkeys with⟨h1,_⟩|⟨j,e,_,h2,h3⟩
 ·refine⟨setBlock w b (.map (es.push {key:=k,val:=v,born:=clk}) (clk+1)),?_,⟨es.push {key:=k,val:=v,born:=clk},clk+1,?_,?_,?_,?_,?_⟩,touch_setBlock w b _⟩
  ·simp[Instr.mapUpdate,run_underlying hT,MapKept.run_getObj_map hb,hK.check w false hk,h1,MapKept.run_setObj_map _ hb,Result.andThen,setBlock]
  ·have:=(Array.getElem?_eq_some_iff.1 hb).1
   simp[setBlock,this]
  ·simp only[pairs,Array.toList_push,List.map_append,List.map_cons,List.map_nil]
   exact(List.perm_append_singleton _ _).trans (List.Perm.cons _ hp)
  ·intro p hp'
   rcases List.mem_cons.1 hp' with rfl|hp'
   ·exact⟨l,hk⟩
   ·exact hl p hp'
  ·rw[List.map_cons,List.nodup_cons]
   exact⟨fun hmem=>by obtain ⟨p,hp1,hp2⟩:=List.mem_map.1 hmem;exact hnew p hp1 hp2,hn.1⟩
  ·refine⟨?_,?_⟩
   ·simp only[Array.toList_push,List.map_append,List.map_cons,List.map_nil]
    refine List.nodup_append.2 ⟨hn.2.1,by simp,fun x hx y hy=>?_⟩
    obtain ⟨e,he,rfl⟩:=List.mem_map.1 hx
    have:=hn.2.2 e he
    simp at hy
    omega
   ·intro e he
    rw[Array.toList_push,List.mem_append] at he
    rcases he with he|he
    ·have:=hn.2.2 e he;omega
    ·simp at he;subst he;exact Nat.lt_succ_self _
 ·exfalso
  exact hnew (e.key,e.val) (hp.mem_iff.1 (List.mem_map.2 ⟨e,List.mem_of_getElem? h2,rfl⟩)) h3
theorem run_lookup_hit (hT:P.underlying T=some (.map K E)) (hK:Keyed P K) {k v:Value} {l:Lit} (hk:keyOf P K k=some l) (hm:MapIs P K w b L) (hin:(k,v)∈L) (ok:Bool) :
  (Instr.lookup T (.map (some b)) k ok).run P w=.ok (if ok then .tuple #[v,.bool true] else v) w:=by
 obtain ⟨es,clk,hb,hp,hl,hn⟩:=hm
 have hkeys:∀ e∈es.toList,∃ l,keyOf P K e.key=some l:=fun e he=>hl (e.key,e.val) (hp.mem_iff.1 (List.mem_map.2 ⟨e,he,rfl⟩))
 rcases hK.find w hk es.toList hkeys with⟨_,h1⟩|⟨j,e,h1,h2,h3⟩
 ·exfalso
  obtain ⟨e,he,hkv⟩:=List.mem_map.1 (hp.mem_iff.2 hin)
  exact h1 e he (congrArg Prod.fst hkv)
 ·have hv:e.val=v:=by
   have hmem:(e.key,e.val)∈L:=hp.mem_iff.1 (List.mem_map.2 ⟨e,List.mem_of_getElem? h2,rfl⟩)
   rw[h3] at hmem
   exact nodup_val hn.1 hmem hin
  cases ok<;>simp[Instr.lookup,run_underlying hT,MapKept.run_getObj_map hb,hK.check w _ hk,h1,hv,Result.andThen]
theorem run_lookup_miss (hT:P.underlying T=some (.map K E)) (hK:Keyed P K) {k z:Value} {l:Lit} (hk:keyOf P K k=some l) (hm:MapIs P K w b L) (hno:∀ p∈L,p.1≠k) (hz:(zeroValue E).run P w=.ok z w) (ok:Bool) :
  (Instr.lookup T (.map (some b)) k ok).run P w=.ok (if ok then .tuple #[z,.bool false] else z) w:=by
 obtain ⟨es,clk,hb,hp,hl,hn⟩:=hm
 have hkeys:∀ e∈es.toList,∃ l,keyOf P K e.key=some l:=fun e he=>hl (e.key,e.val) (hp.mem_iff.1 (List.mem_map.2 ⟨e,he,rfl⟩))
 rcases hK.find w hk es.toList hkeys with⟨h1,_⟩|⟨j,e,_,h2,h3⟩
 ·cases ok<;>simp[Instr.lookup,run_underlying hT,MapKept.run_getObj_map hb,hK.check w _ hk,h1,hz,Result.andThen]
 ·exfalso
  exact hno (e.key,e.val) (hp.mem_iff.1 (List.mem_map.2 ⟨e,List.mem_of_getElem? h2,rfl⟩)) h3
end
inductive Lk where
 | make
 | ins (k v:Value)
 | val
def Lk.entry:Lk→Option (Value × Value)
 | .ins k v=>some (k,v)
 | _=>none
def LitOp (P:Program) (A:Act) (m:Tmp) (mt K:TypeId) (m0:Nat) (o:Oper):Lk→Prop
 | .make=>o.op=.makeMap mt none∧o.dst=some m∧o.guard=none
 | .ins k v=>∃ kx vx,o.op=.insert mt (.tmp m) kx vx∧o.dst=none∧o.guard=none∧A.eval kx=k∧A.eval vx=v∧(o.after.toList.any fun e=>Region.binds .any e && e.on == m0)=true∧∃ l,keyOf P K k=some l
 | .val=>o.guard=none∧∃ v,(∀ d,o.dst=some d→v=A.tmps.getD d undef)∧∀ w',(execOp A.eval o).run P w'=.ok (.value v) w'
def LitAll (P:Program) (A:Act) (m:Tmp) (mt K:TypeId) (m0:Nat):List Oper→List Lk→Nat→Prop
 | [],[],_=>True
 | o::os,k::ks,i=>(LitOp P A m mt K m0 o k∧(k=.make↔i=m0))∧LitAll P A m mt K m0 os ks (i+1)
 | _,_,_=>False
theorem litAll_at {P:Program} {A:Act} {m:Tmp} {mt K:TypeId} {m0:Nat}:∀ {os:List Oper} {ks:List Lk} {i:Nat},LitAll P A m mt K m0 os ks i→ks.length=os.length∧∀ j o,os[j]? = some o→∃ k,ks[j]? = some k∧LitOp P A m mt K m0 o k∧(k=.make↔i+j=m0)
 | [],[],_,_=>⟨rfl,by simp⟩
 | o::os,k::ks,i,h=>by
  obtain ⟨h1,h2⟩:=litAll_at h.2
  refine⟨by simp[h1],fun j p hp=>?_⟩
  cases j with
  | zero=>simp at hp;subst hp;exact⟨k,rfl,h.1.1,by simpa using h.1.2⟩
  | succ j =>
   obtain ⟨k',e1,e2,e3⟩:=h2 j p (by simpa using hp)
   exact⟨k',by simpa using e1,e2,by rw[e3];omega⟩
 | [],_::_,_,h=>h.elim
 | _::_,[],_,h=>h.elim
def done (ks:List Lk) (listed:Array Bool):List (Value × Value) :=
 (ks.zip listed.toList).filterMap fun p=>if p.2 then p.1.entry else none
theorem done_none (ks:List Lk) (n:Nat):done ks (Array.replicate n false)=[]:=by
 unfold done
 rw[List.filterMap_eq_nil_iff]
 rintro⟨k,b⟩ hp
 have:=(List.of_mem_zip hp).2
 simp at this
 simp[this]
theorem done_all (ks:List Lk):done ks (Array.replicate ks.length true)=ks.filterMap Lk.entry:=by
 unfold done
 induction ks with
 | nil=>rfl
 | cons k ks ih =>
  simp only[Array.toList_replicate,List.length_cons,List.replicate_succ,List.zip_cons_cons,List.filterMap_cons] at ih ⊢
  rw[ih]
  rfl
theorem done_set {ks:List Lk} {listed:Array Bool} (hl:listed.size=ks.length) {i:Nat} {k:Lk} (hk:ks[i]? = some k) (hf:listed.getD i true=false) :
  (done ks (listed.setIfInBounds i true)).Perm (k.entry.toList++done ks listed):=by
 have hlt:i<ks.length:=(List.getElem?_eq_some_iff.1 hk).1
 have hf':listed.toList[i]? = some false:=by
  have:listed[i]'(by omega)=false:=by simpa[hl,hlt] using hf
  simp[hl,hlt,this]
 have hl':listed.toList.length=ks.length:=by simpa using hl
 unfold done
 rw[Array.toList_setIfInBounds]
 generalize listed.toList=l at *
 clear hf hl hlt
 induction ks generalizing i l with
 | nil=>simp at hk
 | cons k' ks ih =>
  cases l with
  | nil=>simp at hl'
  | cons b l =>
   cases i with
   | zero =>
    simp at hk hf'
    subst hk;subst hf'
    simp only[List.set_cons_zero,List.zip_cons_cons,List.filterMap_cons]
    cases k'.entry<;>simp
   | succ i =>
    simp only[List.set_cons_succ,List.zip_cons_cons,List.filterMap_cons]
    have h1:=ih (by simpa using hk) l (by simpa using hf') (by simpa using hl')
    cases (if b=true then k'.entry else none) with
    | none=>exact h1
    | some x =>
     simp only[]
     refine(List.Perm.cons x h1).trans ?_
     exact(List.perm_middle (a:=x) (l₁:=k.entry.toList)).symm
theorem done_mem {ks:List Lk} {listed:Array Bool} (hl:listed.size=ks.length) {p:Value × Value} (h:p∈done ks listed):∃ j k,ks[j]? = some k∧k.entry=some p∧listed.getD j true=true:=by
 unfold done at h
 obtain ⟨⟨k,b⟩,h1,h2⟩:=List.mem_filterMap.1 h
 obtain ⟨j,hj⟩:=List.getElem?_of_mem h1
 rw[List.getElem?_zip_eq_some] at hj
 obtain ⟨h3,h4⟩:=hj
 cases b with
 | false=>simp at h2
 | true =>
  refine⟨j,k,h3,by simpa using h2,?_⟩
  have hlt:j<listed.size:=by
   have:=(List.getElem?_eq_some_iff.1 h4).1;simpa using this
  simp only[Array.getElem?_toList] at h4
  rw[Array.getElem?_eq_getElem hlt] at h4
  simp[hlt,Option.some.inj h4]
theorem run_makeMap_none {P:Program} {mt K E:TypeId} (hT:P.underlying mt=some (.map K E)) (w:World):(Instr.makeMap mt none).run P w=.ok (.map (some w.heap.size)) (w.alloc (.map #[] 0)):=by
 simp[Instr.makeMap]
theorem rest_of {ops:Array Oper} {a0:Act} {T:Array Value} (vals:List (Tmp × Value)) (h:vals.foldl (fun a p=>a.setIfInBounds p.1 p.2) a0.tmps=T) (slots:List Tmp) (hs:vals.map (·.1)=slots) (hw':(slots.all fun d=>ops.toList.any fun o=>o.dst == some d)=true) :
  ∀ t,(∀ (j:Nat) (o:Oper),ops[j]? = some o→o.dst≠some t)→T.getD t undef=a0.tmps.getD t undef:=by
 intro t ht
 subst h
 have hw:(vals.all fun p=>ops.toList.any fun o=>o.dst == some p.1)=true:=by rw[← hw',← hs,List.all_map];rfl
 clear hw' hs
 generalize a0.tmps=tm
 induction vals generalizing tm with
 | nil=>rfl
 | cons p vals ih =>
  simp only[List.all_cons,Bool.and_eq_true] at hw
  rw[List.foldl_cons,ih hw.2]
  obtain ⟨o,ho,hd⟩:=List.any_eq_true.1 hw.1
  obtain ⟨j,hj⟩:=List.getElem?_of_mem ho
  have hne:p.1≠t:=fun e=>ht j o (by simpa using hj) (by rw[← e];simpa using hd)
  simp[Array.getElem?_setIfInBounds,hne]
theorem wp_region_map {P:Program} {ops:Array Oper} {a0:Act} {id:Nat} {Q:Exit→Act→World→Prop} {w:World} {mt K E:TypeId} (hT:P.underlying mt=some (.map K E)) (hK:Keyed P K) (m:Tmp) (m0:Nat) (ks:List Lk) (T:Array Value)
  (hm:P.follows .mixedOrders=true) (hB:fixB ops=true) (hd:(ops.toList.all fun o=>match o.dst with|none=>true|some d=>decide (d<a0.tmps.size))=true) (hsz:T.size=a0.tmps.size)
  (hrest:∀ t,(∀ (j:Nat) (o:Oper),ops[j]? = some o→o.dst≠some t)→T.getD t undef=a0.tmps.getD t undef) (hTm:T.getD m undef=.map (some w.heap.size))
  (hall:LitAll P ⟨T,a0.defers⟩ m mt K m0 ops.toList ks 0) (hnd:((ks.filterMap Lk.entry).map (·.1)).Nodup) (hm0:m0<ops.size)
  (hQ:∀ w',Below w.heap.size w w'→w'.heap.size=w.heap.size+1→MapIs P K w' w.heap.size (ks.filterMap Lk.entry)→Q .normal ⟨T,a0.defers⟩ w'):(Code.region id ops true).wp P Q a0 w:=by
 obtain ⟨hlen,hat⟩:=litAll_at hall
 have hlen':ks.length=ops.size:=by simpa using hlen
 have hat':∀ (j:Nat) (o:Oper),ops[j]? = some o→∃ k,ks[j]? = some k∧LitOp P ⟨T,a0.defers⟩ m mt K m0 o k∧(k=.make↔j=m0):=fun j o ho=>by
  have:=hat j o (by simpa using ho)
  simpa using this
 have hkeys:∀ p∈ks.filterMap Lk.entry,∃ l,keyOf P K p.1=some l:=fun p hp=>by
  obtain ⟨k,hk,he⟩:=List.mem_filterMap.1 hp
  obtain ⟨j,hj⟩:=List.getElem?_of_mem hk
  have hlt:j<ops.size:=by rw[← hlen'];exact(List.getElem?_eq_some_iff.1 hj).1
  obtain ⟨k',e1,e2,_⟩:=hat' j ops[j] (Array.getElem?_eq_getElem hlt)
  rw[hj] at e1;cases e1
  cases k with
  | ins kk vv =>
   simp[Lk.entry] at he
   subst he
   obtain ⟨_,_,_,_,_,_,_,_,h⟩:=e2
   exact h
  | make=>simp[Lk.entry] at he
  | val=>simp[Lk.entry] at he
 have hone:∀ (i j:Nat) (k v v':Value),ks[i]? = some (Lk.ins k v)→ks[j]? = some (Lk.ins k v')→i=j:=by
  clear hat' hat hall hlen hlen' hkeys hQ
  intro i j k v v' hi hj
  induction ks generalizing i j with
  | nil=>simp at hi
  | cons x ks ih =>
   have hnd':((ks.filterMap Lk.entry).map (·.1)).Nodup:=by
    cases hx:x.entry with
    | none=>simpa[List.filterMap_cons,hx] using hnd
    | some p=>simp only[List.filterMap_cons,hx,List.map_cons,List.nodup_cons] at hnd;exact hnd.2
   have hin:∀ {n:Nat} {u:Value},ks[n]? = some (Lk.ins k u)→k∈(ks.filterMap Lk.entry).map (·.1):=fun {n u} h =>
    List.mem_map.2 ⟨(k,u),List.mem_filterMap.2 ⟨_,List.mem_of_getElem? h,rfl⟩,rfl⟩
   cases i with
   | zero =>
    cases j with
    | zero=>rfl
    | succ j =>
     exfalso
     simp at hi hj
     subst hi
     simp only[List.filterMap_cons,Lk.entry,List.map_cons,List.nodup_cons] at hnd
     exact hnd.1 (hin hj)
   | succ i =>
    cases j with
    | zero =>
     exfalso
     simp at hi hj
     subst hj
     simp only[List.filterMap_cons,Lk.entry,List.map_cons,List.nodup_cons] at hnd
     exact hnd.1 (hin hi)
    | succ j=>rw[ih hnd' i j (by simpa using hi) (by simpa using hj)]
 refine wp_region_fix (fun listed w'=>Below w.heap.size w w'∧(listed.getD m0 false=false→w'.heap.size=w.heap.size∧done ks listed=[]) ∧
   (listed.getD m0 false=true→w'.heap.size=w.heap.size+1∧MapIs P K w' w.heap.size (done ks listed))) T hm hB (fun i o d ho hdd=>?_) hsz hrest ?_ ?_ (fun w' hJ=>?_)
 ·have h1:=List.all_eq_true.1 hd o (by simpa using Array.mem_of_getElem? ho)
  rw[hdd] at h1
  simpa using h1
 ·refine⟨⟨rfl,rfl,rfl,Nat.le_refl _,fun _ _=>rfl⟩,fun _=>⟨rfl,done_none _ _⟩,fun h=>?_⟩
  simp[hm0] at h
 ·intro i o listed w1 ho hls hun hedge ⟨hb,hJ1,hJ2⟩
  have hlt:i<ops.size:=(Array.getElem?_eq_some_iff.1 ho).1
  obtain ⟨k,hk,hop,hmk⟩:=hat' i o ho
  have hperm:=done_set (by rw[hls,hlen']) hk hun
  have hset:∀ j,j≠i→(listed.setIfInBounds i true).getD j false=listed.getD j false:=fun j hj=>getD_set_ne false (Ne.symm hj)
  cases k with
  | make =>
   obtain ⟨h1,h2,h3⟩:=hop
   have hi0:=hmk.1 rfl
   subst hi0
   have hfalse:listed.getD i false=false:=by simpa[hls,hlt] using hun
   obtain ⟨hs,hdn⟩:=hJ1 hfalse
   rw[if_pos (by simp[Region.wanted,h3])]
   refine⟨.map (some w.heap.size),fun d hdd=>?_,?_⟩
   ·rw[h2] at hdd;cases hdd;exact hTm.symm
   ·have hrun:(execOp (⟨T,a0.defers⟩:Act).eval o).run P w1=.ok (.value (.map (some w.heap.size))) (w1.alloc (.map #[] 0)):=by
     unfold execOp
     simp only[h1,Option.map_none]
     simp[run_makeMap_none hT,hs]
    rw[hrun]
    refine⟨rfl,hb.alloc (by omega) _,fun h=>?_,fun _=>⟨by simp[hs],?_⟩⟩
    ·simp[hls,hlt] at h
    ·have hd0:done ks (listed.setIfInBounds i true)=[]:=by
      rw[hdn] at hperm
      simpa[Lk.entry] using hperm
     rw[hd0]
     refine⟨#[],0,?_,List.Perm.refl _,by simp,by simp,BornOK.nil 0⟩
     rw[← hs];exact heap_alloc_new w1 _
  | ins kk vv =>
   obtain ⟨kx,vx,h1,h2,h3,h4,h5,h6,l,h7⟩:=hop
   have hne:m0≠i:=fun e=>by have:=hmk.2 e.symm;cases this
   have hmade:listed.getD m0 false=true:=by
    obtain ⟨e,he,hbb⟩:=List.any_eq_true.1 h6
    simp only[Bool.and_eq_true,beq_iff_eq] at hbb
    rw[← hbb.2]
    exact hedge e (by simpa using he) hbb.1
   obtain ⟨hs,hM⟩:=hJ2 hmade
   rw[if_pos (by simp[Region.wanted,h3])]
   obtain ⟨w2,hr,hM2,ht⟩:=run_mapUpdate_new (v:=vv) hT hK h7 hM (fun p hp hpk=>by
    obtain ⟨j,k',e1,e2,e3⟩:=done_mem (by rw[hls,hlen']) hp
    cases k' with
    | ins k2 v2 =>
     simp[Lk.entry] at e2
     subst e2
     simp only at hpk
     subst hpk
     have:=hone _ _ _ _ _ hk e1
     subst this
     rw[hun] at e3;cases e3
    | make=>simp[Lk.entry] at e2
    | val=>simp[Lk.entry] at e2)
   refine⟨undef,fun d hdd=>(by rw[h2] at hdd;cases hdd),?_⟩
   have hrun:(execOp (⟨T,a0.defers⟩:Act).eval o).run P w1=.ok .skip w2:=by
    unfold execOp
    simp only[h1]
    have hev:(⟨T,a0.defers⟩:Act).eval (.tmp m)=.map (some w.heap.size):=hTm
    rw[hev,h4,h5]
    simp[hr]
   rw[hrun]
   refine⟨rfl,hb.trans ⟨ht.os,ht.tape,ht.output,Nat.le_of_eq ht.size.symm,fun k hk'=>ht.block k (by omega)⟩,fun h=>?_,fun _=>⟨by rw[ht.size];exact hs,hM2.perm ?_⟩⟩
   ·rw[hset m0 hne,hmade] at h;cases h
   ·exact hperm.symm
  | val =>
   obtain ⟨h1,v,h2,h3⟩:=hop
   have hne:m0≠i:=fun e=>by have:=hmk.2 e.symm;cases this
   rw[if_pos (by simp[Region.wanted,h1])]
   refine⟨v,h2,?_⟩
   rw[h3 w1]
   have hp':(done ks (listed.setIfInBounds i true)).Perm (done ks listed):=by simpa[Lk.entry] using hperm
   refine⟨rfl,hb,fun h=>?_,fun h=>?_⟩
   ·rw[hset m0 hne] at h
    obtain ⟨e1,e2⟩:=hJ1 h
    rw[e2] at hp'
    exact⟨e1,hp'.eq_nil⟩
   ·rw[hset m0 hne] at h
    obtain ⟨e1,e2⟩:=hJ2 h
    exact⟨e1,e2.perm hp'.symm⟩
 ·obtain ⟨hb,_,hJ2⟩:=hJ
  obtain ⟨h1,h2⟩:=hJ2 (by simp[hm0])
  rw[← hlen',done_all] at h2
  exact hQ w' hb h1 h2
end
section
open Go.RowKit Go.Maps
open Go.ChangeMaps (setBlock)
section
variable {w w':World} {L L':List Asn}
theorem Sat.agree' {L:List Asn} {s:List Nat} {w w':World} (h:Sat L s w) (hw:Agree s w w'):Sat L s w':=by
 induction h with
 | nil=>exact .nil w'
 | @cons A L s r w h1 _ h3 ih =>
  refine .cons ⟨fun b hb=>?_,fun w'' hw''=>h1.all w'' ((hw.sub fun x hx=>by simp[hx]).trans hw'')⟩ (ih (hw.sub fun x hx=>by simp[hx])) h3
  have e:=hw.2.2.2 b (by simp[hb])
  have:=h1.lt b hb
  rw[Array.getElem?_eq_getElem this] at e
  exact(Array.getElem?_eq_some_iff.1 e).1
theorem Sat.append {L R:List Asn} {s r:List Nat} {w:World} (h:Sat L s w) (k:Sat R r w) (hd:∀ b∈s,b∉r):∃ t,Sat (L++R) t w∧∀ b,b∈t↔b∈s∨b∈r:=by
 induction h with
 | nil=>exact⟨r,k,by simp⟩
 | @cons A L s1 r1 w h1 h2 h3 ih =>
  obtain ⟨t,k1,k2⟩:=ih k fun b hb=>hd b (by simp[hb])
  refine⟨s1++t,.cons h1 k1 fun b hb ht=>?_,fun b=>by simp[k2,or_assoc]⟩
  rcases (k2 b).1 ht with h|h
  ·exact h3 b hb h
  ·exact hd b (by simp[hb]) h
theorem Sat.split {R:List Asn} {w:World}:∀ {L:List Asn} {t:List Nat},Sat (L++R) t w→∃ s r,Sat L s w∧Sat R r w∧(∀ b∈s,b∉r)∧∀ b,b∈t↔b∈s∨b∈r
 | [],t,h=>⟨[],t,.nil w,h,by simp,by simp⟩
 | A::L,t,h=>by
  cases h with
  | @cons _ _ s1 r1 _ h1 h2 h3 =>
   obtain ⟨s,r,k1,k2,k3,k4⟩:=Sat.split h2
   refine⟨s1++s,r,.cons h1 k1 fun b hb hs=>h3 b hb ((k4 b).2 (.inl hs)),k2,fun b hb hr=>?_,fun b=>by simp[k4,or_assoc]⟩
   rcases List.mem_append.1 hb with hb|hb
   ·exact h3 b hb ((k4 b).2 (.inr hr))
   ·exact k3 b hb hr
def exA {α:Type} (f:α→List Asn):Asn:=fun s w=>∃ x,∃ t,Sat (f x) t w∧∀ b,b∈s↔b∈t
theorem Mem.exo {α:Type} {f:α→List Asn} (M:Mem w (exA f::L)):∃ x,Mem w (f x++L):=by
 obtain ⟨s,hs⟩:=M
 cases hs with
 | cons h1 h2 h3 =>
  obtain ⟨x,t,k1,k2⟩:=h1.now
  obtain ⟨u,j,_⟩:=k1.append h2 fun b hb=>h3 b ((k2 b).2 hb)
  exact⟨x,u,j⟩
theorem Mem.exc {α:Type} {f:α→List Asn} (x:α) (M:Mem w (f x++L)):Mem w (exA f::L):=by
 obtain ⟨s,hs⟩:=M
 obtain ⟨s1,r,k1,k2,k3,_⟩:=hs.split
 exact⟨s1++r,.cons ⟨k1.lt,fun w' hw=>⟨x,s1,k1.agree' hw,fun _=>Iff.rfl⟩⟩ k2 k3⟩
theorem Mem.open {α:Type} {f:α→List Asn} (M:Mem w L) (h:Pull L (exA f) L'):∃ x,Mem w (f x++L'):=(M.pull h).exo
theorem Pull.mid {A:Asn}:∀ (X R:List Asn),Pull (X++A::R) A (X++R)
 | [],R=>.here
 | x::X,R=>.there (Pull.mid X R)
theorem Mem.front {A:Asn} {X R:List Asn} (M:Mem w (X++A::R)):Mem w (A::(X++R)):=M.pull (.mid X R)
theorem Mem.back {A:Asn} {X R:List Asn} (M:Mem w (A::(X++R))):Mem w (X++A::R):=M.push (.mid X R)
def factA (p:Prop):Asn:=fun s _=>s=[]∧p
theorem Mem.fact {p:Prop} (h:p) (M:Mem w L):Mem w (factA p::L):=M.new ⟨rfl,rfl,rfl,Nat.le_refl _,fun _ _ _=>rfl⟩ ⟨[],⟨by simp,fun w' _=>⟨rfl,h⟩⟩,by simp⟩
theorem Mem.factO {p:Prop} (M:Mem w (factA p::L)):p∧Mem w L:=by
 obtain ⟨s,hs,_⟩:=M.head
 exact⟨hs.2,M.drop⟩
def mp (b:Nat) (K:TypeId) (P:List (Value × Value)):Asn:=fun s w=>s=[b]∧MapIs Tryz.prog K w b P
theorem ok_mp {b:Nat} {K:TypeId} {P:List (Value × Value)} (h:MapIs Tryz.prog K w b P):Ok (mp b K P) [b] w :=
 ⟨fun x hx=>(show x=b by simpa using hx) ▸ h.lt,fun w' hw=>⟨rfl,h.of_block (hw.2.2.2 b (by simp))⟩⟩
theorem gives_mp {b:Nat} {K:TypeId} {P:List (Value × Value)} (h:Pull L (mp b K P) L'):Gives L fun w=>MapIs Tryz.prog K w b P:=fun w M=>by
 obtain ⟨s,hs,_⟩:=(M.pull h).head
 exact hs.2
theorem mapIs_new (K:TypeId) (w:World):MapIs Tryz.prog K (w.alloc (.map #[] 0)) w.heap.size []:=⟨#[],0,heap_alloc_new w _,by simp[pairs],by simp,by simp,BornOK.nil 0⟩
theorem Touch.chg {b:Nat} (h:Touch b w w'):Chg [b] w w':=⟨h.os,h.tape,h.output,Nat.le_of_eq h.size.symm,fun k _ hk=>h.block k (by simpa using hk)⟩
end
class MT (t:TypeId) (K E:outParam TypeId):Prop where
 k:Tryz.prog.underlying t=some (.map K E)
 h:Keyed Tryz.prog K
class ZV (t:TypeId) (z:outParam Value):Prop where
 k:(Tryz.prog.info? t).bind (·.zero)=some z
theorem ZV.run {t:TypeId} {z:Value} (h:ZV t z) (w:World):(zeroValue t).run Tryz.prog w=.ok z w:=by
 have:=h.k
 cases hi:Tryz.prog.info? t with
 | none=>rw[hi] at this;cases this
 | some i =>
  rw[hi] at this
  have:i.zero=some z:=this
  simp[zeroValue,typeInfo,hi,this]
section
variable {o:Oper} {n:Nat} {l:List (Nat × Value)} {L:List Asn} {C:Value→List Asn→Prop}
theorem rt_hit {t:TypeId} {x y:Operand} {ok:Bool} (ho:o.op=.lookup t x y ok) {b:Nat} (hx:evl l x=some (.map (some b))) {k:Value} (hy:evl l y=some k) {K E:TypeId} (ht:MT t K E) {P:List (Value × Value)} (hg:Gives L fun w=>MapIs Tryz.prog K w b P) {q:Lit} (hk:keyOf Tryz.prog K k=some q) {v:Value} (hin:(k,v)∈P) {r:Value} (hr:(if ok=true then .tuple #[v,.bool true] else v)=r):RT o l L n r:=fun a w F M=>by
 subst hr
 unfold execOp
 rw[ho]
 simp only[F.eval hx,F.eval hy]
 have:=run_lookup_hit ht.k ht.h hk (hg w M) hin ok
 simp[this]
theorem rt_miss {t:TypeId} {x y:Operand} {ok:Bool} (ho:o.op=.lookup t x y ok) {b:Nat} (hx:evl l x=some (.map (some b))) {k:Value} (hy:evl l y=some k) {K E:TypeId} (ht:MT t K E) {P:List (Value × Value)} (hg:Gives L fun w=>MapIs Tryz.prog K w b P) {q:Lit} (hk:keyOf Tryz.prog K k=some q) (hno:∀ p∈P,p.1≠k) {z:Value} (hz:ZV E z) {r:Value} (hr:(if ok=true then .tuple #[z,.bool false] else z)=r):RT o l L n r:=fun a w F M=>by
 subst hr
 unfold execOp
 rw[ho]
 simp only[F.eval hx,F.eval hy]
 have:=run_lookup_miss ht.k ht.h hk (hg w M) hno (hz.run w) ok
 simp[this]
theorem rt_hit1 {t:TypeId} {x y:Operand} (ho:o.op=.lookup t x y false) {b:Nat} (hx:evl l x=some (.map (some b))) {k:Value} (hy:evl l y=some k) {K E:TypeId} (ht:MT t K E) {P:List (Value × Value)} (hg:Gives L fun w=>MapIs Tryz.prog K w b P) {q:Lit} (hk:keyOf Tryz.prog K k=some q) {v:Value} (hin:(k,v)∈P):RT o l L n v:=rt_hit ho hx hy ht hg hk hin rfl
theorem rt_miss1 {t:TypeId} {x y:Operand} (ho:o.op=.lookup t x y false) {b:Nat} (hx:evl l x=some (.map (some b))) {k:Value} (hy:evl l y=some k) {K E:TypeId} (ht:MT t K E) {P:List (Value × Value)} (hg:Gives L fun w=>MapIs Tryz.prog K w b P) {q:Lit} (hk:keyOf Tryz.prog K k=some q) (hno:∀ p∈P,p.1≠k) {z:Value} (hz:ZV E z):RT o l L n z:=rt_miss ho hx hy ht hg hk hno hz rfl
theorem ac_makeMap {t:TypeId} (ho:o.op=.makeMap t none) {K E:TypeId} (ht:MT t K E) (h:∀ b,C (.map (some b)) (mp b K []::L)):AC o l L n C:=fun G a w F M=>by
 have:(execOp a.eval o).run Tryz.prog w=.ok (.value (.map (some w.heap.size))) (w.alloc (.map #[] 0)):=by
  unfold execOp
  rw[ho]
  have:=run_makeMap_none ht.k w
  simp[this]
 rw[this]
 exact⟨_,h _,M.new ⟨rfl,rfl,rfl,by simp,fun k hk _=>(((Below.refl _ _).alloc (Nat.le_refl _) _).block k hk)⟩ ⟨[w.heap.size],ok_mp (mapIs_new K w),by simp⟩⟩
theorem ac_mapNew {t:TypeId} {x y z:Operand} (ho:o.op=.mapUpdate t x y z) {b:Nat} (hx:evl l x=some (.map (some b))) {k v:Value} (hy:evl l y=some k) (hz:evl l z=some v) {K E:TypeId} (ht:MT t K E) {q:Lit} (hk:keyOf Tryz.prog K k=some q) {P P':List (Value × Value)} {L2:List Asn} (hp:Rep L (mp b K P) (mp b K P') L2) (hno:∀ p∈P,p.1≠k) (hP:((k,v)::P).Perm P') (h:C undef L2):AC o l L n C:=fun G a w F M=>by
 obtain ⟨L',h1,h2⟩:=hp.both
 obtain ⟨w',e,hm,ht'⟩:=run_mapUpdate_new (v:=v) ht.k ht.h hk (gives_mp (h1.app G) w M) hno
 have:(execOp a.eval o).run Tryz.prog w=.ok .skip w':=by
  unfold execOp
  rw[ho]
  simp[F.eval hx,F.eval hy,F.eval hz,e]
 rw[this]
 refine⟨L2,h,M.rep (hp.app G) fun s hs=>?_⟩
 obtain ⟨rfl,_⟩:=hs.now
 exact⟨ht'.chg,[b],ok_mp (hm.perm hP),fun x hx=>.inl hx⟩
theorem Spec.fr {k:FuncId} {us:List Value} {L1:List Asn} {D:Value→List Asn→Prop} (h:Spec k us L1 D) (R:List Asn):Spec k us (L1++R) fun v L'=>∃ L2,D v L2∧L'=L2++R:=fun G w M=>by
 rw[List.append_assoc] at M
 exact(h (R++G) w M).mono fun e w' ⟨v,L2,h1,h2,h3⟩=>⟨v,L2++R,h1,⟨L2,h2,rfl⟩,by rw[List.append_assoc];exact h3⟩
abbrev Keeps (k:FuncId) (us:List Value) (v:Value) (L:List Asn):Prop:=Spec k us L fun u L'=>u=v∧L'=L
theorem Keeps.head {k:FuncId} {us:List Value} {v:Value} {L:List Asn} (h:Keeps k us v L) (A:Asn):Keeps k us v (A::L):=fun G w M=>by
 have M:Mem w (L++A::G):=Mem.back M
 refine(h (A::G) w M).mono ?_
 rintro e w' ⟨u,L',h1,⟨h2,rfl⟩,M'⟩
 exact⟨u,_,h1,⟨h2,rfl⟩,M'.front⟩
end
end
section
instance:PT 52 132:=⟨by kernel_rfl,by kernel_rfl⟩
instance:PT 109 180:=⟨by kernel_rfl,by kernel_rfl⟩
instance:PT 113 184:=⟨by kernel_rfl,by kernel_rfl⟩
instance:PT 115 188:=⟨by kernel_rfl,by kernel_rfl⟩
instance:PT 117 191:=⟨by kernel_rfl,by kernel_rfl⟩
instance:PT 119 193:=⟨by kernel_rfl,by kernel_rfl⟩
instance:PT 121 199:=⟨by kernel_rfl,by kernel_rfl⟩
instance:PT 123 204:=⟨by kernel_rfl,by kernel_rfl⟩
instance:PT 125 206:=⟨by kernel_rfl,by kernel_rfl⟩
instance:PT 127 208:=⟨by kernel_rfl,by kernel_rfl⟩
instance:PT 129 210:=⟨by kernel_rfl,by kernel_rfl⟩
instance:PT 344 202:=⟨by kernel_rfl,by kernel_rfl⟩
end
section
open Go.RowKit Go.WideShapes Go.ChangeShapes
inductive Sh where
 | int (k:IntKind)
 | bool
 | str
 | slice (size:Nat) (e:Sh)
 | agg (fs:List Sh)
inductive HasSh (w:World):Sh→List Value→Prop where
 | int (k:IntKind) (n:Int):(Lit.int k n).wf=true→HasSh w (.int k) [.int k n]
 | bool (b:Bool):HasSh w .bool [.bool b]
 | str (s:ByteArray):s.size≤maxLen→HasSh w .str [.string s]
 | slice (size:Nat) (e:Sh) (a:Option Addr) (n cap:Nat) (xss:List (List Value)):xss.length=n→(∀ x∈xss,x.length=size)→(∀ x∈xss,HasSh w e x)→n≤cap→cap≤maxLen →
   SlR w size (.slice a n cap) n xss.flatten→HasSh w (.slice size e) [.slice a n cap]
 | nil:HasSh w (.agg []) []
 | cons (s:Sh) (ss:List Sh) (c r:List Value):HasSh w s c→HasSh w (.agg ss) r→HasSh w (.agg (s::ss)) (c++r)
def shapeFields (P:Program) (g:TypeId→Option Sh):Nat→List Field→Option (List Sh × Nat)
 | o,[]=>some ([],o)
 | o,f::r =>
  if f.offset=o then
   match g f.type,shapeFields P g (o+P.cellsOf f.type) r with
   | some s,some (ss,e)=>some (s::ss,e)
   | _,_=>none
  else none
def shapeOf (P:Program):Nat→TypeId→Option Sh
 | 0,_=>none
 | d+1,t =>
  match P.underlying t with
  | some .bool=>some .bool
  | some (.int k)=>some (.int k)
  | some .string=>some .str
  | some (.slice e)=>if P.cellsOf e=0 then none else (shapeOf P d e).map (.slice (P.cellsOf e))
  | some (.struct fs) =>
   match shapeFields P (shapeOf P d) 0 fs.toList with
   | some (ss,e)=>if e=P.cellsOf t then some (.agg ss) else none
   | none=>none
  | some (.array n e)=>if n*P.cellsOf e=P.cellsOf t then (shapeOf P d e).map fun s=>.agg (List.replicate n s) else none
  | _=>none
theorem flatten_at {α:Type} {sz:Nat}:∀ {L:List (List α)},(∀ x∈L,x.length=sz)→∀ {j:Nat} {u:α},L.flatten[j]? = some u→∃ i r x,j=i*sz+r∧r<sz∧L[i]? = some x∧x[r]? = some u
 | [],_,j,u,h=>by simp at h
 | y::L,hl,j,u,h=>by
  have hy:=hl y (by simp)
  rw[List.flatten_cons,List.getElem?_append] at h
  split at h
  ·exact⟨0,j,y,by omega,by omega,rfl,h⟩
  ·rename_i hge
   obtain ⟨i,r,x,e1,e2,e3,e4⟩:=flatten_at (fun x hx=>hl x (by simp[hx])) h
   refine⟨i+1,r,x,?_,e2,by simpa using e3,e4⟩
   rw[Nat.add_mul];omega
theorem flatten_len {α:Type} {sz:Nat}:∀ {L:List (List α)},(∀ x∈L,x.length=sz)→L.flatten.length=L.length*sz
 | [],_=>by simp
 | y::L,hl=>by
  rw[List.flatten_cons,List.length_append,flatten_len (fun x hx=>hl x (by simp[hx])),hl y (by simp),List.length_cons,Nat.add_mul];omega
section
variable {H:Type} {enc:TypeId × Value→H} {P:Program} {w:World}
theorem cells?_spec {a:Addr} {n:Nat} {cs:List Value} (h:w.cells? 0 a n=some cs):cs.length=n∧∀ r u,cs[r]? = some u→w.cell? (a.add r)=some u:=by
 unfold World.cells? at h
 rw[if_pos (Nat.zero_le _)] at h
 have hl:=mapM_some_length h
 refine⟨by simpa using hl,fun r u hu=>?_⟩
 have hr:r<n:=by
  have:=(List.getElem?_eq_some_iff.1 hu).1
  rw[hl] at this;simpa using this
 rw[mapM_some_get h r r (by simp[hr])]
 exact hu
theorem hasSh_fields {d:Nat} (ih:∀ t sh fuel cs x,shapeOf P d t=some sh→DataW.trod enc P w 0 (fun _=>true) true fuel t cs=some x→HasSh w sh cs) {fuel:Nat} {cs:List Value} :
  ∀ (fs:List Field) (o:Nat) (ss:List Sh),(∀ f∈fs,∃ x,DataW.trod enc P w 0 (fun _=>true) true fuel f.type ((cs.drop f.offset).take (P.cellsOf f.type))=some x) →
   shapeFields P (shapeOf P d) o fs=some (ss,cs.length)→HasSh w (.agg ss) (cs.drop o)
 | [],o,ss,_,h=>by
  simp only[shapeFields,Option.some.injEq,Prod.mk.injEq] at h
  obtain ⟨rfl,rfl⟩:=h
  rw[List.drop_of_length_le (Nat.le_refl _)]
  exact .nil
 | f::r,o,ss,hx,h=>by
  simp only[shapeFields] at h
  split at h
  ·rename_i ho
   split at h
   ·rename_i s ss' e hs hss
    simp only[Option.some.injEq,Prod.mk.injEq] at h
    obtain ⟨rfl,rfl⟩:=h
    obtain ⟨x,hx0⟩:=hx f (by simp)
    have h1:=ih _ _ _ _ _ hs hx0
    have h2:=hasSh_fields ih r (o+P.cellsOf f.type) ss' (fun g hg=>hx g (by simp[hg])) hss
    rw[ho] at h1
    have:=HasSh.cons _ _ _ _ h1 h2
    rwa [← List.drop_drop,List.take_append_drop] at this
   ·cases h
  ·cases h
theorem hasSh_elems {d:Nat} {e:TypeId} {s:Sh} (ih:∀ t sh fuel cs x,shapeOf P d t=some sh→DataW.trod enc P w 0 (fun _=>true) true fuel t cs=some x→HasSh w sh cs) (hs:shapeOf P d e=some s) {fuel n:Nat} {cs:List Value}
  (hx:∀ i,i<n→∃ x,DataW.trod enc P w 0 (fun _=>true) true fuel e ((cs.drop (i*P.cellsOf e)).take (P.cellsOf e))=some x) (hl:cs.length=n*P.cellsOf e) :
  ∀ k,k≤n→HasSh w (.agg (List.replicate k s)) (cs.drop ((n - k)*P.cellsOf e))
 | 0,_=>by
  rw[List.drop_of_length_le (by rw[hl];exact Nat.le_refl _)]
  exact .nil
 | k+1,hk=>by
  obtain ⟨x,hx0⟩:=hx (n - (k+1)) (by omega)
  have h1:=ih _ _ _ _ _ hs hx0
  have h2:=hasSh_elems ih hs hx hl k (by omega)
  have:=HasSh.cons _ _ _ _ h1 h2
  have e1:(n - k)*P.cellsOf e=(n - (k+1))*P.cellsOf e+P.cellsOf e:=by
   rw[← Nat.succ_mul];congr 1;omega
  rw[e1,← List.drop_drop,List.take_append_drop] at this
  exact this
theorem hasSh_of_trod:∀ (d:Nat) (t:TypeId) (sh:Sh) (fuel:Nat) (cs:List Value) (x:DataW H × List MemPlace),shapeOf P d t=some sh →
  DataW.trod enc P w 0 (fun _=>true) true fuel t cs=some x→HasSh w sh cs
 | 0,_,_,_,_,_,h,_=>by simp[shapeOf] at h
 | d+1,t,sh,fuel,cs,x,h,hx=>by
  have ih:=hasSh_of_trod d
  unfold shapeOf at h
  split at h
  ·rename_i ht
   simp only[Option.some.injEq] at h;subst h
   obtain ⟨b,rfl,_⟩:=DataW.trod_bool ht hx
   exact .bool b
  ·rename_i k ht
   simp only[Option.some.injEq] at h;subst h
   obtain ⟨n,rfl,_,hw⟩:=DataW.trod_int ht hx
   exact .int k n hw
  ·rename_i ht
   simp only[Option.some.injEq] at h;subst h
   obtain ⟨s,rfl,_,hs⟩:=DataW.trod_string ht hx
   exact .str s hs
  ·rename_i e ht
   split at h
   ·cases h
   ·rename_i hsz
    simp only[Option.map_eq_some_iff] at h
    obtain ⟨s,hs,rfl⟩:=h
    rcases DataW.trod_slice ht hx with⟨rfl,_⟩|⟨a,len,cap,elems,rest,n,_,rfl,_,_,hl,hc,hel,hcells,_,_⟩
    ·exact .slice _ _ _ _ _ [] rfl (by simp) (by simp) (Nat.le_refl _) (Nat.zero_le _) (SlR.nil _ _)
    ·have hcs:∀ i,i<len→∃ ci x,w.cells? 0 (a.add (i*P.cellsOf e)) (P.cellsOf e)=some ci∧DataW.trod enc P w 0 (fun _=>true) true n e ci=some x:=fun i hi=>by
      have h1:=hcells i hi
      rw[List.getElem?_eq_getElem (by omega:i<elems.length)] at h1
      obtain ⟨ci,h2,h3⟩:=Option.bind_eq_some_iff.1 h1
      exact⟨ci,_,h2,h3⟩
     let f:Nat→List Value:=fun i=>(w.cells? 0 (a.add (i*P.cellsOf e)) (P.cellsOf e)).getD []
     have hf:∀ i,i<len→(w.cells? 0 (a.add (i*P.cellsOf e)) (P.cellsOf e))=some (f i):=fun i hi=>by
      obtain ⟨ci,_,h1,_⟩:=hcs i hi
      show _=some ((w.cells? 0 (a.add (i*P.cellsOf e)) (P.cellsOf e)).getD [])
      rw[h1];rfl
     have hlen:∀ x∈(List.range len).map f,x.length=P.cellsOf e:=fun x hx=>by
      obtain ⟨i,hi,rfl⟩:=List.mem_map.1 hx
      exact(cells?_spec (hf i (by simpa using hi))).1
     refine .slice _ _ _ _ _ ((List.range len).map f) (by simp) hlen (fun x hx=>?_) hl hc ⟨by rw[flatten_len hlen];simp,?_⟩
     ·obtain ⟨i,hi,rfl⟩:=List.mem_map.1 hx
      obtain ⟨ci,x,h1,h2⟩:=hcs i (by simpa using hi)
      have:=(hf i (by simpa using hi)).symm.trans h1
      rw[Option.some.inj this]
      exact ih _ _ _ _ _ hs h2
     ·by_cases h0:len=0
      ·subst h0;exact .inl ⟨⟨_,_,rfl⟩,rfl⟩
      ·have hspot:a.spot=none:=by
        have h1:=cells?_spec (hf 0 (by omega))
        have h2:=h1.2 0 ((f 0)[0]'(by rw[h1.1];omega)) (by rw[List.getElem?_eq_getElem])
        by_cases hsp:a.spot=none
        ·exact hsp
        ·exfalso
         unfold World.cell? at h2
         have:((a.add (0*P.cellsOf e)).add 0).spot.isSome=true:=by
          cases hs':a.spot with
          | none=>exact absurd hs' hsp
          | some v=>unfold Addr.add;simp[hs']
         split at h2
         ·rw[if_pos this] at h2;cases h2
         ·cases h2
       obtain ⟨b,off,sp⟩:=a
       simp only at hspot
       subst hspot
       have hadd:∀ j,(⟨b,off,none⟩:Addr).add j=⟨b,off+j,none⟩:=fun j=>by unfold Addr.add;split<;>simp_all
       have hadd':∀ o j,(⟨b,o,none⟩:Addr).add j=⟨b,o+j,none⟩:=fun o j=>by unfold Addr.add;split<;>simp_all
       have hcell:∀ j u,((List.range len).map f).flatten[j]? = some u→w.cell? ⟨b,off+j,none⟩=some u:=fun j u hu=>by
        obtain ⟨i,r,x,rfl,hr,hxi,hxr⟩:=flatten_at hlen hu
        have hi:i<len:=by
         have:=(List.getElem?_eq_some_iff.1 hxi).1;simpa using this
        have hx':x=f i:=by
         rw[List.getElem?_map,List.getElem?_range hi] at hxi
         exact(Option.some.inj hxi).symm
        subst hx'
        have h3:=(cells?_spec (hf i hi)).2 r u hxr
        rw[hadd,hadd',Nat.add_assoc] at h3
        exact h3
       refine .inr ⟨b,off,cap,rfl,?_,by omega,hcell⟩
       have h1:=cells?_spec (hf 0 (by omega))
       obtain ⟨u,hu⟩:∃ u,(f 0)[0]? = some u:=⟨_,List.getElem?_eq_getElem (by rw[h1.1];omega)⟩
       have h2:=h1.2 0 u hu
       rw[hadd,hadd'] at h2
       exact World.block_lt_of_cell? w _ h2
  ·rename_i fs ht
   split at h
   ·rename_i ss e hss
    split at h
    ·rename_i he
     simp only[Option.some.injEq] at h;subst h
     obtain ⟨xs,n,_,_,hl,hxl,hfs⟩:=DataW.trod_struct ht hx
     have:=hasSh_fields (P:=P) (enc:=enc) ih (fuel:=n) (cs:=cs) fs.toList 0 ss (fun f hf=>by
      obtain ⟨i,hi,rfl⟩:=List.getElem_of_mem hf
      have h1:=hfs i _ (by simpa using Array.getElem?_eq_getElem (by simpa using hi))
      rw[List.getElem?_eq_getElem (by rw[hxl];simpa using hi)] at h1
      exact⟨_,by simpa using h1⟩) (by rw[hss,hl,he])
     simpa using this
    ·cases h
   ·cases h
  ·rename_i n e ht
   split at h
   ·rename_i hn
    simp only[Option.map_eq_some_iff] at h
    obtain ⟨s,hs,rfl⟩:=h
    obtain ⟨xs,m,_,_,hl,hxl,hfs⟩:=DataW.trod_array ht hx
    have:=hasSh_elems (P:=P) (enc:=enc) ih hs (fuel:=m) (n:=n) (cs:=cs) (fun i hi=>by
     have h1:=hfs i hi
     rw[List.getElem?_eq_getElem (by omega)] at h1
     exact⟨_,h1⟩) (by rw[hl,hn]) n (Nat.le_refl _)
    simpa using this
   ·cases h
  ·cases h
end
end
section
open Go.RowKit
theorem shb_cons {w:World} {s:Sh} {ss:List Sh} {l:List Value} (h:HasSh w (.agg (s::ss)) l):∃ c r,l=c++r∧HasSh w s c∧HasSh w (.agg ss) r:=by
 cases h with
 | cons s ss c r h1 h2=>exact⟨c,r,rfl,h1,h2⟩
theorem shb_nil {w:World} {l:List Value} (h:HasSh w (.agg []) l):l=[]:=by cases h;rfl
theorem shb_int {w:World} {k:IntKind} {l:List Value} (h:HasSh w (.int k) l):∃ n,l=[.int k n]∧(Lit.int k n).wf=true:=by cases h with|int _ n hn=>exact⟨n,rfl,hn⟩
theorem i64_wf {n:Int} (h:(Lit.int .i64 n).wf=true):-9223372036854775808≤n∧n≤9223372036854775807:=by
 simp[Lit.wf,IntKind.min,IntKind.max,IntKind.signed,IntKind.bits] at h
 omega
theorem u64_wf {n:Int} (h:(Lit.int .u64 n).wf=true):0≤n∧n≤18446744073709551615:=by
 simp[Lit.wf,IntKind.min,IntKind.max,IntKind.signed,IntKind.bits] at h
 omega
theorem slice_of_sh {α:Type} {f:α→List Value} {P:α→Prop} {w:World} {size:Nat} {e:Sh} (hd:∀ cs,HasSh w e cs→∃ x,cs=f x∧P x) {v:Value} (h:HasSh w (.slice size e) [v]):∃ xs:List α,SlT w f size v xs∧∀ x∈xs,P x:=by
 cases h with
 | slice size e sa n cap xss hl h1 h2 h3 h4 hr =>
  have key:∀ (xss:List (List Value)),(∀ x∈xss,HasSh w e x)→∃ xs:List α,xss.flatten=xs.flatMap f∧xss.length=xs.length∧∀ x∈xs,P x:=by
   intro xss
   induction xss with
   | nil=>exact fun _=>⟨[],rfl,rfl,by simp⟩
   | cons c r ih =>
    intro hx
    obtain ⟨xs,e1,e2,e3⟩:=ih fun x hx'=>hx x (by simp[hx'])
    obtain ⟨m,rfl,hm⟩:=hd c (hx c (by simp))
    refine⟨m::xs,by simp[e1],by simp[e2],?_⟩
    intro z hz
    rcases List.mem_cons.1 hz with rfl|hz
    ·exact hm
    ·exact e3 z hz
  obtain ⟨xs,e1,e2,e3⟩:=key xss h2
  refine⟨xs,?_,e3⟩
  unfold SlT
  rw[← e1,← e2,hl];exact hr
end
section
open Go.RowKit
def intL (z:Int):List Value:=[.int .i64 z]
instance:EL intL 1:=⟨fun _=>rfl,fun x u h=>by simp[intL] at h;subst h;rfl⟩
abbrev ptr (b:Nat):Value:=.pointer (some ⟨b,0,none⟩)
def u64L (z:Int):List Value:=[.int .u64 z]
instance:EL u64L 1:=⟨fun _=>rfl,fun x u h=>by simp[u64L] at h;subst h;rfl⟩
def U64 (z:Int):Prop:=0≤z∧z≤18446744073709551615
theorem drop_cons {α:Type} {l:List α} {k:Nat} {x:α} (h:l[k]? = some x):l.drop k=x::l.drop (k+1):=by
 obtain ⟨h1,h2⟩:=List.getElem?_eq_some_iff.1 h
 rw[List.drop_eq_getElem_cons h1,h2]
def I64 (m:Int):Prop:=-9223372036854775808≤m∧m≤9223372036854775807
theorem take_map {α β:Type} {f:α→β} {l:List α} {j:Nat} {y:α} (h:l[j]? = some y):(l.take (j+1)).map f=(l.take j).map f++[f y]:=by
 rw[List.take_add_one,h];simp
theorem arr_eq {cs:Array Value} {l:List Value} (h:cs.toList=l):cs=l.toArray:=by apply Array.toList_inj.1;simpa using h
end
end Go.Proofs.YtopbohbkhljjgaaGreat
