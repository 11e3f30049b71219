import Derived.Test.YtopbohbkhljjgaaGreatZdc
set_option linter.unusedVariables false
set_option linter.unusedSimpArgs false
set_option maxRecDepth 100000
set_option maxHeartbeats 8000000
namespace Go.Proofs.YtopbohbkhljjgaaGreat
section
open Go.RowKit
section
variable {ops:Array Oper} {Q:Exit→Act→World→Prop} {o:Oper} {a:Act} {w:World} {n:Nat} {l:List (Nat × Value)} {L:List Asn} {C:Value→List Asn→Prop}
theorem isW {rest:List Oper} (h:wpList Tryz.prog ops Q rest a w):wpList Tryz.prog ops Q rest a w:=h
theorem isP {E Fl:List Nat} {S:List (Nat × List Nat)} {σ done:List Nat} (h:PW Tryz.prog ops n Q E Fl S σ done l L):PW Tryz.prog ops n Q E Fl S σ done l L:=h
theorem isK {c:Operand} {x y:Code} (h:(Code.cond c x y).wp Tryz.prog Q a w):(Code.cond c x y).wp Tryz.prog Q a w:=h
theorem isL {c:Code} (h:(Code.loop c).wp Tryz.prog Q a w):(Code.loop c).wp Tryz.prog Q a w:=h
theorem isD {id:Nat} (h:(Code.region id ops true).wp Tryz.prog Q a w):(Code.region id ops true).wp Tryz.prog Q a w:=h
theorem acK {f:Operand} {xs:Array Operand} {ats:Array TypeId} {k:FuncId} {caps:Array Value} {vs us:List Value} {L1:List Asn} {D:Value→List Asn→Prop} (hs:Spec k us L1 D) (hi:∀ v L',D v L'→C v L')
  (ho:o.op=.call {callee:=.value f,args:=xs,argTypes:=ats}:=by exact rfl) (hf:evl l f=some (.func (.func k) #[] caps):=by exact rfl) (hfk:FK k:=by exact inferInstance) (hx:evls l xs.toList=some vs:=by exact rfl) (hu:vs++caps.toList=us:=by exact rfl) (hp:Perms L L1:=by exact permsA):AC o l L n C :=
 ac_call ho hf hfk hx hu ((hs.mono hi).pre hp)
theorem acW {f:Operand} {xs:Array Operand} {ats:Array TypeId} {k:FuncId} {caps:Array Value} {vs us:List Value} {D:Value→List Asn→Prop} (hs:Spec k us L D) (hi:∀ v L',D v L'→C v L')
  (ho:o.op=.call {callee:=.value f,args:=xs,argTypes:=ats}:=by exact rfl) (hf:evl l f=some (.func (.func k) #[] caps):=by exact rfl) (hfk:FK k:=by exact inferInstance) (hx:evls l xs.toList=some vs:=by exact rfl) (hu:vs++caps.toList=us:=by exact rfl):AC o l L n C :=
 ac_call ho hf hfk hx hu (hs.mono hi)
theorem rt_idxA {t:TypeId} {x y:Operand} (ho:o.op=.index t x y) {cs:List Value} (hx:evl l x=some (.agg cs.toArray)) {kd:IntKind} {j:Int} (hy:evl l y=some (.int kd j)) {len e size k:Nat} (ht:AT t len e size) (hkt:KT e (some k)) (h0:0≤j) (h1:j<len) {ds:List Value} (hd:(cs.drop (j.toNat*size)).take k=ds):RT o l L n (.agg ds.toArray):=fun a w F M=>by
 subst hd
 obtain ⟨hu,hs⟩:=ht.k
 have hz:(sizeOf e).run Tryz.prog w=.ok size w:=by
  cases hi:Tryz.prog.info? e with
  | none=>rw[hi] at hs;cases hs
  | some ie =>
   rw[hi] at hs
   have hs:=Option.some.inj hs
   simp[sizeOf,typeInfo,hi,hs]
 have hk:size=k:=by
  have h2:=(run_isAgg (t:=e) w).2
  rw[hz] at h2
  simpa using h2
 unfold execOp
 rw[ho]
 have hr:(Instr.index t (.agg cs.toArray) (.int kd j)).run Tryz.prog w=.ok (.agg ((cs.drop (j.toNat*size)).take k).toArray) w:=by
  subst hk
  simp[Instr.index,asIntOf,run_underlying hu w,h0,h1,hz,part,(run_isAgg (t:=e) w).1,List.extract_eq_take_drop]
 simp[F.eval hx,F.eval hy,hr]
theorem rt_min2 {xs:Array Operand} {ats:Array TypeId} (ho:o.op=.call {callee:=.builtin .min,args:=xs,argTypes:=ats}) {k:IntKind} {x y r:Int} (hx:evls l xs.toList=some [.int k x,.int k y]) (hr:(if y<x then y else x)=r):RT o l L n (.int k r) :=
 rt_min ho hx (by subst hr;simp[minL])
theorem rt_max2 {xs:Array Operand} {ats:Array TypeId} (ho:o.op=.call {callee:=.builtin .max,args:=xs,argTypes:=ats}) {k:IntKind} {x y r:Int} (hx:evls l xs.toList=some [.int k x,.int k y]) (hr:(if y>x then y else x)=r):RT o l L n (.int k r) :=
 rt_max ho hx (by subst hr;simp[maxL])
end
end
section
open Go.RowKit
section
variable {ops:Array Oper} {Q:Exit→Act→World→Prop} {rest:List Oper} {o:Oper} {a:Act} {w:World} {n:Nat} {l l':List (Nat × Value)} {L L':List Asn}
def ZOn (ops:Array Oper) (o:Oper) (n:Nat) (l:List (Nat × Value)) (L:List Asn) (l':List (Nat × Value)) (L':List Asn):Prop:=∀ (Q:Exit→Act→World→Prop) (rest:List Oper) (a:Act) (w:World),Fr a n l→Mem w L→(∀ a w,Fr a n l'→Mem w L'→wpList Tryz.prog ops Q rest a w)→wpList Tryz.prog ops Q (o::rest) a w
theorem zo1 {d:Nat} {v:Value} (hw:Wanted o ops l=some true:=by exact rfl) (hd:o.dst=some d:=by exact rfl) (hn:Nat.ble (d+1) n=true:=by exact rfl) (hr:RT o l L n v:=by exact rtA):ZOn ops o n l L ((d,v)::l) L:=fun _ _ _ w F M h=>sv_run F M hw hd hn hr fun a' F'=>h a' w F' M
theorem zo3 {v:Value} (hw:Wanted o ops l=some true:=by exact rfl) (hd:o.dst=none:=by exact rfl) (s:∀ C:Value→List Asn→Prop,C v L'→AC o l L n C:=by(intro C h;exact acB h)):ZOn ops o n l L l L':=fun _ _ a _ F M h=>sv_act0 F M hw hd (s _ fun w' M'=>h a w' F M')
theorem zoK {d:Nat} (hw:Wanted o ops l=some false:=by exact rfl) (hd:o.dst=some d:=by exact rfl) (hn:Nat.ble (d+1) n=true:=by exact rfl):ZOn ops o n l L ((d,undef)::l) L:=fun _ _ _ w F M h=>sx_skip F hw hd hn fun a' F'=>h a' w F' M
theorem zoK0 (hw:Wanted o ops l=some false:=by exact rfl) (hd:o.dst=none:=by exact rfl):ZOn ops o n l L l L:=fun _ _ a w F M h=>sx_skip0 F hw hd (h a w F M)
theorem zn1 (F:Fr a n l) (M:Mem w L) (h:∀ a w,Fr a n l'→Mem w L'→wpList Tryz.prog ops Q rest a w) (s:ZOn ops o n l L l' L':=by(first|exact zo1|exact zo3|exact zoK|exact zoK0)):wpList Tryz.prog ops Q (o::rest) a w:=s Q rest a w F M h
section
variable {E Fl:List Nat} {S:List (Nat × List Nat)} {σ done:List Nat} {i:Nat}
def ZPo (ops:Array Oper) (n:Nat) (E Fl:List Nat) (S:List (Nat × List Nat)) (i:Nat) (done:List Nat) (l:List (Nat × Value)) (L:List Asn) (l':List (Nat × Value)) (L':List Asn):Prop:=∀ (Q:Exit→Act→World→Prop) (σ:List Nat),PW Tryz.prog ops n Q E Fl S σ (i::done) l' L'→PW Tryz.prog ops n Q E Fl S (i::σ) done l L
theorem zq1 {d:Nat} {v:Value} (hi:ops[i]? = some o:=by exact rfl) (hf:Fl.contains i=false:=by exact rfl) (he:E.contains i=false:=by exact rfl) (hw:Wanted o ops l=some true:=by exact rfl) (hd:o.dst=some d:=by exact rfl) (hr:RT o l L n v:=by exact rtA):ZPo ops n E Fl S i done l L ((d,v)::l) L:=fun _ _ h=>pv_run hi hf he hw hd hr h
theorem zq3 {v:Value} {js:List Nat} (hi:ops[i]? = some o:=by exact rfl) (hf:Fl.contains i=false:=by exact rfl) (he:E.contains i=true:=by exact rfl) (hw:Wanted o ops l=some true:=by exact rfl) (hd:o.dst=none:=by exact rfl) (hj:lookS S i=js:=by exact rfl)
  (s:∀ C:Value→List Asn→Prop,C v L'→AC o l L n C:=by(intro C h;exact acB h)) (hr:Rvs Tryz.prog ops n js l L':=by exact rvsA):ZPo ops n E Fl S i done l L l L':=fun _ _ h=>pv_act0 hi hf he hw hd hj (s _ ⟨hr,h⟩)
theorem zqK {d:Nat} (hi:ops[i]? = some o:=by exact rfl) (hf:Fl.contains i=false:=by exact rfl) (hw:Wanted o ops l=some false:=by exact rfl) (hd:o.dst=some d:=by exact rfl):ZPo ops n E Fl S i done l L ((d,undef)::l) L:=fun _ _ h=>pvK h hi hf hw hd
theorem zqK0 (hi:ops[i]? = some o:=by exact rfl) (hf:Fl.contains i=false:=by exact rfl) (he:E.contains i=true:=by exact rfl) (hw:Wanted o ops l=some false:=by exact rfl) (hd:o.dst=none:=by exact rfl):ZPo ops n E Fl S i done l L l L:=fun _ _ h=>pvK0 h hi hf he hw hd
theorem zp1 (h:PW Tryz.prog ops n Q E Fl S σ (i::done) l' L') (s:ZPo ops n E Fl S i done l L l' L':=by(first|exact zq1|exact zq3|exact zqK|exact zqK0)):PW Tryz.prog ops n Q E Fl S (i::σ) done l L:=s Q σ h
def ZPb (ops:Array Oper) (n:Nat) (E Fl:List Nat) (S:List (Nat × List Nat)) (i:Nat) (done:List Nat) (l:List (Nat × Value)) (L:List Asn) (l':Nat→List (Nat × Value)) (L':Nat→List Asn):Prop:=∀ (Q:Exit→Act→World→Prop) (σ:List Nat),(∀ b,PW Tryz.prog ops n Q E Fl S σ (i::done) (l' b) (L' b))→PW Tryz.prog ops n Q E Fl S (i::σ) done l L
theorem zb2 {d:Nat} {fv:Nat→Value} {fL:Nat→List Asn} {js:List Nat} (hi:ops[i]? = some o:=by exact rfl) (hf:Fl.contains i=false:=by exact rfl) (he:E.contains i=true:=by exact rfl) (hw:Wanted o ops l=some true:=by exact rfl) (hd:o.dst=some d:=by exact rfl) (hj:lookS S i=js:=by exact rfl)
  (s:∀ C:Value→List Asn→Prop,(∀ b,C (fv b) (fL b))→AC o l L n C:=by(intro C h;exact acA h)) (hr:∀ b,Rvs Tryz.prog ops n js ((d,fv b)::l) (fL b):=by(intro b;exact rvsA)):ZPb ops n E Fl S i done l L (fun b=>(d,fv b)::l) fL:=fun _ _ h=>pv_act hi hf he hw hd hj (s _ fun b=>⟨hr b,h b⟩)
theorem zbF {t:TypeId} {cs:List Value} {d:Nat} (hi:ops[i]? = some o:=by exact rfl) (hf:Fl.contains i=true:=by exact rfl) (ho:o.op=.alloc t:=by exact rfl) (hz:ZT t cs:=by exact inferInstance) (hd:o.dst=some d:=by exact rfl):ZPb ops n E Fl S i done l L (fun b=>(d,.pointer (some ⟨b,0,none⟩))::l) (fun b=>pt b cs t::L):=fun _ _ h=>pv_float hi hf ho hz hd h
theorem zp2 {fl:Nat→List (Nat × Value)} {fL:Nat→List Asn} (h:∀ b,PW Tryz.prog ops n Q E Fl S σ (i::done) (fl b) (fL b)) (s:ZPb ops n E Fl S i done l L fl fL:=by(first|exact zb2|exact zbF)):PW Tryz.prog ops n Q E Fl S (i::σ) done l L:=s Q σ h
end
class ZG (p:Prop):Prop where
 t:True
instance zg1:ZG (wpList Tryz.prog ops Q rest a w):=⟨trivial⟩
instance zg2 {E Fl:List Nat} {S:List (Nat × List Nat)} {σ done:List Nat}:ZG (PW Tryz.prog ops n Q E Fl S σ done l L):=⟨trivial⟩
instance zg3 {c:Code}:ZG ((Code.loop c).wp Tryz.prog Q a w):=⟨trivial⟩
theorem zG {p:Prop} [ZG p] (h:p):p:=h
structure ZR where
 id:Nat
 E:List Nat
 Fl:List Nat
 S:List (Nat × List Nat)
 σ:List Nat
def zfind:List ZR→Nat→Option ZR
 | [],_=>none
 | r::rs,i=>cond (Nat.beq r.id i) (some r) (zfind rs i)
theorem zD {id:Nat} (D:List ZR) (F:Fr a n l) (M:Mem w L) {E Fl:List Nat} {S:List (Nat × List Nat)} {σ:List Nat} {i:Nat} (h:PW Tryz.prog ops n Q E Fl S σ [] l L) (hf:zfind D id=some ⟨i,E,Fl,S,σ⟩:=by exact rfl) (hok:drawOK ops E Fl S σ n=true:=by kernel_rfl) (hFl:FlOK Tryz.prog ops Fl:=by(first|(focus ((repeat (first|exact flok_nil|(apply flok_cons;(exact rfl);(exact rfl);(exact inferInstance);(exact rfl);(exact rfl))));done))|fail)):(Code.region id ops true).wp Tryz.prog Q a w:=sv_draw E Fl S σ F M hok hFl h
def ZS (p q:Prop):Prop:=q→p
theorem zs1 {id:Nat} {os:List Oper}:ZS ((Code.region id os.toArray false).wp Tryz.prog Q a w) (wpList Tryz.prog os.toArray Q os a w):=fun h=>sx_region h
theorem zs2 {c:Code}:ZS ((Code.scope c).wp Tryz.prog Q a w) (c.wp Tryz.prog (Exit.noGoto Q) a w):=fun h=>wp_scope_straight h
theorem zs3 {k:Nat}:ZS ((Code.label k).wp Tryz.prog Q a w) (Q .normal a w):=fun h=>wp_label h
theorem zs4 {c:Operand} {x y:Code} (F:Fr a n l) (hc:evl l c=some (.bool true)):ZS ((Code.cond c x y).wp Tryz.prog Q a w) (x.wp Tryz.prog Q a w):=fun h=>sx_cond_t F hc h
theorem zs5 {c:Operand} {x y:Code} (F:Fr a n l) (hc:evl l c=some (.bool false)):ZS ((Code.cond c x y).wp Tryz.prog Q a w) (y.wp Tryz.prog Q a w):=fun h=>sx_cond_f F hc h
theorem zT {p q:Prop} (F:Fr a n l) (h:q) (s:ZS p q:=by(first|with_reducible exact zs1|with_reducible exact zs2|with_reducible exact zs3|((with_reducible refine zs4 F ?_);exact rfl)|((with_reducible refine zs5 F ?_);exact rfl))):p:=s h
theorem zE {e:Exit} {fn:Func} {R:Ending→World→Prop} {rs:List ResultVar} {vs:List Value} {v:Value} (F:Fr a n l) (M:Mem w L) (hR:R (.returned v) w) (he:e=.normal∨e=.ret:=by(first|exact .inl rfl|exact .inr rfl)) (hf:fn.results=rs.toArray:=by exact rfl) (hr:Ress L l rs vs:=by(first|(focus ((repeat (first|exact Ress.nil|(apply Ress.cons)|(apply Res.tmp;exact rfl)|(apply Res.agg;(exact rfl);(exact inferInstance);((focus ((repeat (first|exact Pull.here|apply Pull.there));done)));(exact rfl))|(apply Res.one;(exact rfl);(exact inferInstance);((focus ((repeat (first|exact Pull.here|apply Pull.there));done)));(exact rfl))));done))|fail)) (hv:tupOf vs=v:=by exact rfl):bodyPost Tryz.prog fn R e a w:=by
 rcases he with rfl|rfl
 ·exact sx_end F M hf hr hv hR
 ·exact sx_ret F M hf hr hv hR
theorem zc {α:Type _} {a:α} {ls ms:List α}:(a::ls)++ms=a::(ls++ms):=rfl
theorem zn {α:Type _} {ls:List α}:[]++ls=ls:=rfl
def ZY (_p:Prop):Prop:=True
theorem zyG {p:Prop} [ZG p]:ZY p:=trivial
theorem zY {p:Prop} (h:p) (s:ZY p:=by((fail_if_success(with_reducible exact zyG));exact trivial)):p:=h
theorem zh (F:Fr a n l) {b:Bool} (h1:b=true→wpList Tryz.prog ops Q (o::rest) a w) (h2:b=false→wpList Tryz.prog ops Q (o::rest) a w) (hg:guardOf o ops l=some (.bool b):=by exact rfl):wpList Tryz.prog ops Q (o::rest) a w:=sx_guardb F hg h1 h2
theorem zX {e:Exit} {fn:Func} {R:Ending→World→Prop} {rs:List ResultVar} {vs:List Value} {v:Value} (F:Fr a n l) (M:Mem w L) (he:e=.normal∨e=.ret:=by(first|exact .inl rfl|exact .inr rfl)) (hf:fn.results=rs.toArray:=by exact rfl) (hr:Ress L l rs vs:=by(first|(focus ((repeat (first|exact Ress.nil|(apply Ress.cons)|(apply Res.tmp;exact rfl)|(apply Res.agg;(exact rfl);(exact inferInstance);((focus ((repeat (first|exact Pull.here|apply Pull.there));done)));(exact rfl))|(apply Res.one;(exact rfl);(exact inferInstance);((focus ((repeat (first|exact Pull.here|apply Pull.there));done)));(exact rfl))));done))|fail)) (hv:tupOf vs=v:=by exact rfl) (hR:R (.returned v) w:=by exact⟨_,_,rfl,⟨rfl,rfl⟩,M.perms permsA⟩):bodyPost Tryz.prog fn R e a w:=zE F M hR he hf hr hv
end
end
section
open Go.RowKit Go.Maps
open Go.ChangeMaps (setBlock)
def updF (k:Int) (v:Value) (p:Value × Value):Value × Value:=match p.1 with
 | .int .i64 x=>if x=k then (.int .i64 k,v) else p
 | _=>p
theorem updF_hit (k:Int) (v u:Value):updF k v (.int .i64 k,u)=(.int .i64 k,v):=by simp[updF]
theorem updF_miss {k:Int} {v:Value} {p:Value × Value} (h:p.1≠.int .i64 k):updF k v p=p:=by
 unfold updF
 split
 ·rename_i x hx
  rw[if_neg]
  intro e
  exact h (by rw[hx,e])
 ·rfl
theorem updF_key (k:Int) (v:Value) (p:Value × Value):(updF k v p).1=p.1:=by
 unfold updF
 split
 ·rename_i x hx
  split
  ·rename_i e;rw[hx,e]
  ·rfl
 ·rfl
def updP (k:Int) (v:Value) (L:List (Value × Value)):List (Value × Value):=L.map (updF k v)
theorem updP_keys (k:Int) (v:Value) (L:List (Value × Value)):(updP k v L).map (·.1)=L.map (·.1):=by
 unfold updP
 rw[List.map_map]
 apply List.map_congr_left
 intro p _
 exact updF_key k v p
theorem nodup_at {α:Type} {l:List α} (h:l.Nodup) {i j:Nat} {x:α} (hi:l[i]? = some x) (hj:l[j]? = some x):i=j:=by
 rw[List.nodup_iff_pairwise_ne,List.pairwise_iff_getElem] at h
 obtain ⟨h1,h2⟩:=List.getElem?_eq_some_iff.1 hi
 obtain ⟨h3,h4⟩:=List.getElem?_eq_some_iff.1 hj
 rcases Nat.lt_trichotomy i j with hlt|rfl|hlt
 ·exact absurd (h2.trans h4.symm) (h i j h1 h3 hlt)
 ·rfl
 ·exact absurd (h4.trans h2.symm) (h j i h3 h1 hlt)
section
variable {P:Program} {w:World} {b:Nat} {L:List (Value × Value)} {T K E:TypeId}
theorem run_mapUpdate_hit (hT:P.underlying T=some (.map K E)) (hK:Keyed P K) {k:Int} {v0 v:Value} {l:Lit} (hk:keyOf P K (.int .i64 k)=some l) (hm:MapIs P K w b L) (hin:(.int .i64 k,v0)∈L) :
  ∃ w',(Instr.mapUpdate T (.map (some b)) (.int .i64 k) v).run P w=.ok () w'∧MapIs P K w' b (updP k v L)∧Touch b w w':=by
 obtain ⟨es,clk,hb,hp,hl,hn⟩:=hm
 have hkeys:∀ e∈es.toList,∃ l,keyOf P K e.key=some l:=fun e he=>hl (e.key,e.val) (hp.mem_iff.1 (List.mem_map.2 ⟨e,he,rfl⟩))
 rcases hK.find w hk es.toList hkeys with⟨_,h1⟩|⟨j,e,h1,h2,h3⟩
 ·exfalso
  obtain ⟨e,he,hkv⟩:=List.mem_map.1 (hp.mem_iff.2 hin)
  exact h1 e he (congrArg Prod.fst hkv)
 ·have hj:es[j]? = some e:=by simpa using h2
  have hnd:(es.toList.map (·.key)).Nodup:=by
   have:=(hp.map (·.1)).nodup_iff.2 hn.1
   simpa[pairs,Function.comp_def] using this
  have hpairs:pairs (es.modify j fun e=>{e with key:=.int .i64 k,val:=v})=updP k v (pairs es):=by
   simp only[pairs,updP,Array.toList_modify,List.map_map]
   apply List.ext_getElem?
   intro i
   simp only[List.getElem?_map,List.getElem?_modify,Function.comp_def]
   by_cases hij:j=i
   ·subst hij
    rw[h2]
    simp only[if_true,Option.map_some,h3,updF_hit]
    rfl
   ·cases he:es.toList[i]? with
    | none=>simp
    | some e' =>
     have hne:e'.key≠.int .i64 k:=fun hh=>by
      rw[← h3] at hh
      have i1:=(List.getElem?_eq_some_iff.1 he).1
      have i2:=(List.getElem?_eq_some_iff.1 h2).1
      exact hij (nodup_at hnd (by rw[List.getElem?_map,h2];rfl) (by rw[List.getElem?_map,he];simp[hh]))
     simp only[hij,if_false,Option.map_some]
     show some (e'.key,e'.val)=_
     rw[updF_miss (p:=(e'.key,e'.val)) hne]
  refine⟨setBlock w b (.map (es.modify j fun e=>{e with key:=.int .i64 k,val:=v}) clk),?_,⟨es.modify j fun e=>{e with key:=.int .i64 k,val:=v},clk,?_,?_,?_,?_,?_⟩,touch_setBlock w b _⟩
  ·have hkt:(Instr.keyThatStays (.int .i64 k) (.int .i64 k)).run P w=.ok (.int .i64 k) w:=by simp[Instr.keyThatStays,Instr.sameBits]
   simp[Instr.mapUpdate,run_underlying hT,MapKept.run_getObj_map hb,hK.check w false hk,h1,hj,h3,hkt,MapKept.run_setObj_map _ hb,Result.andThen,setBlock]
  ·have:=(Array.getElem?_eq_some_iff.1 hb).1
   simp[setBlock,this]
  ·rw[hpairs];exact hp.map _
  ·intro p hp'
   obtain ⟨q,hq,rfl⟩:=List.mem_map.1 hp'
   rw[updF_key]
   exact hl q hq
  ·rw[updP_keys];exact hn.1
  ·have hb1:(es.modify j fun e=>{e with key:=.int .i64 k,val:=v}).toList.map (·.born)=es.toList.map (·.born):=by
    apply List.ext_getElem?
    intro i
    simp only[Array.toList_modify,List.getElem?_map,List.getElem?_modify]
    by_cases hij:j=i
    ·subst hij;rw[h2];simp
    ·simp[hij]
   refine⟨by rw[hb1];exact hn.2.1,fun e' he'=>?_⟩
   have:e'.born∈es.toList.map (·.born):=by rw[← hb1];exact List.mem_map.2 ⟨e',he',rfl⟩
   obtain ⟨e2,he2,hbe⟩:=List.mem_map.1 this
   rw[← hbe];exact hn.2.2 e2 he2
end
section
variable {o:Oper} {n:Nat} {l:List (Nat × Value)} {L:List Asn} {C:Value→List Asn→Prop}
theorem ac_mapHit {t:TypeId} {x y z:Operand} (ho:o.op=.mapUpdate t x y z) {b:Nat} (hx:evl l x=some (.map (some b))) {k:Int} {v0 v:Value} (hy:evl l y=some (.int .i64 k)) (hz:evl l z=some v) {K E:TypeId} (ht:MT t K E) {q:Lit} (hk:keyOf Tryz.prog K (.int .i64 k)=some q) {P:List (Value × Value)} {L2:List Asn} (hp:Rep L (mp b K P) (mp b K (updP k v P)) L2) (hin:(.int .i64 k,v0)∈P) (h:C undef L2):AC o l L n C:=fun G a w F M=>by
 obtain ⟨L',h1,h2⟩:=hp.both
 obtain ⟨w',e,hm,ht'⟩:=run_mapUpdate_hit (v:=v) ht.k ht.h hk (gives_mp (h1.app G) w M) hin
 have:(execOp a.eval o).run Tryz.prog w=.ok .skip w':=by
  unfold execOp
  rw[ho]
  simp[F.eval hx,F.eval hy,F.eval hz,e]
 rw[this]
 refine⟨L2,h,M.rep (hp.app G) fun s hs=>?_⟩
 obtain ⟨rfl,_⟩:=hs.now
 exact⟨ht'.chg,[b],ok_mp hm,fun x hx=>.inl hx⟩
end
end
section
open Go.RowKit
def sh (D:List Deferred) (a:Act):Act:={a with defers:=a.defers++D}
theorem sh_put (D:List Deferred) (a:Act) (d:Option Tmp) (v:Value):(sh D a).put d v=sh D (a.put d v):=by cases d<;>rfl
section
variable {P:Program} {ops:Array Oper} {Q:Exit→Act→World→Prop} {D:List Deferred}
theorem upon_sh {o:Oper} {a:Act} {next:Act→World→Prop} {r:Result Next} (h:o.upon P a (fun a w=>next (sh D a) w) (fun e a w=>Q e (sh D a) w) r):o.upon P (sh D a) next Q r:=by
 cases r with
 | ok x w =>
  cases x<;>simp only[Oper.upon,sh_put] at h ⊢<;>first|exact h|skip
  ·exact h.mono fun e w' he=>by cases e<;>first|exact he|(obtain ⟨a',w'',h'⟩:=he;exact⟨_,_,h'⟩)
  ·rename_i d
   have e:({sh D a with defers:=d::(sh D a).defers}:Act)=sh D {a with defers:=d::a.defers}:=rfl
   rw[e,sh_put];exact h
 | halt x w=>cases x<;>simp only[Oper.upon] at h ⊢<;>exact h
theorem wp_sh {o:Oper} {a:Act} {w:World} {next:Act→World→Prop} (h:o.wp P a w (fun a w=>next (sh D a) w) (fun e a w=>Q e (sh D a) w)):o.wp P (sh D a) w next Q:=upon_sh h
theorem outs_sh (h:LetsOut fun e a w=>Q e (sh D a) w):LetsOut Q:=by obtain ⟨a,w,h⟩:=h;exact⟨_,w,h⟩
theorem wpList_sh:∀ (rest:List Oper) (a:Act) (w:World),wpList P ops (fun e a w=>Q e (sh D a) w) rest a w→wpList P ops Q rest (sh D a) w
 | [],a,w,h=>h
 | o::rest,a,w,h=>by
  simp only[wpList] at h ⊢
  have e:yielded ops (sh D a).tmps=yielded ops a.tmps:=rfl
  rw[e]
  split at h
  ·rename_i hw
   rw[if_pos hw]
   rcases h with h|⟨h1,h2⟩
   ·exact .inl (wp_sh (Oper.wp_mono (fun a w h=>wpList_sh rest a w h) h))
   ·exact .inr ⟨h1,outs_sh h2⟩
  ·rename_i hw
   rw[if_neg hw,sh_put]
   exact wpList_sh rest _ w h
theorem wpAny_sh:∀ (fuel:Nat) (listed:Array Bool) (a:Act) (w:World),wpAny P .any ops (fun e a w=>Q e (sh D a) w) fuel listed a w→wpAny P .any ops Q fuel listed (sh D a) w
 | 0,listed,a,w,h=>h
 | fuel+1,listed,a,w,h=>by
  refine⟨h.1,fun i hi=>?_⟩
  have h2:=h.2 i hi
  unfold wpOp at h2 ⊢
  cases ho:ops[i]? with
  | none=>rw[ho] at h2;exact wpAny_sh fuel _ a w h2
  | some o =>
   rw[ho] at h2
   have e:yielded ops (sh D a).tmps=yielded ops a.tmps:=rfl
   simp only[e] at h2 ⊢
   split at h2
   ·rename_i hw
    rw[if_pos hw]
    rcases h2 with h2|⟨h1,h3⟩
    ·exact .inl (wp_sh (Oper.wp_mono (fun a w h=>wpAny_sh fuel _ a w h) h2))
    ·exact .inr ⟨h1,outs_sh h3⟩
   ·rename_i hw
    rw[if_neg hw,sh_put]
    exact wpAny_sh fuel _ _ w h2
theorem regL_sh {id:Nat} {os:List Oper} {a:Act} {w:World} (h:wpList P os.toArray (fun e a w=>Q e (sh D a) w) os a w):(Code.region id os.toArray false).wp P Q (sh D a) w:=wp_region_lit (wpList_sh os a w h)
end
section
variable {ops:Array Oper} {Q:Exit→Act→World→Prop} {D:List Deferred} {a:Act} {w:World} {n:Nat} {l:List (Nat × Value)} {L:List Asn}
theorem regD_sh {id:Nat} (E Fl:List Nat) (S:List (Nat × List Nat)) (σ:List Nat) (F:Fr a n l) (M:Mem w L) (h:PW Tryz.prog ops n (fun e a w=>Q e (sh D a) w) E Fl S σ [] l L) (hok:drawOK ops E Fl S σ n=true:=by kernel_rfl) (hFl:FlOK Tryz.prog ops Fl:=by(first|(focus ((repeat (first|exact flok_nil|(apply flok_cons;(exact rfl);(exact rfl);(exact inferInstance);(exact rfl);(exact rfl))));done))|fail)):(Code.region id ops true).wp Tryz.prog Q (sh D a) w:=by
 simp only[drawOK,Bool.and_eq_true] at hok
 obtain ⟨⟨⟨⟨⟨hB,ho⟩,hlen⟩,hall⟩,hfl⟩,hds⟩:=hok
 have hn:∀ (i:Nat) (o:Oper) (d:Nat),ops[i]? = some o→o.dst=some d→d<n:=fun i o d hi hd=>by
  have:=Array.all_eq_true_iff_forall_mem.1 hds o (Array.mem_of_getElem? hi)
  rw[hd] at this
  exact Nat.le_of_ble_eq_true this
 have hEF:∀ i,Fl.contains i=true→E.contains i=false:=fun i hi=>by
  have:=List.all_eq_true.1 hfl i (by simpa using hi)
  simp only[Bool.and_eq_true,Bool.not_eq_true'] at this
  exact this.1
 have hrep:∀ j,(Array.replicate ops.size false).getD j true=true→ops.size≤j:=fun j hj=>by
  by_cases hlt:j<ops.size
  ·simp[hlt] at hj
  ·omega
 obtain ⟨done',rest',l',L',ear',hp,hh⟩:=norm hB hn (listed:=Array.replicate ops.size false) (a:=a) (w:={w with drawn:=w.drawn+1}) σ [] l L [] ⟨h,ho,fun i hi=>.inr (by simpa using List.all_eq_true.1 hall i (List.mem_range.2 hi)),by rw[List.map_nil,List.append_nil];exact M.drew _,by simp,by simp,fun j hj hjl=>by have:=hrep j hjl;omega,by simp,by simp,
  fun j o hj hjl=>by have:=hrep j hjl;have:=(Array.getElem?_eq_some_iff.1 hj).1;omega,F.ds,F.size,fun t v ht=>(F.val t v ht).1,fun t v ht=>.inl (F.val t v ht).2,by simp⟩
 exact wp_region_any mixed (wpAny_sh _ _ _ _ (pw_any hB hn hFl hEF ops.size _ a _ (by simp) (by simp[unlisted]) ⟨done',rest',l',L',ear',hp,hh⟩))
theorem sx_enterD {f:FuncId} {fn:Func} {c:Code} {vs:List Value} {w:World} {R:Ending→World→Prop} (hf:Tryz.prog.funcs[f]? = some fn) (hb:fn.body=some c) {n k:Nat} (hn:fn.ntmps=n) (hle:Nat.ble vs.length n=true) (hk0:n - vs.length=k)
  (h:∀ a,Fr a n (initL 0 vs)→c.wp Tryz.prog (bodyPostD Tryz.prog fn R) a w):Calls Tryz.prog f vs.toArray w R:=by
 have hk:vs.length+k=n:=by have:=Nat.le_of_ble_eq_true hle;omega
 subst hn
 refine calls_of_wp_defers hf hb (h _ ?_)
 have:=Fr.init vs k
 rw[hk] at this
 rw[show fn.ntmps - vs.toArray.size=k by simp;omega]
 exact this
def SpecD (k:FuncId) (us:List Value) (L:List Asn) (C:List Asn→Prop):Prop:=∀ G u w,Mem w (L++G)→CallsD Tryz.prog k us.toArray u w fun e u' w'=>u'=u∧∃ v L',e=.returned v∧C L'∧Mem w' (L'++G)
theorem sx_enterC {f:FuncId} {fn:Func} {c:Code} {vs:List Value} {u:FrameMode} {w:World} {R:Ending→World→Prop} (hf:Tryz.prog.funcs[f]? = some fn) (hb:fn.body=some c) {n k:Nat} (hn:fn.ntmps=n) (hle:Nat.ble vs.length n=true) (hk0:n - vs.length=k)
  (h:∀ a,Fr a n (initL 0 vs)→c.wp Tryz.prog (bodyPost Tryz.prog fn R) a w):CallsD Tryz.prog f vs.toArray u w fun e u' w'=>u'=u∧R e w':=by
 have hk:vs.length+k=n:=by have:=Nat.le_of_ble_eq_true hle;omega
 subst hn
 refine callsD_of_wp hf hb (h _ ?_)
 have:=Fr.init vs k
 rw[hk] at this
 rw[show fn.ntmps - vs.toArray.size=k by simp;omega]
 exact this
theorem sh_of (F:Fr a n l) (d:Deferred):({a with defers:=d::a.defers}:Act)=sh [d] a:=by
 have:=F.ds
 obtain ⟨t,ds⟩:=a
 simp only at this
 subst this;rfl
theorem svDefer {rest:List Oper} {o:Oper} (F:Fr a n l) {k:FuncId} {us:List Value} {fo:Operand} {xs:Array Operand} {ats:Array TypeId} (h:wpList Tryz.prog ops Q rest (sh [{target:=.fn (.func k) #[],args:=us.toArray}] a) w)
  (hw:Wanted o ops l=some true:=by exact rfl) (hd:o.dst=none:=by exact rfl) (ho:o.op=.defer {callee:=.value fo,args:=xs,argTypes:=ats}:=by exact rfl) (hf:evl l fo=some (.func (.func k) #[] #[]):=by exact rfl) (hx:evls l xs.toList=some us:=by exact rfl):wpList Tryz.prog ops Q (o::rest) a w:=by
 unfold wpList
 rw[if_pos (F.wanted hw)]
 refine .inl ?_
 unfold Oper.wp
 have e1:xs.map a.eval=us.toArray:=by have:=F.evals hx;apply Array.toList_inj.1;simpa using this
 have hr:(execOp a.eval o).run Tryz.prog w=.ok (.defer {target:=.fn (.func k) #[],args:=us.toArray}) w:=by
  unfold execOp
  rw[ho]
  simp[resolve,F.eval hf,Deferred.ofValue,e1]
 rw[hr]
 unfold Oper.upon
 rw[hd]
 show wpList Tryz.prog ops Q rest ({a with defers:=({target:=.fn (.func k) #[],args:=us.toArray}:Deferred)::a.defers}:Act) w
 rw[sh_of F]
 exact h
theorem svRetD {fn:Func} {R:Ending→World→Prop} {rs:List ResultVar} {vs:List Value} {v:Value} (F:Fr a n l) (M:Mem w L) (hR:R (.returned v) w) (hf:fn.results=rs.toArray:=by exact rfl) (hr:Ress L l rs vs:=by(first|(focus ((repeat (first|exact Ress.nil|(apply Ress.cons)|(apply Res.tmp;exact rfl)|(apply Res.agg;(exact rfl);(exact inferInstance);(exact pullA);(exact rfl))|(apply Res.one;(exact rfl);(exact inferInstance);(exact pullA);(exact rfl))));done))|fail)) (hv:tupOf vs=v:=by exact rfl):bodyPostD Tryz.prog fn R .ret a w:=by
 subst hv
 show Leaves _ _ _ _ _ _ _
 rw[F.ds]
 exact⟨_,hr.run F M hf,hR⟩
theorem end_sh {fn:Func} {R:Ending→World→Prop} {f:FuncId} [hfk:FK f] {us:List Value} {L1:List Asn} {C:List Asn→Prop} {rs:List ResultVar} {vs:List Value} (F:Fr a n l) (M:Mem w L) (hs:SpecD f us L1 C) {G:List Asn} (hp:Perms L (L1++G))
  (hf:fn.results=rs.toArray) (hr:∀ L',Ress (L'++G) l rs vs) (hR:∀ w' L',C L'→Mem w' (L'++G)→R (.returned (tupOf vs)) w'):bodyPostD Tryz.prog fn R .ret (sh [{target:=.fn (.func f) #[],args:=us.toArray}] a) w:=by
 have e:(sh [({target:=.fn (.func f) #[],args:=us.toArray}:Deferred)] a).defers=[{target:=.fn (.func f) #[],args:=us.toArray}]:=by simp[sh,F.ds]
 show Leaves _ _ _ _ _ _ _
 rw[e]
 refine leaves_cons (f:=f) (args:=us.toArray) (by simp) ?_ ?_
 ·have:=run_callFunc f us.toArray w
  simpa[invoke] using this
 ·refine(hs G .returning w (M.perms hp)).mono ?_
  rintro e u' w' ⟨rfl,v,L',rfl,hC,hM⟩
  exact⟨_,(show(results fn a.tmps).run Tryz.prog w'=_ from (hr L').run F hM hf),hR w' L' hC hM⟩
end
end
section
open Go.RowKit
def laterGo:Int→List Int→Int × Bool
 | s,[]=>(s,true)
 | s,n::t=>if n<0∨n>1099511627776 - s then (0,false) else laterGo (s+n) t
def laterF (a:Int) (l:List Int):Int:=(laterGo 0 (a::l)).1
def laterB (a:Int) (l:List Int):Bool:=(laterGo 0 (a::l)).2
theorem elemInt:ElemT Tryz.prog 24 3 (.int .i64 0) 1 8:=⟨Tryz.underlying24,by kernel_rfl,rfl,by decide⟩
theorem drop_get {zs:List Int} {k:Nat} (h:k<zs.length):zs.drop k=zs[k]::zs.drop (k+1):=List.drop_eq_getElem_cons h
theorem ret_ib {k:IntKind} {x y:Int} {p q:Bool} (h:x=y) (h':p=q):Ending.returned (.tuple #[.int k x,.bool p])=.returned (.tuple #[.int k y,.bool q]):=by rw[h,h']
theorem pair1 {α β:Type} {p:α × β} {a b:α} {c d:β} (h:p=(a,c)) (k:p=(b,d)):a=b:=by rw[h] at k;exact(Prod.mk.inj k).1
theorem pair2 {α β:Type} {p:α × β} {a b:α} {c d:β} (h:p=(a,c)) (k:p=(b,d)):c=d:=by rw[h] at k;exact(Prod.mk.inj k).2
set_option maxHeartbeats 1000000 in
theorem later_any (a:Int) (v:Value) (by':List Int) (w:World) (hv:SlR w 1 v by'.length (ints by')) (hl:by'.length≤1000000) (ha:-9223372036854775808≤a∧a≤9223372036854775807) (hr:∀ z∈by',-9223372036854775808≤z∧z≤9223372036854775807) :
  Calls Tryz.prog 286 #[.int .i64 a,v] w fun e w'=>e=.returned (.tuple #[.int .i64 (laterF a by'),.bool (laterB a by')])∧Below w.heap.size w w':=by
 have o0:(w.alloc (.cells #[.int .i64 a] 3)).ownsRow w.heap.size 3 1 (.slice (some ⟨w.heap.size,0,none⟩) 1 1) 1 [.int .i64 a]:=World.ownsRow_lit w #[.int .i64 a] 1 (Nat.le_refl _) (by decide) rfl
 have s0:=hv.below_all ((Below.refl w.heap.size w).alloc (Nat.le_refl _) (.cells #[.int .i64 a] 3))
 have c1:1+by'.length≤maxLen:=by unfold maxLen;omega
 have c2:(1+by'.length)*8≤140737488355328:=by omega
 have c3:w.heap.size≤(w.alloc (.cells #[.int .i64 a] 3)).heap.size:=by simp
 go_enter Tryz.func286,Tryz.ntmps286
 go_wp2_with (at_builtin;go_must (refine wpList_append_sl _ rfl _ _ _ rfl elemInt o0 rfl s0 rfl (ints_one by') c1 c2 c3 ?_);intro v1 w1 hown hgr _;have hs:=ownsRow_SlR hown;obtain ⟨b,off,cap,rfl,hb,hc⟩:=hs.openSome (by omega);clear o0 s0)
 have hcell:∀ j (h:j<(a::by').length),w1.cell? ⟨b,off+j,none⟩=some (.int .i64 (a::by')[j]):=fun j h=>hc j _ (by rw[show [Value.int .i64 a]++ints by'=ints (a::by') from rfl];exact ints_get h)
 have hbel:Below w.heap.size w w1:=((Below.refl _ _).alloc (Nat.le_refl _) _).grown hgr (by simp) (by simp[Value.ownBlock])
 have hfin:laterGo 0 (a::by')=(laterF a by',laterB a by'):=rfl
 have hlen:(a::by').length=1+by'.length:=by simp;omega
 have hrng:∀ z∈a::by',-9223372036854775808≤z∧z≤9223372036854775807:=by
  intro z hz
  rcases List.mem_cons.1 hz with rfl|hz
  ·exact ha
  ·exact hr z hz
 have HF:=Lib.hid hfin
 have HL:=Lib.hid hlen
 have HR:=Lib.hid hrng
 clear hc hgr hs hown hfin hlen hrng hr hv
 generalize a::by'=zs at *
 go_loop [6,8,14] (fun s _ i=>∃ (k:Nat) (x:Int),k≤zs.length∧0≤x∧x≤1099511627776∧i=.int .i64 k∧s=.int .i64 x∧laterGo 0 zs=laterGo x (zs.drop k)) (fun _ _ i=>(zs.length - (intOf i).toNat))
 case atStart=>exact⟨0,0,by omega,by omega,by omega,rfl,rfl,rfl⟩
 case round =>
  obtain ⟨k,x,hk,hx0,hx1,rfl,rfl,hinv⟩:=hrel
  by_cases hlt:k<zs.length
  ·have hcl:=hcell k hlt
   have hz:=HR.out zs[k] (List.getElem_mem hlt)
   rw[drop_get hlt,laterGo] at hinv
   have hlt':k<1+by'.length:=by rw[← HL.out];exact hlt
   clear hcell
   generalize zs[k]=z at *
   by_cases h1:z<0
   ·rw[if_pos (.inl h1)] at hinv
    have HI:=Lib.hid hinv
    clear hinv
    go_wp2
    go_ret2
    exact⟨ret_ib (pair1 HI.out HF.out) (pair2 HI.out HF.out),hbel⟩
   ·by_cases h2:1099511627776 - x<z
    ·rw[if_pos (.inr h2)] at hinv
     have HI:=Lib.hid hinv
     clear hinv
     go_wp2
     go_ret2
     exact⟨ret_ib (pair1 HI.out HF.out) (pair2 HI.out HF.out),hbel⟩
    ·rw[if_neg (by omega)] at hinv
     have HI:=Lib.hid hinv
     clear hinv
     go_wp2
     go_round
     case rel=>exact⟨k+1,x+z,by omega,by omega,by omega,by go_num,rfl,HI.out⟩
     case measure=>simp[intOf];omega
  ·have hge:1+by'.length≤k:=by rw[← HL.out];omega
   rw[List.drop_of_length_le (by omega),laterGo] at hinv
   have HI:=Lib.hid hinv
   clear hinv hcell
   go_wp2
   go_ret2
   exact⟨ret_ib (pair1 HI.out HF.out) (pair2 HI.out HF.out),hbel⟩
def maxGo:Int→List Int→Int
 | x,[]=>x
 | x,n::t=>maxGo (if x<n then n else x) t
def maxF:List Int→Int
 | []=>-1
 | n::t=>maxGo n t
set_option maxHeartbeats 1000000 in
theorem slicesMax_any (z:Int) (zs:List Int) (v:Value) (w:World) (hv:SlR w 1 v (z::zs).length (ints (z::zs))) (hl:(z::zs).length≤1000000) :
  Calls Tryz.prog 325 #[v] w fun e w'=>e=.returned (.int .i64 (maxF (z::zs)))∧w=w':=by
 obtain ⟨b,off,cap,rfl,hb,hc⟩:=hv.openSome (by simp)
 have hcell:∀ j (h:j<(z::zs).length),w.cell? ⟨b,off+j,none⟩=some (.int .i64 (z::zs)[j]):=fun j h=>hc j _ (ints_get h)
 have h0:w.cell? ⟨b,off,none⟩=some (.int .i64 z):=hcell 0 (by simp)
 have hfin:maxF (z::zs)=maxGo z ((z::zs).drop 1):=rfl
 have hpos:1≤(z::zs).length:=by simp
 have HF:=Lib.hid hfin
 clear hc hv hfin
 generalize z::zs=l at *
 generalize maxF l=r at *
 go_enter Tryz.func325,Tryz.ntmps325
 go_wp2
 go_loop [3,4] (fun m i=>∃ (k:Nat) (x:Int),1≤k∧k≤l.length∧i=.int .i64 k∧m=.int .i64 x∧r=maxGo x (l.drop k)) (fun _ i=>(l.length - (intOf i).toNat))
 case atStart=>exact⟨1,z,by omega,by omega,rfl,rfl,HF.out⟩
 case round =>
  obtain ⟨k,x,hk1,hk,rfl,rfl,hinv⟩:=hrel
  by_cases hlt:k<l.length
  ·have hcl:=hcell k hlt
   rw[drop_get hlt,maxGo] at hinv
   have HI:=Lib.hid hinv
   clear hcell hinv
   generalize l[k]=n at *
   go_wp2
   go_round
   case rel =>
    have HE:r=maxGo (max x n) (List.drop (k+1) l):=by
     rw[show max x n=(if x<n then n else x) by rw[Int.max_def];split<;>split<;>omega]
     exact HI.out
    first
    | exact⟨k+1,_,by omega,by omega,by go_num,rfl,HI.out⟩
    | exact⟨k+1,_,by omega,by omega,by go_num,rfl,HE⟩
   case measure=>simp[intOf];omega
  ·rw[List.drop_of_length_le (by omega),maxGo] at hinv
   have HI:=Lib.hid hinv
   clear hinv hcell
   go_wp2
   go_ret
   exact⟨by rw[HI.out];rfl,rfl⟩
set_option maxHeartbeats 1000000 in
theorem max_any (zs:List Int) (v:Value) (w:World) (hv:SlR w 1 v zs.length (ints zs)) (hl:zs.length≤1000000) :
  Calls Tryz.prog 293 #[v] w fun e w'=>e=.returned (.int .i64 (maxF zs))∧w=w':=by
 cases zs with
 | nil =>
  obtain ⟨⟨_,_,rfl⟩,_,_⟩|⟨b,off,cap,rfl,hb,_,hc⟩:=hv.parts
  all_goals
   go_enter Tryz.func293,Tryz.ntmps293
   go_wp2
   go_ret
   exact⟨rfl,rfl⟩
 | cons z zs =>
  have hc:=fun w' hw=>slicesMax_any z zs v w' hw hl
  obtain ⟨b,off,cap,rfl,hb,_⟩:=hv.openSome (by simp)
  have hpos:1≤(z::zs).length:=by simp
  generalize z::zs=l at *
  generalize maxF l=r at *
  go_enter Tryz.func293,Tryz.ntmps293
  go_wp2_with (go_at_call 325;refine(hc _ hv).mono ?_;rintro e w' ⟨rfl,rfl⟩)
  go_ret
  exact⟨rfl,rfl⟩
end
end Go.Proofs.YtopbohbkhljjgaaGreat
section
namespace Go.Proofs
open Go.Shelf
def Tryz.lays134_ren:Go.Shelf.Ren:=⟨fun|134=>342|129=>345|n=>n,fun|53=>23|3=>3|4=>4|46=>376|5=>5|9=>9|n=>n,fun|n=>n⟩
theorem Tryz.lays134:Go.Proofs.Lays.n134 Tryz.prog Tryz.lays134_ren:={
 mixed:=by kernel_rfl
 f129:=Tryz.func345.trans (congrArg some (by kernel_rfl))
 f134:=Tryz.func342.trans (congrArg some (by kernel_rfl))
 t3:=Tryz.underlying3
 a3:=Tryz.isAgg3
 z3:=Tryz.sizeOf3
 v3:=Tryz.zeroValue3
 t4:=Tryz.underlying4
 a4:=Tryz.isAgg4
 z4:=Tryz.sizeOf4
 v4:=Tryz.zeroValue4
 t5:=Tryz.underlying5
 a5:=Tryz.isAgg5
 z5:=Tryz.sizeOf5
 v5:=Tryz.zeroValue5
 t9:=Tryz.underlying9
 a9:=Tryz.isAgg9
 z9:=Tryz.sizeOf9
 v9:=Tryz.zeroValue9
 t46:=Tryz.underlying376
 a46:=Tryz.isAgg376
 z46:=Tryz.sizeOf376
 v46:=Tryz.zeroValue376
 t53:=Tryz.underlying23
 a53:=Tryz.isAgg23
 z53:=Tryz.sizeOf23
 v53:=Tryz.zeroValue23}
theorem Tryz.bits_LeadingZeros64 (x:Int) (w:World) (h0:0≤x) (h1:x≤18446744073709551615) :
  Calls Tryz.prog 342 #[.int .u64 x] w fun e w'=>e=.returned (.int .i64 (64 - (Lib.bitLen x.toNat:Int)))∧w'=w:=Any.bits_LeadingZeros64 Tryz.lays134 x w h0 h1
def Tryz.lays264_ren:Go.Shelf.Ren:=⟨fun|264=>341|n=>n,fun|53=>23|46=>376|n=>n,fun|n=>n⟩
theorem Tryz.lays264:Go.Proofs.Lays.n264 Tryz.prog Tryz.lays264_ren:={
 mixed:=by kernel_rfl
 f264:=Tryz.func341.trans (congrArg some (by kernel_rfl))
 t46:=Tryz.underlying376
 a46:=Tryz.isAgg376
 z46:=Tryz.sizeOf376
 v46:=Tryz.zeroValue376
 t53:=Tryz.underlying23
 a53:=Tryz.isAgg23
 z53:=Tryz.sizeOf23
 v53:=Tryz.zeroValue23}
open Go.RowKit Go.Lib in
theorem Tryz.bits_Mul64 (x y:Nat) (hx:x<18446744073709551616) (hy:y<18446744073709551616) (w:World) :
  Calls Tryz.prog 341 #[.int .u64 x,.int .u64 y] w fun e w'=>e=.returned (.tuple #[.int .u64 ((x*y / 18446744073709551616:Nat):Int),.int .u64 ((x*y % 18446744073709551616:Nat):Int)])∧w'=w:=Any.bits_Mul64 Tryz.lays264 x y hx hy w
end Go.Proofs
end
namespace Go.Proofs.YtopbohbkhljjgaaGreat
end Go.Proofs.YtopbohbkhljjgaaGreat
section
namespace Go.Proofs.YtopbohbkhljjgaaGreat.DM
theorem split_y {y yn1 yn0 q u r un1:Nat} (hy:y=yn1*4294967296+yn0) (hq:q*yn1+r=u) :
  q*y=(q*yn1)*4294967296+q*yn0∧u*4294967296+un1=(q*yn1)*4294967296+r*4294967296+un1:=by
 constructor
 ·rw[hy,Nat.mul_add,Nat.mul_assoc]
 ·rw[← hq,Nat.add_mul]
def Inv (y yn1 u un1 q r:Nat):Prop:=q*yn1+r=u∧(u*4294967296+un1) / y≤q∧q≤4294967297∧r<4294967296
theorem quot_lt {y u un1:Nat} (hu:u<y) (h1:un1<4294967296):(u*4294967296+un1) / y<4294967296:=by
 rw[Nat.div_lt_iff_lt_mul (by omega)]
 have:(u+1)*4294967296≤y*4294967296:=Nat.mul_le_mul_right _ (by omega)
 rw[Nat.mul_comm 4294967296 y]
 omega
theorem leG {a b c y:Nat} (h:b*c≤y):a*b*c≤a*y:=by rw[Nat.mul_assoc];exact Nat.mul_le_mul_left a h
theorem inv_start {y yn1 yn0 u un1:Nat} (hy:y=yn1*4294967296+yn0) (h0:yn0<4294967296) (hn:2147483648≤yn1) (hn':yn1<4294967296) (hu:u<y) (h1:un1<4294967296):Inv y yn1 u un1 (u / yn1) (u % yn1):=by
 have e:u / yn1*yn1+u % yn1=u:=by rw[Nat.mul_comm];exact Nat.div_add_mod u yn1
 have hr:u % yn1<yn1:=Nat.mod_lt _ (by omega)
 have h5:yn1*4294967296≤y:=by rw[hy];exact Nat.le_add_right _ _
 refine⟨e,?_,?_,by omega⟩
 ·have hlt:(u*4294967296+un1) / y<u / yn1+1:=by
   rw[Nat.div_lt_iff_lt_mul (by omega)]
   have h2:u<(u / yn1+1)*yn1:=by rw[Nat.add_mul];omega
   have h3:(u+1)*4294967296≤(u / yn1+1)*yn1*4294967296:=Nat.mul_le_mul_right _ (by omega:u+1≤(u / yn1+1)*yn1)
   have h4:(u / yn1+1)*yn1*4294967296≤(u / yn1+1)*y:=leG h5
   omega
  omega
 ·have:u / yn1<4294967298:=by
   rw[Nat.div_lt_iff_lt_mul (by omega)]
   omega
  omega
theorem test_iff {y yn1 yn0 u un1 q r:Nat} (hy:y=yn1*4294967296+yn0) (hq:q*yn1+r=u):(4294967296*r+un1<q*yn0)↔u*4294967296+un1<q*y:=by
 obtain ⟨h1,h2⟩:=split_y (un1:=un1) hy hq
 rw[h1,h2]
 omega
theorem over {y yn1 yn0 u un1 q r:Nat} (hy:y=yn1*4294967296+yn0) (hu:u<y) (h1:un1<4294967296) (hI:Inv y yn1 u un1 q r) (ht:4294967296≤q∨4294967296*r+un1<q*yn0) :
  1≤q∧(q - 1)*yn1+(r+yn1)=u∧(u*4294967296+un1) / y≤q - 1:=by
 obtain ⟨e,hle,hq,hr⟩:=hI
 have hlt:(u*4294967296+un1) / y<q:=by
  rcases ht with ht|ht
  ·exact Nat.lt_of_lt_of_le (quot_lt hu h1) ht
  ·rw[test_iff hy e] at ht
   rw[Nat.div_lt_iff_lt_mul (by omega)]
   exact ht
 have hq1:1≤q:=Nat.lt_of_le_of_lt (Nat.zero_le _) hlt
 refine⟨hq1,?_,Nat.le_sub_one_of_lt hlt⟩
 rw[Nat.sub_mul,Nat.one_mul]
 have:yn1≤q*yn1:=Nat.le_mul_of_pos_left _ hq1
 omega
theorem inv_next {y yn1 yn0 u un1 q r:Nat} (hy:y=yn1*4294967296+yn0) (hu:u<y) (h1:un1<4294967296) (hI:Inv y yn1 u un1 q r) (ht:4294967296≤q∨4294967296*r+un1<q*yn0) (hr:r+yn1<4294967296) :
  Inv y yn1 u un1 (q - 1) (r+yn1):=by
 obtain ⟨h2,h3,h4⟩:=over hy hu h1 hI ht
 exact⟨h3,h4,by have:=hI.2.2.1;omega,hr⟩
theorem at_end {y yn1 yn0 u un1 q r:Nat} (hy:y=yn1*4294967296+yn0) (hy0:0<y) (e:q*yn1+r=u) (hle:(u*4294967296+un1) / y≤q) (ht:¬4294967296*r+un1<q*yn0) :
  q=(u*4294967296+un1) / y:=by
 rw[test_iff hy e] at ht
 have:q≤(u*4294967296+un1) / y:=by rw[Nat.le_div_iff_mul_le hy0];omega
 omega
theorem at_break {y yn1 yn0 u un1 q r:Nat} (hy:y=yn1*4294967296+yn0) (h0:yn0<4294967296) (hu:u<y) (h1:un1<4294967296) (hI:Inv y yn1 u un1 q r) (ht:4294967296≤q∨4294967296*r+un1<q*yn0) (hr:4294967296≤r+yn1) :
  q - 1=(u*4294967296+un1) / y:=by
 obtain ⟨h2,h3,h4⟩:=over hy hu h1 hI ht
 refine at_end hy (by omega) h3 h4 ?_
 have hq:q - 1≤4294967296:=by have:=hI.2.2.1;omega
 have:(q - 1)*yn0≤4294967296*4294967295:=Nat.mul_le_mul hq (by omega)
 omega
theorem rest_eq {y u un1:Nat}:u*4294967296+un1 - (u*4294967296+un1) / y*y=(u*4294967296+un1) % y:=by
 have h:=Nat.div_add_mod (u*4294967296+un1) y
 have e:y*((u*4294967296+un1) / y)=(u*4294967296+un1) / y*y:=Nat.mul_comm _ _
 omega
theorem rest_le {y u un1:Nat}:(u*4294967296+un1) / y*y≤u*4294967296+un1:=Nat.div_mul_le_self _ _
theorem two_stepsG {B V y un0:Nat} (hy:0<y):(V*B+un0) / y=V / y*B+(V % y*B+un0) / y:=by
 have h:=Nat.div_add_mod V y
 have e:V*B+un0=y*(V / y*B)+(V % y*B+un0):=by
  rw[← Nat.mul_assoc,← Nat.add_assoc,← Nat.add_mul,h]
 rw[e,Nat.mul_add_div hy]
theorem two_steps {y u un1 un0:Nat} (hy:0<y) :
  ((u*4294967296+un1)*4294967296+un0) / y=(u*4294967296+un1) / y*4294967296+((u*4294967296+un1) % y*4294967296+un0) / y:=two_stepsG hy
theorem shiftedG {A hi lo d p q:Nat} (e1:q*p=A) (hp:0<p) (hq:0<q) (hlo:lo<A) (hd:hi<d) :
  (hi*p+lo / q)*A+lo*p % A=(hi*A+lo)*p∧hi*p+lo / q<d*p∧lo / q<p:=by
 have e2:lo*p / A=lo / q:=by rw[← e1,Nat.mul_div_mul_right _ _ hp]
 have e3:=Nat.div_add_mod (lo*p) A
 rw[e2,Nat.mul_comm] at e3
 have e4:lo / q<p:=by
  rw[Nat.div_lt_iff_lt_mul hq,Nat.mul_comm,e1];exact hlo
 refine⟨?_,?_,e4⟩
 ·rw[Nat.add_mul (hi*A) lo,Nat.add_mul (hi*p)]
  have:hi*p*A=hi*A*p:=Nat.mul_right_comm _ _ _
  omega
 ·have:(hi+1)*p≤d*p:=Nat.mul_le_mul_right _ hd
  rw[Nat.add_mul] at this
  omega
theorem shifted {hi lo d s:Nat} (hlo:lo<18446744073709551616) (hs:s≤63) (hd:hi<d) :
  (hi*2 ^ s+lo / 2 ^ (64 - s))*18446744073709551616+lo*2 ^ s % 18446744073709551616=(hi*18446744073709551616+lo)*2 ^ s∧hi*2 ^ s+lo / 2 ^ (64 - s)<d*2 ^ s∧lo / 2 ^ (64 - s)<2 ^ s :=
 shiftedG (by rw[← Nat.pow_add,show 64 - s+s=64 by omega]) (Nat.two_pow_pos s) (Nat.two_pow_pos _) hlo hd
theorem or_add {a b s:Nat} (hb:b<2 ^ s):(a*2 ^ s) ||| b=a*2 ^ s+b:=by
 rw[Nat.mul_comm,Nat.two_pow_add_eq_or_of_lt hb]
theorem norm_of {d:Nat} (h0:0<d) (h1:d<18446744073709551616):Lib.bitLen d≤64∧1≤Lib.bitLen d∧9223372036854775808≤d*2 ^ (64 - Lib.bitLen d)∧d*2 ^ (64 - Lib.bitLen d)<18446744073709551616:=by
 have hle:Lib.bitLen d≤64:=by
  have:=Lib.bitLenAux_bounds 64 d h1 (by omega)
  unfold Lib.bitLen
  by_cases h:Lib.bitLenAux 64 d≤64
  ·exact h
  ·exfalso
   have h2:2 ^ 64≤2 ^ (Lib.bitLenAux 64 d - 1):=Nat.pow_le_pow_right (by decide) (by omega)
   omega
 obtain ⟨h2,h3,h4⟩:=Lib.bitLenAux_bounds 64 d h1 (by omega)
 have e1:(2:Nat) ^ Lib.bitLen d*2 ^ (64 - Lib.bitLen d)=18446744073709551616:=by rw[← Nat.pow_add,show Lib.bitLen d+(64 - Lib.bitLen d)=64 by omega]
 have e2:(2:Nat) ^ (Lib.bitLen d - 1)*2 ^ (64 - Lib.bitLen d)=9223372036854775808:=by
  rw[← Nat.pow_add,show Lib.bitLen d - 1+(64 - Lib.bitLen d)=63 by unfold Lib.bitLen at *;omega]
 refine⟨hle,h2,?_,?_⟩
 ·rw[← e2];exact Nat.mul_le_mul_right _ h3
 ·rw[← e1];exact Nat.mul_lt_mul_of_pos_right h4 (Nat.two_pow_pos _)
theorem parts (U L:Nat):(U*4294967296+L / 4294967296)*4294967296+L % 4294967296=U*18446744073709551616+L:=by omega
structure Set (y yn1 yn0 u un1:Int):Prop where
 hy:y=yn1*4294967296+yn0
 n0:0≤yn0
 n0':yn0≤4294967295
 n1:2147483648≤yn1
 n1':yn1≤4294967295
 u0:0≤u
 uy:u<y
 v0:0≤un1
 v1:un1≤4294967295
def InvI (y yn1 u un1 q r:Int):Prop:=0≤q∧0≤r∧Inv y.toNat yn1.toNat u.toNat un1.toNat q.toNat r.toNat
theorem InvI.bd {y yn1 u un1 q r:Int} (h:InvI y yn1 u un1 q r):0≤q∧q≤4294967297∧0≤r∧r≤4294967295:=by
 obtain ⟨a,b,c⟩:=h
 have h1:=c.2.2.1
 have h2:=c.2.2.2
 exact⟨a,by omega,b,by omega⟩
section
variable {y yn1 yn0 u un1 q r:Int}
theorem Set.nat (h:Set y yn1 yn0 u un1):y.toNat=yn1.toNat*4294967296+yn0.toNat∧yn0.toNat<4294967296∧u.toNat<y.toNat∧un1.toNat<4294967296∧0<y.toNat:=by
 obtain ⟨h1,h2,h3,h4,h5,h6,h7,h8,h9⟩:=h
 refine⟨?_,?_,?_,?_,?_⟩<;>omega
theorem test_nat (h:Set y yn1 yn0 u un1) (hq:0≤q) (hr:0≤r):(4294967296*r+un1<q*yn0)↔4294967296*r.toNat+un1.toNat<q.toNat*yn0.toNat:=by
 have e:((q.toNat*yn0.toNat:Nat):Int)=q*yn0:=by
  rw[Int.natCast_mul,Int.toNat_of_nonneg hq,Int.toNat_of_nonneg h.n0]
 have:=h.v0
 omega
theorem start_I (h:Set y yn1 yn0 u un1):InvI y yn1 u un1 (u / yn1) (u % yn1):=by
 have h1:=h.nat
 have h4:=h.n1
 have h5:=h.n1'
 have hu:=h.u0
 refine⟨Int.ediv_nonneg hu (by omega),Int.emod_nonneg _ (by omega),?_⟩
 have:=inv_start h1.1 h1.2.1 (by omega:2147483648≤yn1.toNat) (by omega) h1.2.2.1 h1.2.2.2.1
 have e1:(u / yn1).toNat=u.toNat / yn1.toNat:=by
  have:u / yn1=((u.toNat / yn1.toNat:Nat):Int):=by rw[Int.natCast_ediv,Int.toNat_of_nonneg hu,Int.toNat_of_nonneg (by omega)]
  rw[this,Int.toNat_natCast]
 have e2:(u % yn1).toNat=u.toNat % yn1.toNat:=by
  have:u % yn1=((u.toNat % yn1.toNat:Nat):Int):=by rw[Int.natCast_emod,Int.toNat_of_nonneg hu,Int.toNat_of_nonneg (by omega)]
  rw[this,Int.toNat_natCast]
 rw[e1,e2]
 exact this
theorem over_I (h:Set y yn1 yn0 u un1) (hI:InvI y yn1 u un1 q r) (ht:4294967296≤q∨4294967296*r+un1<q*yn0):1≤q:=by
 have h1:=h.nat
 have ht':4294967296≤q.toNat∨4294967296*r.toNat+un1.toNat<q.toNat*yn0.toNat:=by
  rcases ht with ht|ht
  ·left;omega
  ·right;exact(test_nat h hI.1 hI.2.1).1 ht
 have:=(over h1.1 h1.2.2.1 h1.2.2.2.1 hI.2.2 ht').1
 omega
theorem next_I (h:Set y yn1 yn0 u un1) (hI:InvI y yn1 u un1 q r) (ht:4294967296≤q∨4294967296*r+un1<q*yn0) (hr:r+yn1≤4294967295):InvI y yn1 u un1 (q - 1) (r+yn1):=by
 have h1:=h.nat
 have hq:=over_I h hI ht
 have h4:=h.n1
 have ht':4294967296≤q.toNat∨4294967296*r.toNat+un1.toNat<q.toNat*yn0.toNat:=by
  rcases ht with ht|ht
  ·left;omega
  ·right;exact(test_nat h hI.1 hI.2.1).1 ht
 have hr0:=hI.2.1
 have h2:=inv_next h1.1 h1.2.2.1 h1.2.2.2.1 hI.2.2 ht' (by omega)
 refine⟨by omega,by omega,?_⟩
 rw[show(q - 1).toNat=q.toNat - 1 by omega,show(r+yn1).toNat=r.toNat+yn1.toNat by omega]
 exact h2
theorem quot_nat (h:Set y yn1 yn0 u un1):(u*4294967296+un1) / y=(((u.toNat*4294967296+un1.toNat) / y.toNat:Nat):Int):=by
 have h1:=h.u0
 have h2:=h.v0
 have h3:=h.uy
 rw[Int.natCast_ediv,Int.natCast_add,Int.natCast_mul,Int.toNat_of_nonneg h1,Int.toNat_of_nonneg h2,Int.toNat_of_nonneg (by omega)]
 rfl
theorem break_I (h:Set y yn1 yn0 u un1) (hI:InvI y yn1 u un1 q r) (ht:4294967296≤q∨4294967296*r+un1<q*yn0) (hr:4294967296≤r+yn1):q - 1=(u*4294967296+un1) / y:=by
 have h1:=h.nat
 have hq:=over_I h hI ht
 have h4:=h.n1
 have ht':4294967296≤q.toNat∨4294967296*r.toNat+un1.toNat<q.toNat*yn0.toNat:=by
  rcases ht with ht|ht
  ·left;omega
  ·right;exact(test_nat h hI.1 hI.2.1).1 ht
 have h2:=at_break h1.1 h1.2.1 h1.2.2.1 h1.2.2.2.1 hI.2.2 ht' (by omega)
 rw[quot_nat h,← h2]
 omega
theorem end_I (h:Set y yn1 yn0 u un1) (hI:InvI y yn1 u un1 q r) (ht:¬4294967296*r+un1<q*yn0):q=(u*4294967296+un1) / y:=by
 have h1:=h.nat
 have ht':=fun k=>ht ((test_nat h hI.1 hI.2.1).2 k)
 have h2:=at_end h1.1 h1.2.2.2.2 hI.2.2.1 hI.2.2.2.1 ht'
 rw[quot_nat h,← h2]
 have:=hI.1
 omega
end
end Go.Proofs.YtopbohbkhljjgaaGreat.DM
end
namespace Go.Proofs.YtopbohbkhljjgaaGreat
section
open Go.RowKit
theorem mul64 (x y:Nat) (hx:x<18446744073709551616) (hy:y<18446744073709551616) (w:World) :
  Calls Tryz.prog 341 #[.int .u64 x,.int .u64 y] w fun e w'=>e=.returned (.tuple #[.int .u64 ((x*y / 18446744073709551616:Nat):Int),.int .u64 ((x*y % 18446744073709551616:Nat):Int)])∧w=w' :=
 (Tryz.bits_Mul64 x y hx hy w).mono fun _ _ ⟨a,b⟩=>⟨a,b.symm⟩
theorem lz64 (x:Nat) (h1:x<18446744073709551616) (w:World) :
  Calls Tryz.prog 342 #[.int .u64 x] w fun e w'=>e=.returned (.int .i64 (64 - (Lib.bitLen x:Int)))∧w=w' :=
 (Tryz.bits_LeadingZeros64 x w (by omega) (by omega)).mono fun _ _ ⟨a,b⟩=>⟨by rw[a];rfl,b.symm⟩
theorem lz64s (x s:Nat) (h1:x<18446744073709551616) (w:World) (hs:Hid (s=64 - Lib.bitLen x)) :
  Calls Tryz.prog 342 #[.int .u64 x] w fun e w'=>e=.returned (.int .i64 (s:Int))∧w=w' :=
 (lz64 x h1 w).mono fun _ _ ⟨a,b⟩=>⟨by
  rw[a,hs.out]
  congr 2
  by_cases h:x=0
  ·subst h;rfl
  ·have:=DM.norm_of (by omega) h1;omega,b⟩
theorem u64_id {n:Int} (h0:0≤n) (h1:n<18446744073709551616):IntKind.u64.wrap n=n:=by
 simp only[IntKind.wrap,IntKind.bits,IntKind.signed];simp;omega
set_option maxHeartbeats 1000000 in
theorem div64_small (lo y:Nat) (hl:lo<18446744073709551616) (h0:0<y) (h1:y<18446744073709551616) (w:World) :
  Calls Tryz.prog 324 #[.int .u64 0,.int .u64 lo,.int .u64 y] w fun e w'=>(∃ r:Int,e=.returned (.tuple #[.int .u64 ((lo / y:Nat):Int),.int .u64 r]))∧Same w w':=by
 have hb1:((y:Int) == 0)=false:=by rw[beq_eq_false_iff_ne];omega
 have hq:IntKind.u64.wrap ((lo:Int) / y)=(lo:Int) / y:=u64_id (Int.ediv_nonneg (by omega) (by omega)) (by
  have:lo / y≤lo:=Nat.div_le_self _ _
  have:((lo / y:Nat):Int)≤lo:=by omega
  rw[Int.natCast_ediv] at this;omega)
 go_enter Tryz.func324,Tryz.ntmps324
 go_wp2_with fail
 go_quiet (fail)
 go_wp2
 go_ret2
 exact⟨⟨_,rfl⟩,Same.of⟩
set_option maxRecDepth 100000 in
set_option maxHeartbeats 4000000 in
theorem div64_big (hi lo y Y U L yn1 yn0 un1 un0 Q0 R0 Q R Q1 R1 Q2 F:Int) (s:Nat) (w:World)
  (hh:1≤hi) (h0:hi<y) (h1:y≤18446744073709551615) (l0:0≤lo) (hl:lo≤18446744073709551615) (L0:0≤L) (iL:L≤18446744073709551615)
  (HZ:Hid (∀ w:World,Calls Tryz.prog 342 #[.int .u64 y] w fun e w'=>e=.returned (.int .i64 (s:Int))∧w=w')) (hs63:s≤63) (hY:IntKind.u64.wrap (y*2 ^ s)=Y) (Y0:1≤Y) (iY1:Y≤18446744073709551615)
  (hyn1:Y / 4294967296=yn1) (hyn0:bits .and .u64 Y 4294967295=yn0) (iy1l:2147483648≤yn1) (iy1:yn1≤4294967295) (h0n:0≤yn0) (iy0:yn0≤4294967295)
  (hU:bits .or .u64 (IntKind.u64.wrap (hi*2 ^ s)) (lo / 2 ^ (64 - s))=U) (U0:0≤U) (hUY:U<Y)
  (hL:IntKind.u64.wrap (lo*2 ^ s)=L)
  (hun1:L / 4294967296=un1) (hun0:bits .and .u64 L 4294967295=un0) (u10:0≤un1) (iu1:un1≤4294967295) (u00:0≤un0) (iu0:un0≤4294967295)
  (HS1:Hid (DM.Set Y yn1 yn0 U un1)) (hQ0:U / yn1=Q0) (hQR:Q0*yn1=U - R0) (Q00:0≤Q0) (iQ0:Q0≤4294967297) (R00:0≤R0) (hR0:R0≤U) (HI0:Hid (DM.InvI Y yn1 U un1 Q0 R0)) (HQ:Hid ((U*4294967296+un1) / Y=Q))
  (R0':0≤R) (hRY:R<Y) (hRe:IntKind.u64.wrap (IntKind.u64.wrap (IntKind.u64.wrap (U*4294967296)+un1) - IntKind.u64.wrap (Q*Y))=R)
  (HS2:Hid (DM.Set Y yn1 yn0 R un0)) (hQ1:R / yn1=Q1) (hQR1:Q1*yn1=R - R1) (Q10:0≤Q1) (iQ1:Q1≤4294967297) (R10:0≤R1) (hR1:R1≤R) (HI1:Hid (DM.InvI Y yn1 R un0 Q1 R1)) (HQ2:Hid ((R*4294967296+un0) / Y=Q2))
  (Qn:0≤Q) (iQ:Q≤4294967295) (Q2n:0≤Q2) (iQ2:Q2≤4294967295) (HF:Hid (F=Q*4294967296+Q2)) :
  Calls Tryz.prog 324 #[.int .u64 hi,.int .u64 lo,.int .u64 y] w fun e w'=>(∃ r:Int,e=.returned (.tuple #[.int .u64 F,.int .u64 r]))∧Same w w':=by
 have hb1:(y == 0)=false:=by rw[beq_eq_false_iff_ne];omega
 have hb2:(hi == 0)=false:=by rw[beq_eq_false_iff_ne];omega
 have hb3:decide (y≤hi)=false:=by simp;omega
 have hmin:min s 64=s:=by omega
 have hmin2:min (64 - s) 64=64 - s:=by omega
 go_enter Tryz.func324,Tryz.ntmps324
 go_upto_block 0 with(go_at_call 342;refine(HZ.out _).mono ?_;rintro e w' ⟨rfl,rfl⟩)
 have HQ0:=Lib.hid hQ0
 clear hY hyn1 hyn0 hU hL hun1 hun0 hQ0 hQR hmin hmin2
 go_cut [15,16] (fun a _ wx=>a=.int .u64 Q∧wx=w)
 case first =>
  go_wp2_with fail
  go_loop [15,16] (fun a b=>∃ q r:Int,a=.int .u64 q∧b=.int .u64 r∧Hid (DM.InvI Y yn1 U un1 q r)) (fun a _=>(intOf a).toNat)
  case atStart=>exact⟨Q0,R0,by first|rfl|rw[HQ0.out],by first|go_num|(congr 1;omega),HI0⟩
  case round =>
   obtain ⟨q,r,rfl,rfl,HI⟩:=hrel
   obtain ⟨q0,iqu,r0,iru⟩:=HI.out.bd
   have hp0:0≤q*yn0:=Int.mul_nonneg q0 h0n
   by_cases hq:4294967296≤q
   ·by_cases hr:4294967296≤r+yn1
    ·have hQ:q - 1=Q:=(DM.break_I HS1.out HI.out (.inl hq) hr).trans HQ.out
     go_wp2_with fail
     go_meet
     exact⟨by first|rfl|rw[hQ],rfl⟩
    ·have ir:r+yn1≤4294967295:=by omega
     have HN:=Lib.hid (DM.next_I HS1.out HI.out (.inl hq) ir)
     clear hr
     go_wp2_with fail
     go_round
     case rel=>exact⟨q - 1,r+yn1,by go_num,by go_num,HN.out⟩
     case measure=>simp[intOf];omega
   ·have iq:q≤4294967295:=by omega
    clear hq
    have hp1:q*yn0≤18446744073709551615:=by
     have:q*yn0≤4294967295*4294967295:=Int.mul_le_mul iq iy0 h0n (by omega)
     omega
    by_cases hti:4294967296*r+un1<q*yn0
    ·have hq1:=DM.over_I HS1.out HI.out (.inr hti)
     by_cases hr:4294967296≤r+yn1
     ·have hQ:q - 1=Q:=(DM.break_I HS1.out HI.out (.inr hti) hr).trans HQ.out
      go_wp2_with fail
      go_meet
      exact⟨by first|rfl|rw[hQ],rfl⟩
     ·have ir:r+yn1≤4294967295:=by omega
      have HN:=Lib.hid (DM.next_I HS1.out HI.out (.inr hti) ir)
      clear hr
      go_wp2_with fail
      go_round
      case rel=>exact⟨q - 1,r+yn1,by go_num,by go_num,HN.out⟩
      case measure=>simp[intOf];omega
    ·have HQQ:Hid (q=Q):=(DM.end_I HS1.out HI.out hti).trans HQ.out
     go_wp2_with fail
     go_meet
     exact⟨by rw[HQQ.out],rfl⟩
 case rest =>
  obtain ⟨rfl,rfl⟩:=hcut
  go_upto_block 2 with(fail)
  have HQ1:=Lib.hid hQ1
  clear hRe hQ1 hQR1
  go_cut [18,16] (fun a _ wx=>a=.int .u64 Q2∧wx=wc)
  case first =>
   go_wp2_with fail
   go_loop [18,16] (fun a b=>∃ q r:Int,a=.int .u64 q∧b=.int .u64 r∧Hid (DM.InvI Y yn1 R un0 q r)) (fun a _=>(intOf a).toNat)
   case atStart=>exact⟨Q1,R1,by first|rfl|rw[HQ1.out],by first|go_num|(congr 1;omega),HI1⟩
   case round =>
    obtain ⟨q,r,rfl,rfl,HI⟩:=hrel
    obtain ⟨q0,iqu,r0,iru⟩:=HI.out.bd
    have hp0:0≤q*yn0:=Int.mul_nonneg q0 h0n
    by_cases hq:4294967296≤q
    ·by_cases hr:4294967296≤r+yn1
     ·have hQ:q - 1=Q2:=(DM.break_I HS2.out HI.out (.inl hq) hr).trans HQ2.out
      go_wp2_with fail
      go_meet
      exact⟨by first|rfl|rw[hQ],rfl⟩
     ·have ir:r+yn1≤4294967295:=by omega
      have HN:=Lib.hid (DM.next_I HS2.out HI.out (.inl hq) ir)
      clear hr
      go_wp2_with fail
      go_round
      case rel=>exact⟨q - 1,r+yn1,by go_num,by go_num,HN.out⟩
      case measure=>simp[intOf];omega
    ·have iq:q≤4294967295:=by omega
     clear hq
     have hp1:q*yn0≤18446744073709551615:=by
      have:q*yn0≤4294967295*4294967295:=Int.mul_le_mul iq iy0 h0n (by omega)
      omega
     by_cases hti:4294967296*r+un0<q*yn0
     ·have hq1:=DM.over_I HS2.out HI.out (.inr hti)
      by_cases hr:4294967296≤r+yn1
      ·have hQ:q - 1=Q2:=(DM.break_I HS2.out HI.out (.inr hti) hr).trans HQ2.out
       go_wp2_with fail
       go_meet
       exact⟨by first|rfl|rw[hQ],rfl⟩
      ·have ir:r+yn1≤4294967295:=by omega
       have HN:=Lib.hid (DM.next_I HS2.out HI.out (.inr hti) ir)
       clear hr
       go_wp2_with fail
       go_round
       case rel=>exact⟨q - 1,r+yn1,by go_num,by go_num,HN.out⟩
       case measure=>simp[intOf];omega
     ·have HQQ:Hid (q=Q2):=(DM.end_I HS2.out HI.out hti).trans HQ2.out
      go_wp2_with fail
      go_meet
      exact⟨by rw[HQQ.out],rfl⟩
  case rest =>
   obtain ⟨rfl,rfl⟩:=hcut
   go_wp2
   go_ret2
   exact⟨⟨_,by rw[HF.out];rfl⟩,Same.refl _⟩
theorem _root_.Int.emod_le_self_nat (a b:Nat):(a:Int) % (b:Int)≤a:=by
 have:=Nat.mod_le a b
 have e:((a % b:Nat):Int)=(a:Int) % (b:Int):=by simp
 omega
theorem mulpow (a s:Nat):(a:Int)*2 ^ s=((a*2 ^ s:Nat):Int):=by simp
theorem divpow (a s:Nat):(a:Int) / 2 ^ s=((a / 2 ^ s:Nat):Int):=by simp
theorem u64_mod (a:Nat):IntKind.u64.wrap (a:Int)=((a % 18446744073709551616:Nat):Int):=by
 simp only[IntKind.wrap,IntKind.bits,IntKind.signed];simp
theorem rem_wrap {U un1 Q Y R:Int} (h:U*4294967296+un1 - Q*Y=R) (h0:0≤R) (h1:R≤18446744073709551615) :
  IntKind.u64.wrap (IntKind.u64.wrap (IntKind.u64.wrap (U*4294967296)+un1) - IntKind.u64.wrap (Q*Y))=R:=by
 generalize Q*Y=P at *
 simp only[IntKind.wrap,IntKind.bits,IntKind.signed];simp;omega
theorem div64_mid (hi lo y s Y U L Q R Q2:Nat) (hz:1≤hi) (h0:hi<y) (hl:lo<18446744073709551616) (h1:y<18446744073709551616) (n3:9223372036854775808≤Y) (n4:Y<18446744073709551616) (hs63:s≤63)
  (HZ:Hid (∀ w:World,Calls Tryz.prog 342 #[.int .u64 y] w fun e w'=>e=.returned (.int .i64 (s:Int))∧w=w')) (hY:y*2 ^ s=Y)
  (hor:bits .or .u64 (IntKind.u64.wrap ((hi:Int)*2 ^ s)) ((lo:Int) / 2 ^ (64 - s))=(U:Int)) (s2:U<Y) (hL:IntKind.u64.wrap ((lo:Int)*2 ^ s)=(L:Int)) (hLlt:L<18446744073709551616)
  (hS1:DM.Set (Y:Int) ((Y / 4294967296:Nat):Int) ((Y % 4294967296:Nat):Int) (U:Int) ((L / 4294967296:Nat):Int)) (hq1:Q<4294967296) (hlt:R<Y)
  (hRe:IntKind.u64.wrap (IntKind.u64.wrap (IntKind.u64.wrap ((U:Int)*4294967296)+((L / 4294967296:Nat):Int)) - IntKind.u64.wrap ((Q:Int)*(Y:Int)))=(R:Int))
  (hQe:((U:Int)*4294967296+((L / 4294967296:Nat):Int)) / (Y:Int)=(Q:Int)) (hQ2:Q2=(R*4294967296+L % 4294967296) / Y) (w:World) :
  Calls Tryz.prog 324 #[.int .u64 hi,.int .u64 lo,.int .u64 y] w fun e w'=>(∃ r:Int,e=.returned (.tuple #[.int .u64 ((Q*4294967296+Q2:Nat):Int),.int .u64 r]))∧Same w w':=by
 have hS2:DM.Set (Y:Int) ((Y / 4294967296:Nat):Int) ((Y % 4294967296:Nat):Int) (R:Int) ((L % 4294967296:Nat):Int):=by constructor<;>omega
 have hq2:=DM.quot_lt (y:=Y) (u:=R) (un1:=L % 4294967296) hlt (Nat.mod_lt _ (by decide))
 rw[← hQ2] at hq2
 have hI1:=DM.start_I hS1
 have hI2:=DM.start_I hS2
 have b1:=hI1.bd
 have b2:=hI2.bd
 have m1:=Int.mul_ediv_add_emod (U:Int) ((Y / 4294967296:Nat):Int)
 have m2:=Int.mul_ediv_add_emod (R:Int) ((Y / 4294967296:Nat):Int)
 refine div64_big hi lo y Y U L ((Y / 4294967296:Nat):Int) ((Y % 4294967296:Nat):Int) ((L / 4294967296:Nat):Int) ((L % 4294967296:Nat):Int)
  ((U:Int) / ((Y / 4294967296:Nat):Int)) ((U:Int) % ((Y / 4294967296:Nat):Int)) Q R ((R:Int) / ((Y / 4294967296:Nat):Int)) ((R:Int) % ((Y / 4294967296:Nat):Int)) (Q2:Int)
  ((Q*4294967296+Q2:Nat):Int) s w (by omega) (by omega) (by omega) (by omega) (by omega) (by omega) (by omega) HZ hs63 ?_ (by omega) (by omega)
  (by simp) ?_ (by omega) (by omega) (by omega) (by omega) hor (by omega) (by omega) hL (by simp) ?_ (by omega) (by omega) (by omega) (by omega) hS1 rfl ?_ b1.1 b1.2.1 b1.2.2.1 ?_ hI1 ?_
  (by omega) (by omega) hRe hS2 rfl ?_ b2.1 b2.2.1 b2.2.2.1 ?_ hI2 ?_ (by omega) (by omega) (by omega) (by omega) ?_
 ·rw[mulpow,hY,u64_id (by omega) (by omega)]
 ·rw[show(4294967295:Int)=((2 ^ 32 - 1:Nat):Int) from rfl,bits_and_u64_nat _ _ (by omega) (by decide),Nat.and_two_pow_sub_one_eq_mod]
 ·rw[show(4294967295:Int)=((2 ^ 32 - 1:Nat):Int) from rfl,bits_and_u64_nat _ _ (by omega) (by decide),Nat.and_two_pow_sub_one_eq_mod]
 ·rw[Int.mul_comm];omega
 ·have:=Int.emod_le_self_nat U (Y / 4294967296);omega
 ·exact hQe
 ·rw[Int.mul_comm];omega
 ·have:=Int.emod_le_self_nat R (Y / 4294967296);omega
 ·show _=_;rw[hQ2];simp
 ·show _=_;omega
theorem div64_any (hi lo y:Nat) (h0:hi<y) (hl:lo<18446744073709551616) (h1:y<18446744073709551616) (w:World) :
  Calls Tryz.prog 324 #[.int .u64 hi,.int .u64 lo,.int .u64 y] w fun e w'=>(∃ r:Int,e=.returned (.tuple #[.int .u64 (((hi*18446744073709551616+lo) / y:Nat):Int),.int .u64 r]))∧Same w w':=by
 by_cases hz:hi=0
 ·subst hz
  simpa using div64_small lo y hl h0 h1 w
 ·obtain ⟨n1,n2,n3,n4⟩:=DM.norm_of (by omega:0<y) h1
  have hs63:64 - Lib.bitLen y≤63:=by omega
  have HZ:Hid (∀ w:World,Calls Tryz.prog 342 #[.int .u64 y] w fun e w'=>e=.returned (.int .i64 ((64 - Lib.bitLen y:Nat):Int))∧w=w'):=fun w=>lz64s y _ h1 w rfl
  generalize 64 - Lib.bitLen y=s at *
  obtain ⟨s1,s2,s3⟩:=DM.shifted hl hs63 h0
  have hor:bits .or .u64 (IntKind.u64.wrap ((hi:Int)*2 ^ s)) ((lo:Int) / 2 ^ (64 - s))=((hi*2 ^ s+lo / 2 ^ (64 - s):Nat):Int):=by
   have t1:hi*2 ^ s<18446744073709551616:=Nat.lt_of_le_of_lt (Nat.le_add_right _ _) (Nat.lt_trans s2 n4)
   have t2:lo / 2 ^ (64 - s)<18446744073709551616:=Nat.lt_of_le_of_lt (Nat.div_le_self _ _) hl
   rw[mulpow,divpow,u64_id (Int.natCast_nonneg _) (Int.ofNat_lt.2 t1),bits_or_u64_nat _ _ t1 t2,DM.or_add s3]
  generalize hY:y*2 ^ s=Y at *
  generalize hU:hi*2 ^ s+lo / 2 ^ (64 - s)=U at *
  have hL:IntKind.u64.wrap ((lo:Int)*2 ^ s)=((lo*2 ^ s % 18446744073709551616:Nat):Int):=by rw[mulpow,u64_mod]
  have hLlt:lo*2 ^ s % 18446744073709551616<18446744073709551616:=Nat.mod_lt _ (by decide)
  generalize lo*2 ^ s % 18446744073709551616=L at *
  have hS1:DM.Set (Y:Int) ((Y / 4294967296:Nat):Int) ((Y % 4294967296:Nat):Int) (U:Int) ((L / 4294967296:Nat):Int):=by constructor<;>omega
  have hq1:=DM.quot_lt (y:=Y) (u:=U) (un1:=L / 4294967296) s2 (by omega)
  have hQe:((U:Int)*4294967296+((L / 4294967296:Nat):Int)) / (Y:Int)=(((U*4294967296+L / 4294967296) / Y:Nat):Int):=by simp
  have hlt:(U*4294967296+L / 4294967296) % Y<Y:=Nat.mod_lt _ (by omega)
  have hR:=DM.rest_eq (y:=Y) (u:=U) (un1:=L / 4294967296)
  have hRle:=DM.rest_le (y:=Y) (u:=U) (un1:=L / 4294967296)
  have h2:=DM.two_steps (y:=Y) (u:=U) (un1:=L / 4294967296) (un0:=L % 4294967296) (by omega)
  have hX:(U*4294967296+L / 4294967296)*4294967296+L % 4294967296=(hi*18446744073709551616+lo)*2 ^ s:=(DM.parts U L).trans s1
  rw[hX,← hY,Nat.mul_div_mul_right _ _ (Nat.two_pow_pos s),hY] at h2
  rw[h2]
  have hRe:=rem_wrap (U:=U) (un1:=((L / 4294967296:Nat):Int)) (Q:=(((U*4294967296+L / 4294967296) / Y:Nat):Int)) (Y:=Y) (R:=(((U*4294967296+L / 4294967296) % Y:Nat):Int)) (by
   have e:(((U*4294967296+L / 4294967296) / Y*Y:Nat):Int)=(((U*4294967296+L / 4294967296) / Y:Nat):Int)*(Y:Int):=Int.natCast_mul _ _
   rw[← e,← hR];omega) (by omega) (by omega)
  exact div64_mid hi lo y s Y U L _ _ _ (by omega) h0 hl h1 n3 n4 hs63 HZ hY hor s2 hL hLlt hS1 hq1 hlt hRe hQe rfl w
end
section
open Go.RowKit
def mulB (a b d:Int):Bool:=decide (a*b<d*18446744073709551616)
def mulF (a b d:Int):Int:=if a*b<d*18446744073709551616 then a*b / d else 0
set_option maxHeartbeats 1000000 in
theorem product_any (a b:Int) (w:World) (ha0:0≤a) (ha:a≤18446744073709551615) (hb0:0≤b) (hb:b≤18446744073709551615) :
  Calls Tryz.prog 323 #[.int .u64 a,.int .u64 b] w fun e w'=>e=.returned (.agg #[.int .u64 (a*b / 18446744073709551616),.int .u64 (a*b % 18446744073709551616)])∧Below w.heap.size w w':=by
 have HM:Hid (∀ w,Calls Tryz.prog 341 #[.int .u64 a,.int .u64 b] w fun e w'=>e=.returned (.tuple #[.int .u64 (a*b / 18446744073709551616),.int .u64 (a*b % 18446744073709551616)])∧w=w'):=fun w=>by
  obtain ⟨x,rfl⟩:=Int.eq_ofNat_of_zero_le ha0
  obtain ⟨y,rfl⟩:=Int.eq_ofNat_of_zero_le hb0
  have:=mul64 x y (by omega) (by omega) w
  simpa using this
 generalize a*b / 18446744073709551616=hi at *
 generalize a*b % 18446744073709551616=lo at *
 go_enter Tryz.func323,Tryz.ntmps323
 go_wp2_with (go_at_call 341;refine(HM.out _).mono ?_;rintro e w' ⟨rfl,rfl⟩)
 refine bodyPost_ret (v:=.agg #[.int .u64 hi,.int .u64 lo]) (by simp[results,Tryz.results323,go_sem]) rfl ⟨rfl,?_⟩
 exact(Below.refl _ _).alloc (Nat.le_refl _) _
set_option maxHeartbeats 1000000 in
theorem mulDiv_no (a b d:Int) (w:World) (ha0:0≤a) (ha:a≤18446744073709551615) (hb0:0≤b) (hb:b≤18446744073709551615) (hd:d≤a*b / 18446744073709551616) :
  Calls Tryz.prog 290 #[.int .u64 a,.int .u64 b,.int .u64 d] w fun e w'=>e=.returned (.tuple #[.int .u64 0,.bool false])∧Below w.heap.size w w':=by
 have HP:=Lib.hid (fun w=>product_any a b w ha0 ha hb0 hb)
 generalize a*b / 18446744073709551616=hi at *
 generalize a*b % 18446744073709551616=lo at *
 go_enter Tryz.func290,Tryz.ntmps290
 go_wp2_with (go_at_call 323;refine(HP.out _).mono ?_;rintro e w1 ⟨rfl,hb1⟩)
 go_ret2
 exact⟨rfl,by refine Below.alloc hb1 hb1.size _⟩
set_option maxHeartbeats 1000000 in
theorem mulDiv_yes (a b d q:Int) (w:World) (ha0:0≤a) (ha:a≤18446744073709551615) (hb0:0≤b) (hb:b≤18446744073709551615) (hd:a*b / 18446744073709551616<d)
  (HD:Hid (∀ w,Calls Tryz.prog 324 #[.int .u64 (a*b / 18446744073709551616),.int .u64 (a*b % 18446744073709551616),.int .u64 d] w fun e w'=>(∃ r:Int,e=.returned (.tuple #[.int .u64 q,.int .u64 r]))∧Same w w')) :
  Calls Tryz.prog 290 #[.int .u64 a,.int .u64 b,.int .u64 d] w fun e w'=>e=.returned (.tuple #[.int .u64 q,.bool true])∧Below w.heap.size w w':=by
 have HP:=Lib.hid (fun w=>product_any a b w ha0 ha hb0 hb)
 generalize a*b / 18446744073709551616=hi at *
 generalize a*b % 18446744073709551616=lo at *
 go_enter Tryz.func290,Tryz.ntmps290
 go_wp2_with (first
  | (go_at_call 323;refine(HP.out _).mono ?_;rintro e w1 ⟨rfl,hb1⟩)
  | (go_at_call 324;refine(HD.out _).mono ?_;rintro e w2 ⟨⟨r,rfl⟩,hs⟩))
 go_ret2
 exact⟨rfl,(Below.alloc hb1 hb1.size _).trans (hs.below _)⟩
theorem mulDiv_any (a b d:Int) (w:World) (ha0:0≤a) (ha:a≤18446744073709551615) (hb0:0≤b) (hb:b≤18446744073709551615) (hd0:0≤d) (hd:d≤18446744073709551615) :
  Calls Tryz.prog 290 #[.int .u64 a,.int .u64 b,.int .u64 d] w fun e w'=>e=.returned (.tuple #[.int .u64 (mulF a b d),.bool (mulB a b d)])∧Below w.heap.size w w':=by
 unfold mulF mulB
 obtain ⟨x,rfl⟩:=Int.eq_ofNat_of_zero_le ha0
 obtain ⟨y,rfl⟩:=Int.eq_ofNat_of_zero_le hb0
 obtain ⟨z,rfl⟩:=Int.eq_ofNat_of_zero_le hd0
 have e:(x:Int)*(y:Int)=((x*y:Nat):Int):=(Int.natCast_mul _ _).symm
 by_cases h:(x:Int)*(y:Int)<(z:Int)*18446744073709551616
 ·rw[if_pos h,decide_eq_true h]
  refine mulDiv_yes _ _ _ _ w ha0 ha hb0 hb (by omega) ?_
  show ∀ w,_
  intro w
  have h2:=div64_any (x*y / 18446744073709551616) (x*y % 18446744073709551616) z (by omega) (Nat.mod_lt _ (by decide)) (by omega) w
  rw[show x*y / 18446744073709551616*18446744073709551616+x*y % 18446744073709551616=x*y by omega] at h2
  simpa using h2
 ·rw[if_neg h,decide_eq_false h]
  exact mulDiv_no _ _ _ w ha0 ha hb0 hb (by omega)
end
section
open Go.RowKit Go.Maps
theorem laidOutP:laidOutB Tryz.prog=true:=by kernel_rfl
theorem stepKeyed:Keyed Tryz.prog 259:=Keyed.of_law (deep_law_laid laidOutP (m:=3) (by decide) (of_decide_eq_true (by kernel_rfl)) (by kernel_rfl) (by kernel_rfl))
def stepV (a b:Int):Value:=.agg #[.int .i64 a,.int .i64 b]
theorem stepKey (a b:Int) (ha:(Lit.int .i64 a).wf=true) (hb:(Lit.int .i64 b).wf=true):∃ l,keyOf Tryz.prog 259 (stepV a b)=some l:=by
 have h1:Program.keyType Tryz.prog 259=true:=by kernel_rfl
 have h2:(stepV a b).formed Tryz.prog 259=true:=by kernel_rfl
 have h3:Tryz.prog.keyLits (Tryz.prog.types.size+1) 259 (stepV a b).cells.toList=some [.int .i64 a,.int .i64 b]:=by
  have c1:Tryz.prog.cellsOf 259=2:=by kernel_rfl
  have c2:Tryz.prog.cellsOf 3=1:=by kernel_rfl
  have fuel:∃ n,Tryz.prog.types.size+1=n+2:=⟨Tryz.prog.types.size - 1,by have:Tryz.prog.types.size≠0:=(by decide +kernel:Tryz.prog.types.size≠0);omega⟩
  obtain ⟨n,hn⟩:=fuel
  rw[hn]
  simp[Program.keyLits,Tryz.underlying259,Tryz.underlying3,stepV,Value.cells,c1,c2,ha,hb,List.mapM_cons]
 refine⟨.string (keyBytes [.int .i64 a,.int .i64 b]),?_⟩
 unfold keyOf
 rw[Tryz.underlying259]
 simp only[h1,h2,h3,Bool.and_self,if_true,Option.map_some]
theorem wf_small (n:Int) (h0:0≤n) (h1:n≤100):(Lit.int .i64 n).wf=true:=WalkArith.wf_i64 (by omega)
theorem run_build_step (A:Act) (o:Oper) (a b:Int) (ho:o.op=.build 259 #[(0,.const (.int .i64 a)),(1,.const (.int .i64 b))]) (w':World):(execOp A.eval o).run Tryz.prog w'=.ok (.value (stepV a b)) w':=by
 have hb:Tryz.prog.built 259 [(0,.int .i64 a),(1,.int .i64 b)]=some #[.int .i64 a,.int .i64 b]:=by kernel_rfl
 unfold execOp
 simp only[ho]
 simp[Act.eval,run_build w' _ _ _ hb,stepV]
def stepMap:List (Value × Value):=[(stepV 1 1,.int .i64 2),(stepV 2 2,.int .i64 3),(stepV 3 3,.int .i64 4),(stepV 4 4,.int .i64 5),(stepV 5 5,.int .i64 6),(stepV 2 6,.int .i64 7),(stepV 2 7,.int .i64 3),(stepV 3 7,.int .i64 3),(stepV 4 7,.int .i64 4),(stepV 5 7,.int .i64 4)]
def stepKs:List Lk:=.make::(stepMap.flatMap fun p=>[.val,.ins p.1 p.2])++[.val,.val]
set_option maxHeartbeats 1000000 in
theorem table_any (w:World) :
  Calls Tryz.prog 189 #[] w fun e w'=>e=.returned (.map (some w.heap.size))∧Below w.heap.size w w'∧MapIs Tryz.prog 259 w' w.heap.size stepMap:=by
 go_enter Tryz.func189,Tryz.ntmps189
 go_wp2_with fail
 refine wp_region_map Tryz.underlying256 stepKeyed 1 0 stepKs #[.map (some w.heap.size),.map (some w.heap.size),stepV 1 1,stepV 2 2,stepV 3 3,stepV 4 4,stepV 5 5,stepV 2 6,stepV 2 7,stepV 3 7,stepV 4 7,stepV 5 7,.map (some w.heap.size)] (by kernel_rfl) (by kernel_rfl) (by kernel_rfl) rfl ?_ rfl ?_ ?_ (by decide) ?_
 ·exact rest_of [(0,.map (some w.heap.size)),(1,.map (some w.heap.size)),(2,stepV 1 1),(3,stepV 2 2),(4,stepV 3 3),(5,stepV 4 4),(6,stepV 5 5),(7,stepV 2 6),(8,stepV 2 7),(9,stepV 3 7),(10,stepV 4 7),(11,stepV 5 7),(12,.map (some w.heap.size))] (by kernel_rfl) [0,1,2,3,4,5,6,7,8,9,10,11,12] rfl (by kernel_rfl)
 ·have val:∀ {o:Oper} {v:Value} {d:Tmp} {A:Act} {i:Nat},o.guard=none→o.dst=some d→v=A.tmps.getD d undef→(∀ w',(execOp A.eval o).run Tryz.prog w'=.ok (.value v) w')→i≠0→LitOp Tryz.prog A 1 256 259 0 o .val∧(Lk.val=.make↔i=0) :=
   fun h1 h2 h3 h4 h5=>⟨⟨h1,_,fun d hd=>(by rw[h2] at hd;cases hd;exact h3),h4⟩,by simp[h5]⟩
  have ins:∀ {o:Oper} {k v:Value} {kx vx:Operand} {A:Act} {i:Nat},o.op=.insert 256 (.tmp 1) kx vx→o.dst=none→o.guard=none→A.eval kx=k→A.eval vx=v→(o.after.toList.any fun e=>Region.binds .any e && e.on == 0)=true→(∃ l,keyOf Tryz.prog 259 k=some l)→i≠0 →
    LitOp Tryz.prog A 1 256 259 0 o (.ins k v)∧(Lk.ins k v=.make↔i=0):=fun h1 h2 h3 h4 h5 h6 h7 h8=>⟨⟨_,_,h1,h2,h3,h4,h5,h6,h7⟩,by simp[h8]⟩
  refine⟨⟨⟨rfl,rfl,rfl⟩,by simp⟩,?_⟩
  iterate 10 refine⟨val rfl rfl rfl (run_build_step _ _ _ _ rfl) (by omega),⟨ins rfl rfl rfl rfl rfl (by kernel_rfl) (stepKey _ _ (wf_small _ (by omega) (by omega)) (wf_small _ (by omega) (by omega))) (by omega),?_⟩⟩
  exact⟨val rfl rfl rfl (fun w'=>rfl) (by omega),⟨val rfl rfl rfl (fun w'=>rfl) (by omega),trivial⟩⟩
 ·show(stepMap.map (·.1)).Nodup
  simp[stepMap,stepV]
 ·intro w' hb hs hM
  go_wp2
  go_ret
  exact⟨rfl,hb,hM⟩
def nextF (s e:Int):Int :=
 if e=7 then (if s=2∨s=3 then 3 else if s=4∨s=5 then 4 else 0)
 else if e=6∧s=2 then 7
 else if 1≤e∧e≤5∧s=e then s+1 else 0
theorem step_in {s e:Int} (h:nextF s e≠0):(stepV s e,.int .i64 (nextF s e))∈stepMap:=by
 unfold nextF at *
 by_cases h7:e=7
 ·subst h7
  rw[if_pos rfl] at *
  by_cases h1:s=2∨s=3
  ·rw[if_pos h1];rcases h1 with rfl|rfl<;>simp[stepMap]
  ·rw[if_neg h1] at *
   by_cases h2:s=4∨s=5
   ·rw[if_pos h2];rcases h2 with rfl|rfl<;>simp[stepMap]
   ·rw[if_neg h2] at h;exact absurd rfl h
 ·rw[if_neg h7] at *
  by_cases h6:e=6∧s=2
  ·rw[if_pos h6];obtain ⟨rfl,rfl⟩:=h6;simp[stepMap]
  ·rw[if_neg h6] at *
   by_cases h5:1≤e∧e≤5∧s=e
   ·rw[if_pos h5]
    obtain ⟨h1,h2,rfl⟩:=h5
    have:s=1∨s=2∨s=3∨s=4∨s=5:=by omega
    rcases this with rfl|rfl|rfl|rfl|rfl<;>simp[stepMap]
   ·rw[if_neg h5] at h;exact absurd rfl h
theorem step_out {s e:Int} (h:nextF s e=0):∀ p∈stepMap,p.1≠stepV s e:=by
 intro p hp hk
 have hcase:(s=1∧e=1)∨(s=2∧e=2)∨(s=3∧e=3)∨(s=4∧e=4)∨(s=5∧e=5)∨(s=2∧e=6)∨(s=2∧e=7)∨(s=3∧e=7)∨(s=4∧e=7)∨(s=5∧e=7):=by
  simp only[stepMap,List.mem_cons,List.not_mem_nil,or_false] at hp
  rcases hp with rfl|rfl|rfl|rfl|rfl|rfl|rfl|rfl|rfl|rfl<;>simp[stepV] at hk<;>omega
 rcases hcase with⟨rfl,rfl⟩|⟨rfl,rfl⟩|⟨rfl,rfl⟩|⟨rfl,rfl⟩|⟨rfl,rfl⟩|⟨rfl,rfl⟩|⟨rfl,rfl⟩|⟨rfl,rfl⟩|⟨rfl,rfl⟩|⟨rfl,rfl⟩<;>simp[nextF] at h
set_option maxHeartbeats 1000000 in
theorem next_status (s e:Int) (hs:(Lit.int .i64 s).wf=true) (he:(Lit.int .i64 e).wf=true) (w:World) :
  Calls Tryz.prog 271 #[.int .i64 s,.int .i64 e] w fun r w'=>r=.returned (.tuple #[.int .i64 (nextF s e),.bool (nextF s e != 0)])∧Below w.heap.size w w':=by
 obtain ⟨l,hl⟩:=stepKey s e hs he
 have HLK:Hid (∀ w1 b,MapIs Tryz.prog 259 w1 b stepMap→(Instr.lookup 256 (.map (some b)) (.agg #[.int .i64 s,.int .i64 e]) true).run Tryz.prog w1=.ok (.tuple #[.int .i64 (nextF s e),.bool (nextF s e != 0)]) w1):=fun w1 b hM=>by
  by_cases h:nextF s e=0
  ·have:=run_lookup_miss (z:=.int .i64 0) Tryz.underlying256 stepKeyed hl hM (step_out h) (by kernel_rfl) true
   rw[h];exact this
  ·have:=run_lookup_hit Tryz.underlying256 stepKeyed hl hM (step_in h) true
   rw[show(nextF s e != 0)=true by simpa using h];exact this
 generalize nextF s e=x at *
 clear hl hs he
 go_enter Tryz.func271,Tryz.ntmps271
 go_wp2_with fail
 refine(table_any _).mono ?_
 rintro r w1 ⟨rfl,hb,hM⟩
 have hlk:=HLK.out w1 _ hM
 go_wp2_with fail
 go_ret2
 exact⟨rfl,hb⟩
end
section
open Go.RowKit
structure Val where
 bal:Int
 st:Int
 sl:Bool
 rq:Int
 ex:Int
 wd:Int
 dl:Int
def Val.cells (v:Val):Array Value:=#[.int .u64 v.bal,.int .i64 v.st,.bool v.sl,.int .i64 v.rq,.int .i64 v.ex,.int .i64 v.wd,.int .i64 v.dl]
def Val.zero:Val:=⟨0,0,false,0,0,0,0⟩
def Val.wf (v:Val):Prop:=(0≤v.bal∧v.bal≤18446744073709551615)∧(Lit.int .i64 v.st).wf=true∧(Lit.int .i64 v.rq).wf=true∧(Lit.int .i64 v.ex).wf=true∧(Lit.int .i64 v.wd).wf=true∧(Lit.int .i64 v.dl).wf=true
def VFacts (w:World) (b:Nat) (bal st rq ex wd dl:Int) (sl:Bool):Prop :=
 w.cell? ⟨b,0,none⟩=some (.int .u64 bal)∧w.cell? ⟨b,1,none⟩=some (.int .i64 st)∧w.cell? ⟨b,2,none⟩=some (.bool sl)∧w.cell? ⟨b,3,none⟩=some (.int .i64 rq)∧w.cell? ⟨b,4,none⟩=some (.int .i64 ex)∧w.cell? ⟨b,5,none⟩=some (.int .i64 wd)∧w.cell? ⟨b,6,none⟩=some (.int .i64 dl) ∧
 w.frozen? ⟨b,0,none⟩=false∧w.frozen? ⟨b,1,none⟩=false∧w.frozen? ⟨b,2,none⟩=false∧w.frozen? ⟨b,3,none⟩=false∧w.frozen? ⟨b,4,none⟩=false∧w.frozen? ⟨b,5,none⟩=false∧w.frozen? ⟨b,6,none⟩=false
theorem vfacts {w:World} {b:Nat} {bal st rq ex wd dl:Int} {sl:Bool} (h:BlockIs w b (Val.cells ⟨bal,st,sl,rq,ex,wd,dl⟩) 48):VFacts w b bal st rq ex wd dl sl :=
 ⟨h.cell (i:=0) rfl,h.cell (i:=1) rfl,h.cell (i:=2) rfl,h.cell (i:=3) rfl,h.cell (i:=4) rfl,h.cell (i:=5) rfl,h.cell (i:=6) rfl,h.free 0,h.free 1,h.free 2,h.free 3,h.free 4,h.free 5,h.free 6⟩
theorem Upd.drew {S:List Nat} {a w:World} (h:Upd S a w):Upd S a w.drew:=⟨h.os,h.tape,h.output,h.size,h.block⟩
theorem BlockIs.drew {w:World} {b:Nat} {c:Array Value} {t:TypeId} (h:BlockIs w b c t):BlockIs w.drew b c t:=h
theorem BlockIs.other {w:World} {b:Nat} {c:Array Value} {t:TypeId} (h:BlockIs w b c t) {b':Nat} (hne:b≠b') (i:Nat) (v:Value):BlockIs (w.setCell ⟨b',i,none⟩ v) b c t :=
 h.of (Below.heap_setCell _ _ _ _ hne)
theorem BlockIs.new' {w:World} {n:Nat} {c:Array Value} {t:TypeId} (h:n=w.heap.size):BlockIs (w.alloc (.cells c t)) n c t:=by subst h;exact BlockIs.new w c t
structure Cfg where
 capacity:Int
 queueSize:Int
 minDeposit:Int
 maxDeposit:Int
 supplyCap:Int
 minBalance:Int
 maxBalance:Int
 minChurn:Int
 quotient:Int
 forcedCap:Int
 unbonding:Int
 slashDelay:Int
 ringLen:Int
 epochLen:Int
 visits:Int
 payments:Int
 partials:Int
 merges:Int
 penNum:Int
 penDen:Int
def Cfg.cells (c:Cfg):Array Value:=#[.int .i64 c.capacity,.int .i64 c.queueSize,.int .u64 c.minDeposit,.int .u64 c.maxDeposit,.int .u64 c.supplyCap,.int .u64 c.minBalance,.int .u64 c.maxBalance,.int .u64 c.minChurn,.int .u64 c.quotient,.int .u64 c.forcedCap,
 .int .i64 c.unbonding,.int .i64 c.slashDelay,.int .i64 c.ringLen,.int .i64 c.epochLen,.int .i64 c.visits,.int .i64 c.payments,.int .i64 c.partials,.int .i64 c.merges,.int .u64 c.penNum,.int .u64 c.penDen]
def Cfg.ints (c:Cfg):List Int:=[c.capacity,c.queueSize,c.unbonding,c.slashDelay,c.ringLen,c.epochLen,c.visits,c.payments,c.partials,c.merges]
def Cfg.amounts (c:Cfg):List Int:=[c.minDeposit,c.maxDeposit,c.supplyCap,c.minBalance,c.maxBalance,c.minChurn,c.quotient,c.forcedCap,c.penNum,c.penDen]
def Cfg.wf (c:Cfg):Prop:=(∀ x∈c.ints,(Lit.int .i64 x).wf=true)∧∀ x∈c.amounts,0≤x∧x≤18446744073709551615
theorem BlockIs.below_all {w w':World} {b:Nat} {c:Array Value} {t:TypeId} (h:BlockIs w b c t) (hu:Below w.heap.size w w'):BlockIs w' b c t:=h.below hu h.lt
end
section
open Go.RowKit
def foldG {σ:Type}:List (Val→σ→Int × Val × σ)→Val→σ→Int × Val × σ
 | [],v,s=>(0,v,s)
 | g::gs,v,s=>if (g v s).1=0 then foldG gs (g v s).2.1 (g v s).2.2 else ((g v s).1,Val.zero,(g v s).2.2)
def ChgRun {σ:Type} (N C:List Nat) (I:σ→World→Prop) (p:FuncId × Array Value) (G:Val→σ→Int × Val × σ):Prop :=
 (∀ args w,(callFunc p.1 args).run Tryz.prog w=.ok (.enter p.1 args) w)∧∀ w b v s,I s w→BlockIs w b v.cells 48→b∉N→v.wf →
  ((G v s).1=0→(G v s).2.1.wf)∧Calls Tryz.prog p.1 (#[.pointer (some ⟨b,0,none⟩)]++p.2) w fun r w'=>r=.returned (.int .i64 (G v s).1)∧Upd (b::C) w w'∧I (G v s).2.2 w'∧((G v s).1=0→BlockIs w' b (G v s).2.1.cells 48)
def Chgs {σ:Type} (N C:List Nat) (I:σ→World→Prop):List (FuncId × Array Value)→List (Val→σ→Int × Val × σ)→Prop
 | [],[]=>True
 | p::ps,g::gs=>ChgRun N C I p g∧Chgs N C I ps gs
 | _,_=>False
theorem Chgs.len {σ:Type} {N C:List Nat} {I:σ→World→Prop}:∀ {ps:List (FuncId × Array Value)} {gs:List (Val→σ→Int × Val × σ)},Chgs N C I ps gs→ps.length=gs.length
 | [],[],_=>rfl
 | _::_,_::_,h=>by simp[Chgs.len h.2]
 | [],_::_,h=>h.elim
 | _::_,[],h=>h.elim
theorem Chgs.at {σ:Type} {N C:List Nat} {I:σ→World→Prop}:∀ {ps:List (FuncId × Array Value)} {gs:List (Val→σ→Int × Val × σ)},Chgs N C I ps gs→∀ (k:Nat) (h1:k<ps.length) (h2:k<gs.length),ChgRun N C I ps[k] gs[k]
 | [],[],_,_,h1,_=>absurd h1 (Nat.not_lt_zero _)
 | _::_,_::_,h,0,_,_=>h.1
 | _::_,_::_,h,k+1,h1,h2=>Chgs.at h.2 k (by simpa using h1) (by simpa using h2)
 | [],_::_,h,_,_,_=>h.elim
 | _::_,[],h,_,_,_=>h.elim
theorem ret_vi {cs cs':Array Value} {k:IntKind} {x y:Int} (h:cs=cs') (h':x=y):Ending.returned (.tuple #[.agg cs,.int k x])=.returned (.tuple #[.agg cs',.int k y]):=by rw[h,h']
theorem upd_new {C:List Nat} {w wr w1:World} (h:Upd C w wr) (k:Upd (w.heap.size::C) wr w1):Upd C w w1 :=
 ⟨k.os.trans h.os,k.tape.trans h.tape,k.output.trans h.output,Nat.le_trans h.size k.size,fun i hi hn=>(k.block i (Nat.lt_of_lt_of_le hi h.size) (by simp;exact⟨by omega,hn⟩)).trans (h.block i hi hn)⟩
theorem upd_set_new {C:List Nat} {w w1:World} (h:Upd C w w1) {b:Nat} (hb:w.heap.size≤b) (i:Nat) (v:Value):Upd C w (w1.setCell ⟨b,i,none⟩ v) :=
 ⟨h.os,h.tape,h.output,by simpa[World.setCell] using h.size,fun k hk hn=>(Below.heap_setCell _ _ _ _ (by show k≠b;omega)).trans (h.block k hk hn)⟩
set_option maxHeartbeats 2000000 in
theorem apply_any {σ:Type} (N C:List Nat) (I:σ→World→Prop) (ps:List (FuncId × Array Value)) (gs:List (Val→σ→Int × Val × σ)) (hc:Chgs N C I ps gs) (v:Val) (s:σ) (b off cap:Nat) (w:World) (hv:v.wf)
  (hI:I s w) (hst:∀ s w w',I s w→Below w.heap.size w w'→I s w') (hst':∀ s wr (i:Nat) (x:Value),I s wr→I s (wr.setCell ⟨w.heap.size+1,i,none⟩ x)) (hC:∀ c∈N,c<w.heap.size) (hC':∀ c∈C,c<w.heap.size)
  (hsl:∀ s w,I s w→∀ j (h:j<ps.length),w.cell? ⟨b,off+j,none⟩=some (.func (.func ps[j].1) #[] ps[j].2)) (hlen:ps.length≤1000) :
  Calls Tryz.prog 217 #[.agg v.cells,.slice (some ⟨b,off,none⟩) ps.length cap] w fun r w'=>r=.returned (.tuple #[.agg (foldG gs v s).2.1.cells,.int .i64 (foldG gs v s).1])∧Upd C w w'∧I (foldG gs v s).2.2 w':=by
 have HGL:=Lib.hid hc.len
 have hfin:foldG gs v s=foldG (gs.drop 0) v s:=rfl
 generalize foldG gs v s=R at *
 have hI0:=hst _ _ _ hI (((Below.refl w.heap.size w).alloc (Nat.le_refl _) (.cells v.cells 48)).alloc (by simp) (.cells Val.zero.cells 48))
 have hstart:∃ v' s',BlockIs ((w.alloc (.cells v.cells 48)).alloc (.cells Val.zero.cells 48)) w.heap.size v'.cells 48∧BlockIs ((w.alloc (.cells v.cells 48)).alloc (.cells Val.zero.cells 48)) (w.heap.size+1) Val.zero.cells 48 ∧
   I s' ((w.alloc (.cells v.cells 48)).alloc (.cells Val.zero.cells 48))∧Upd C w ((w.alloc (.cells v.cells 48)).alloc (.cells Val.zero.cells 48))∧v'.wf∧R=foldG (gs.drop 0) v' s' :=
  ⟨v,s,(BlockIs.new w _ _).alloc _,by have:=BlockIs.new (w.alloc (.cells v.cells 48)) Val.zero.cells 48;simpa using this,hI0,((Upd.refl _ _).alloc _).alloc _,hv,hfin⟩
 have HS:=Lib.hid hstart
 have HSL:=Lib.hid hsl
 have HC:=Lib.hid hc
 have HCC:=Lib.hid hC
 have HCD:=Lib.hid hC'
 have HST:=Lib.hid hst'
 clear hst' hstart hfin hI0 hI hst hc hsl hC hv
 obtain ⟨bal,st,sl,rq,ex,wd,dl⟩:=v
 simp only[Val.cells,Val.zero] at HS
 unfold Val.cells
 simp only[]
 go_enter Tryz.func217,Tryz.ntmps217
 go_wp2
 go_loopw [7,8,11] (fun _ _ i wr=>∃ (k:Nat) (v':Val) (s':σ),k≤ps.length∧i=.int .i64 k∧BlockIs wr w.heap.size v'.cells 48∧BlockIs wr (w.heap.size+1) Val.zero.cells 48∧I s' wr∧Upd C w wr∧v'.wf∧Hid (R=foldG (gs.drop k) v' s')) (fun _ _ i _=>ps.length - (intOf i).toNat)
 case atStart =>
  obtain ⟨v',s',h1,h2,h3,h4,h5,h6⟩:=HS.out
  exact⟨0,v',s',by omega,rfl,h1,h2,h3,h4,h5,h6⟩
 case round =>
  obtain ⟨k,v',s',hk,rfl,hb1,hb2,hI,hU,hw,HF⟩:=hrel
  clear HS
  by_cases hlt:k<ps.length
  ·have hcl:=HSL.out _ _ hI k hlt
   have hsz:w.heap.size+1<wr.heap.size:=hb2.lt
   have hnC:w.heap.size∉N:=fun h=>absurd (HCC.out _ h) (Nat.lt_irrefl _)
   have hkg:k<gs.length:=by have:=HGL.out;omega
   have hchg:=HC.out.at k hlt hkg
   have hcf:=hchg.1
   obtain ⟨hwf,hcall⟩:=hchg.2 wr w.heap.size v' s' hI hb1 hnC hw
   have HCALL:=Lib.hid hcall
   have HFD:Hid (R=foldG (gs[k]::gs.drop (k+1)) v' s'):=by
    have:=HF.out
    rwa [List.drop_eq_getElem_cons hkg] at this
   clear hcall HF hchg
   generalize gs[k]=G at *
   generalize ps[k]=p at *
   clear hkg
   have z0:=hb2.cell (i:=0) rfl
   clear z0
   go_wp2_with fail
   refine(HCALL.out).mono ?_
   rintro r w1 ⟨rfl,hu1,hI',hpost⟩
   have hb2':BlockIs w1 (w.heap.size+1) Val.zero.cells 48:=hb2.upd hu1 (by simp;exact fun h=>absurd (HCD.out _ h) (by omega))
   have hU1:Upd C w w1:=upd_new hU hu1
   by_cases hz:(G v' s').1=0
   ·have hb1':=hpost hz
    have hzb:((G v' s').1 != 0)=false:=by simp[hz]
    have HFN:Hid (R=foldG (gs.drop (k+1)) (G v' s').2.1 (G v' s').2.2):=by
     have:=HFD.out;rwa [foldG,if_pos hz] at this
    have hwf':=hwf hz
    clear hpost HFD HCALL hwf hz hb1 hb2 hI
    generalize (G v' s').2.1=v2 at *
    generalize (G v' s').2.2=s2 at *
    generalize (G v' s').1=code at *
    go_wp2
    go_roundw
    case rel=>exact⟨k+1,v2,s2,by omega,by go_num,hb1',hb2',hI',hU1,hwf',HFN⟩
    case measure=>simp[intOf]<;>omega
   ·have hzb:((G v' s').1 != 0)=true:=by simp[hz]
    have HFN:Hid (R=((G v' s').1,Val.zero,(G v' s').2.2)):=by
     have:=HFD.out;rwa [foldG,if_neg hz] at this
    obtain ⟨c0,c1,c2,c3,c4,c5,c6,f0,f1,f2,f3,f4,f5,f6⟩:=vfacts hb2'
    have HI:=Lib.hid hI'
    clear hpost HFD HCALL hwf hz hb1 hb2 hI hI'
    generalize (G v' s').2.2=s2 at *
    generalize (G v' s').1=code at *
    go_wp2
    refine bodyPost_ret (v:=.tuple #[.agg Val.zero.cells,.int .i64 code]) (by simp[results,Tryz.results217,go_sem,c0,c1,c2,c3,c4,c5,c6];rfl) rfl ⟨?_,?_,?_⟩
    ·exact ret_vi (by rw[HFN.out]<;>rfl) (by rw[HFN.out]<;>rfl)
    ·iterate 7 (with_reducible refine upd_set_new ?_ (by omega) _ _)
     exact hU1
    ·rw[HFN.out]
     iterate 7 (with_reducible refine HST.out _ _ _ _ ?_)
     exact HI.out
  ·have hge:ps.length≤k:=by omega
   have HFN:Hid (R=(0,v',s')):=by
    have:=HF.out;rwa [List.drop_of_length_le (by have:=HGL.out;omega),foldG] at this
   obtain ⟨bal',st',sl',rq',ex',wd',dl'⟩:=v'
   obtain ⟨a0,a1,a2,a3,a4,a5,a6,_,_,_,_,_,_,_⟩:=vfacts hb1
   obtain ⟨c0,c1,c2,c3,c4,c5,c6,f0,f1,f2,f3,f4,f5,f6⟩:=vfacts hb2
   clear hb1 hb2
   have HI:=Lib.hid hI
   clear hI hw
   go_wp2
   refine bodyPost_ret (v:=.tuple #[.agg (Val.cells ⟨bal',st',sl',rq',ex',wd',dl'⟩),.int .i64 0]) (by simp[results,Tryz.results217,go_sem,c0,c1,c2,c3,c4,c5,c6,Val.cells]) rfl ⟨?_,?_,?_⟩
   ·exact ret_vi (by rw[HFN.out]<;>rfl) (by rw[HFN.out]<;>rfl)
   ·iterate 7 (with_reducible refine upd_set_new ?_ (by omega) _ _)
    exact hU
   ·rw[HFN.out]
    iterate 7 (with_reducible refine HST.out _ _ _ _ ?_)
    exact HI.out
end
section
open Go.RowKit
set_option maxHeartbeats 1000000 in
theorem event_ok (b c:Nat) (bal st rq ex wd dl ev:Int) (sl:Bool) (w:World) (hv:BlockIs w b (Val.cells ⟨bal,st,sl,rq,ex,wd,dl⟩) 48) (hc:w.cell? ⟨c,0,none⟩=some (.int .i64 ev)) (hs:(Lit.int .i64 st).wf=true) (he:(Lit.int .i64 ev).wf=true) (hn:nextF st ev≠0) :
  Calls Tryz.prog 291 #[.pointer (some ⟨b,0,none⟩),.pointer (some ⟨c,0,none⟩)] w fun r w'=>r=.returned (.int .i64 0)∧Upd [b] w w' ∧
   BlockIs w' b (Val.cells ⟨bal,nextF st ev,sl,rq,ex,wd,dl⟩) 48:=by
 have ⟨v0,v1,v2,v3,v4,v5,v6,f0,f1,f2,f3,f4,f5,f6⟩:=vfacts hv
 have hl:=hv.lt
 have c0:=hc
 have hl2:c<w.heap.size:=World.block_lt_of_cell? w _ hc
 have HN:=Lib.hid (fun w=>next_status st ev hs he w)
 have hnb:(nextF st ev != 0)=true:=by simpa using hn
 generalize nextF st ev=x at *
 go_enter Tryz.func291,Tryz.ntmps291
 go_wp2_with fail
 go_region_held3 (fun w'=>w'.cell? ⟨b,1,none⟩=some (.int .i64 st)∧w'.cell? ⟨c,0,none⟩=some (.int .i64 ev)) (go_keep) (first|(go_at_call 271;refine(HN.out _).mono ?_;rintro r w1 ⟨rfl,hb0⟩;have hb1:=undrew hb0;have g1:=(hb1.cell (p:=⟨b,1,none⟩) hl).trans v1;have g2:=(hb1.cell (p:=⟨c,0,none⟩) hl2).trans c0;have g3:=(hb1.frozen (p:=⟨b,1,none⟩) hl).trans f1;have g4:=hv.below hb1 hl;have g5:Upd [b] w w1:=Upd.of_below hb1;clear hb1 hb0))
 go_wp2
 go_ret
 exact⟨rfl,g5.setCell (by simp) _ _,g4.set 1 _⟩
set_option maxHeartbeats 1000000 in
theorem event_no (b c:Nat) (bal st rq ex wd dl ev:Int) (sl:Bool) (w:World) (hv:BlockIs w b (Val.cells ⟨bal,st,sl,rq,ex,wd,dl⟩) 48) (hc:w.cell? ⟨c,0,none⟩=some (.int .i64 ev)) (hs:(Lit.int .i64 st).wf=true) (he:(Lit.int .i64 ev).wf=true) (hn:nextF st ev=0) :
  Calls Tryz.prog 291 #[.pointer (some ⟨b,0,none⟩),.pointer (some ⟨c,0,none⟩)] w fun r w'=>r=.returned (.int .i64 8)∧Upd [b] w w':=by
 have ⟨v0,v1,v2,v3,v4,v5,v6,f0,f1,f2,f3,f4,f5,f6⟩:=vfacts hv
 have hl:=hv.lt
 have c0:=hc
 have hl2:c<w.heap.size:=World.block_lt_of_cell? w _ hc
 have HN:=Lib.hid (fun w=>next_status st ev hs he w)
 have hnb:(nextF st ev != 0)=false:=by simpa using hn
 clear hn
 generalize nextF st ev=x at *
 go_enter Tryz.func291,Tryz.ntmps291
 go_wp2_with fail
 go_region_held3 (fun w'=>w'.cell? ⟨b,1,none⟩=some (.int .i64 st)∧w'.cell? ⟨c,0,none⟩=some (.int .i64 ev)) (go_keep) (first|(go_at_call 271;refine(HN.out _).mono ?_;rintro r w1 ⟨rfl,hb0⟩;have hb1:=undrew hb0;have g1:=(hb1.cell (p:=⟨b,1,none⟩) hl).trans v1;have g2:=(hb1.cell (p:=⟨c,0,none⟩) hl2).trans c0;have g5:Upd [b] w w1:=Upd.of_below hb1;clear hb1 hb0))
 go_wp2
 go_ret
 exact⟨rfl,g5⟩
set_option maxHeartbeats 1000000 in
theorem mark_act (b c:Nat) (bal st rq ex wd dl ep:Int) (sl:Bool) (w:World) (hv:BlockIs w b (Val.cells ⟨bal,st,sl,rq,ex,wd,dl⟩) 48) (hc:w.cell? ⟨c,0,none⟩=some (.int .i64 ep)) (hsl:sl=false) (h2:(st == 2)=true) (hbc:b≠c) :
  Calls Tryz.prog 214 #[.pointer (some ⟨b,0,none⟩),.pointer (some ⟨c,0,none⟩)] w fun r w'=>r=.returned (.int .i64 0)∧Upd [b] w w' ∧
   BlockIs w' b (Val.cells ⟨bal,st,true,ep,ex,wd,-1⟩) 48:=by
 have ⟨v0,v1,v2,v3,v4,v5,v6,f0,f1,f2,f3,f4,f5,f6⟩:=vfacts hv
 have hl:=hv.lt
 have c0:=hc
 subst hsl
 have hu:=hv
 go_enter Tryz.func214,Tryz.ntmps214
 go_wp2
 go_ret
 refine⟨rfl,?_,?_⟩
 ·repeat (with_reducible first|exact Upd.refl _ _|refine Upd.setCell ?_ (by simp) _ _)
 ·exact((hu.set 3 _).set 2 _).set 6 _
set_option maxHeartbeats 1000000 in
theorem mark_oth (b c:Nat) (bal st rq ex wd dl ep:Int) (sl:Bool) (w:World) (hv:BlockIs w b (Val.cells ⟨bal,st,sl,rq,ex,wd,dl⟩) 48) (hc:w.cell? ⟨c,0,none⟩=some (.int .i64 ep)) (hsl:sl=false) (h2:(st == 2)=false) (hbc:b≠c) :
  Calls Tryz.prog 214 #[.pointer (some ⟨b,0,none⟩),.pointer (some ⟨c,0,none⟩)] w fun r w'=>r=.returned (.int .i64 0)∧Upd [b] w w' ∧
   BlockIs w' b (Val.cells ⟨bal,st,true,rq,ex,wd,-1⟩) 48:=by
 have ⟨v0,v1,v2,v3,v4,v5,v6,f0,f1,f2,f3,f4,f5,f6⟩:=vfacts hv
 have hl:=hv.lt
 have c0:=hc
 subst hsl
 have hu:=hv
 go_enter Tryz.func214,Tryz.ntmps214
 go_wp2
 go_ret
 refine⟨rfl,?_,?_⟩
 ·repeat (with_reducible first|exact Upd.refl _ _|refine Upd.setCell ?_ (by simp) _ _)
 ·exact(hu.set 2 _).set 6 _
set_option maxHeartbeats 1000000 in
theorem mark_no (b c:Nat) (bal st rq ex wd dl ep:Int) (sl:Bool) (w:World) (hv:BlockIs w b (Val.cells ⟨bal,st,sl,rq,ex,wd,dl⟩) 48) (hsl:sl=true) :
  Calls Tryz.prog 214 #[.pointer (some ⟨b,0,none⟩),.pointer (some ⟨c,0,none⟩)] w fun r w'=>r=.returned (.int .i64 9)∧Upd [b] w w':=by
 have ⟨v0,v1,v2,v3,v4,v5,v6,f0,f1,f2,f3,f4,f5,f6⟩:=vfacts hv
 have hl:=hv.lt
 subst hsl
 go_enter Tryz.func214,Tryz.ntmps214
 go_wp2
 go_ret
 exact⟨rfl,Upd.refl _ _⟩
set_option maxHeartbeats 1000000 in
theorem due_ok (b c:Nat) (bal st rq ex wd dl ep:Int) (sl:Bool) (w:World) (hv:BlockIs w b (Val.cells ⟨bal,st,sl,rq,ex,wd,dl⟩) 48) (hc:w.cell? ⟨c,0,none⟩=some (.int .i64 ep)) (h:¬ep<wd) :
  Calls Tryz.prog 284 #[.pointer (some ⟨b,0,none⟩),.pointer (some ⟨c,0,none⟩)] w fun r w'=>r=.returned (.int .i64 0)∧Upd [b] w w' ∧
   BlockIs w' b (Val.cells ⟨0,st,sl,rq,ex,wd,dl⟩) 48:=by
 have ⟨v0,v1,v2,v3,v4,v5,v6,f0,f1,f2,f3,f4,f5,f6⟩:=vfacts hv
 have hl:=hv.lt
 have c0:=hc
 have hd:decide (ep<wd)=false:=by simpa using h
 go_enter Tryz.func284,Tryz.ntmps284
 go_wp2_with fail
 go_quiet (fail)
 go_wp2
 go_ret
 exact⟨rfl,((Upd.refl _ _).setCell (by simp) _ _).drewN _,(hv.set 0 _).drewN _⟩
set_option maxHeartbeats 1000000 in
theorem due_no (b c:Nat) (bal st rq ex wd dl ep:Int) (sl:Bool) (w:World) (hv:BlockIs w b (Val.cells ⟨bal,st,sl,rq,ex,wd,dl⟩) 48) (hc:w.cell? ⟨c,0,none⟩=some (.int .i64 ep)) (h:ep<wd) :
  Calls Tryz.prog 284 #[.pointer (some ⟨b,0,none⟩),.pointer (some ⟨c,0,none⟩)] w fun r w'=>r=.returned (.int .i64 8)∧Upd [b] w w':=by
 have ⟨v0,v1,v2,v3,v4,v5,v6,f0,f1,f2,f3,f4,f5,f6⟩:=vfacts hv
 have hl:=hv.lt
 have c0:=hc
 go_enter Tryz.func284,Tryz.ntmps284
 go_wp2_with fail
 go_quiet (fail)
 go_wp2
 go_ret
 exact⟨rfl,(Upd.refl _ _).drewN _⟩
set_option maxHeartbeats 1000000 in
theorem request_ok (b c:Nat) (bal st rq ex wd dl ep:Int) (sl:Bool) (w:World) (hv:BlockIs w b (Val.cells ⟨bal,st,sl,rq,ex,wd,dl⟩) 48) (hc:w.cell? ⟨c,0,none⟩=some (.int .i64 ep)) (hep:(Lit.int .i64 ep).wf=true) (h:laterB ep []=true) :
  Calls Tryz.prog 285 #[.pointer (some ⟨b,0,none⟩),.pointer (some ⟨c,0,none⟩)] w fun r w'=>r=.returned (.int .i64 0)∧Upd [b] w w' ∧
   BlockIs w' b (Val.cells ⟨bal,st,sl,ep,ex,wd,dl⟩) 48:=by
 have ⟨v0,v1,v2,v3,v4,v5,v6,f0,f1,f2,f3,f4,f5,f6⟩:=vfacts hv
 have hl:=hv.lt
 have c0:=hc
 have hl2:c<w.heap.size:=World.block_lt_of_cell? w _ hc
 have HL:=Lib.hid (fun w=>later_any ep (.slice none 0 0) [] w (SlR.nil _ _) (by simp) (bounds_i64 hep) (by simp))
 rw[h] at HL
 go_enter Tryz.func285,Tryz.ntmps285
 go_wp2_with (go_at_call 286;refine(HL.out _).mono ?_;rintro r w1 ⟨rfl,hb1⟩;have g3:=(hb1.frozen (p:=⟨b,3,none⟩) hl).trans f3;have g1:=(hb1.cell (p:=⟨b,3,none⟩) hl).trans v3;have g2:=(hb1.cell (p:=⟨c,0,none⟩) hl2).trans c0;have g4:=hv.below hb1 hl;have g5:Upd [b] w w1:=Upd.of_below hb1;clear hb1)
 go_ret
 exact⟨rfl,g5.setCell (by simp) _ _,g4.set 3 _⟩
set_option maxHeartbeats 1000000 in
theorem request_no (b c:Nat) (bal st rq ex wd dl ep:Int) (sl:Bool) (w:World) (hv:BlockIs w b (Val.cells ⟨bal,st,sl,rq,ex,wd,dl⟩) 48) (hc:w.cell? ⟨c,0,none⟩=some (.int .i64 ep)) (hep:(Lit.int .i64 ep).wf=true) (h:laterB ep []=false) :
  Calls Tryz.prog 285 #[.pointer (some ⟨b,0,none⟩),.pointer (some ⟨c,0,none⟩)] w fun r w'=>r=.returned (.int .i64 10)∧Upd [b] w w':=by
 have ⟨v0,v1,v2,v3,v4,v5,v6,f0,f1,f2,f3,f4,f5,f6⟩:=vfacts hv
 have hl:=hv.lt
 have c0:=hc
 have HL:=Lib.hid (fun w=>later_any ep (.slice none 0 0) [] w (SlR.nil _ _) (by simp) (bounds_i64 hep) (by simp))
 rw[h] at HL
 go_enter Tryz.func285,Tryz.ntmps285
 go_wp2_with (go_at_call 286;refine(HL.out _).mono ?_;rintro r w1 ⟨rfl,hb1⟩;have g5:Upd [b] w w1:=Upd.of_below hb1;clear hb1)
 go_ret
 exact⟨rfl,g5⟩
set_option maxHeartbeats 1000000 in
theorem fresh_ok (b c:Nat) (bal st rq ex wd dl xt:Int) (sl:Bool) (w:World) (hv:BlockIs w b (Val.cells ⟨bal,st,sl,rq,ex,wd,dl⟩) 48) (hc:w.cell? ⟨c,0,none⟩=some (.int .i64 xt)) (h1:(st != 3)=false) (h2:(ex != -1)=false) :
  Calls Tryz.prog 313 #[.pointer (some ⟨b,0,none⟩),.pointer (some ⟨c,0,none⟩)] w fun r w'=>r=.returned (.int .i64 0)∧Upd [b] w w' ∧
   BlockIs w' b (Val.cells ⟨bal,st,sl,rq,xt,wd,dl⟩) 48:=by
 have ⟨v0,v1,v2,v3,v4,v5,v6,f0,f1,f2,f3,f4,f5,f6⟩:=vfacts hv
 have hl:=hv.lt
 have c0:=hc
 go_enter Tryz.func313,Tryz.ntmps313
 go_wp2
 go_ret
 exact⟨rfl,(Upd.refl _ _).setCell (by simp) _ _,hv.set 4 _⟩
set_option maxHeartbeats 1000000 in
theorem fresh_no1 (b c:Nat) (bal st rq ex wd dl :Int) (sl:Bool) (w:World) (hv:BlockIs w b (Val.cells ⟨bal,st,sl,rq,ex,wd,dl⟩) 48) (h1:(st != 3)=true) :
  Calls Tryz.prog 313 #[.pointer (some ⟨b,0,none⟩),.pointer (some ⟨c,0,none⟩)] w fun r w'=>r=.returned (.int .i64 8)∧Upd [b] w w':=by
 have ⟨v0,v1,v2,v3,v4,v5,v6,f0,f1,f2,f3,f4,f5,f6⟩:=vfacts hv
 have hl:=hv.lt
 go_enter Tryz.func313,Tryz.ntmps313
 go_wp2
 go_ret
 exact⟨rfl,Upd.refl _ _⟩
set_option maxHeartbeats 1000000 in
theorem fresh_no2 (b c:Nat) (bal st rq ex wd dl :Int) (sl:Bool) (w:World) (hv:BlockIs w b (Val.cells ⟨bal,st,sl,rq,ex,wd,dl⟩) 48) (h1:(st != 3)=false) (h2:(ex != -1)=true) :
  Calls Tryz.prog 313 #[.pointer (some ⟨b,0,none⟩),.pointer (some ⟨c,0,none⟩)] w fun r w'=>r=.returned (.int .i64 8)∧Upd [b] w w':=by
 have ⟨v0,v1,v2,v3,v4,v5,v6,f0,f1,f2,f3,f4,f5,f6⟩:=vfacts hv
 have hl:=hv.lt
 go_enter Tryz.func313,Tryz.ntmps313
 go_wp2
 go_ret
 exact⟨rfl,Upd.refl _ _⟩
end
section
open Go.RowKit
theorem slr_of_block {w:World} {b:Nat} {c:Array Value} {t:TypeId} (h:BlockIs w b c t) (n:Nat) (hn:n=c.size) (hm:n≤maxLen):SlR w 1 (.slice (some ⟨b,0,none⟩) n n) n c.toList:=by
 subst hn
 exact⟨by simp,.inr ⟨b,0,c.size,rfl,h.lt,hm,fun j u hu=>by rw[Nat.zero_add];exact h.cell (by simpa using hu)⟩⟩
set_option maxHeartbeats 1000000 in
theorem delay_ok (b c d:Nat) (bal st rq ex wd dl ep dy:Int) (sl:Bool) (w:World) (hv:BlockIs w b (Val.cells ⟨bal,st,sl,rq,ex,wd,dl⟩) 48) (hc:w.cell? ⟨c,0,none⟩=some (.int .i64 ep)) (hd:w.cell? ⟨d,0,none⟩=some (.int .i64 dy))
  (hep:(Lit.int .i64 ep).wf=true) (hdy:(Lit.int .i64 dy).wf=true) (h:laterB ep [dy]=true) :
  Calls Tryz.prog 292 #[.pointer (some ⟨b,0,none⟩),.pointer (some ⟨c,0,none⟩),.pointer (some ⟨d,0,none⟩)] w fun r w'=>r=.returned (.int .i64 0)∧Upd [b] w w' ∧
   BlockIs w' b (Val.cells ⟨bal,st,sl,rq,ex,maxF [wd,laterF ep [dy]],dl⟩) 48:=by
 have ⟨v0,v1,v2,v3,v4,v5,v6,f0,f1,f2,f3,f4,f5,f6⟩:=vfacts hv
 have hl:=hv.lt
 have c0:=hc
 have d0:=hd
 have HL:=Lib.hid (later_any ep _ [dy] _ (slr_of_block (BlockIs.new w #[.int .i64 dy] 3) 1 rfl (by decide)) (by simp) (bounds_i64 hep) (by simp;exact bounds_i64 hdy))
 rw[h] at HL
 have HM:Hid (∀ w1:World,Calls Tryz.prog 293 #[.slice (some ⟨w1.heap.size,0,none⟩) 2 2] (w1.alloc (.cells #[.int .i64 wd,.int .i64 (laterF ep [dy])] 3)) fun r w'=>r=.returned (.int .i64 (maxF [wd,laterF ep [dy]]))∧w1.alloc (.cells #[.int .i64 wd,.int .i64 (laterF ep [dy])] 3)=w'):=fun w1 =>
  max_any [wd,laterF ep [dy]] _ _ (slr_of_block (BlockIs.new w1 #[.int .i64 wd,.int .i64 (laterF ep [dy])] 3) 2 rfl (by decide)) (by simp)
 clear h
 generalize laterF ep [dy]=x at *
 generalize maxF [wd,x]=y at *
 go_enter Tryz.func292,Tryz.ntmps292
 go_wp2_with (first
  | (go_at_call 286;refine(HL.out).mono ?_;rintro r w1 ⟨rfl,hb0⟩;have hb1:=((Below.refl w.heap.size w).alloc (Nat.le_refl _) (.cells #[.int .i64 dy] 3)).trans (hb0.mono (by simp));have g3:=(hb1.frozen (p:=⟨b,5,none⟩) hl).trans f5;have g1:=(hb1.cell (p:=⟨b,5,none⟩) hl).trans v5;have g4:=hv.below hb1 hl;have g5:Upd [b] w w1:=Upd.of_below hb1;have g6:=Nat.lt_of_lt_of_le hl hb1.size;clear hb1 hb0)
  | (go_at_call 293;refine(HM.out _).mono ?_;rintro r w2 ⟨rfl,rfl⟩))
 go_ret
 exact⟨rfl,(g5.setCell (by simp) _ _).alloc _,(g4.set 5 _).alloc _⟩
set_option maxHeartbeats 1000000 in
theorem delay_no (b c d:Nat) (bal st rq ex wd dl ep dy:Int) (sl:Bool) (w:World) (hv:BlockIs w b (Val.cells ⟨bal,st,sl,rq,ex,wd,dl⟩) 48) (hc:w.cell? ⟨c,0,none⟩=some (.int .i64 ep)) (hd:w.cell? ⟨d,0,none⟩=some (.int .i64 dy))
  (hep:(Lit.int .i64 ep).wf=true) (hdy:(Lit.int .i64 dy).wf=true) (h:laterB ep [dy]=false) :
  Calls Tryz.prog 292 #[.pointer (some ⟨b,0,none⟩),.pointer (some ⟨c,0,none⟩),.pointer (some ⟨d,0,none⟩)] w fun r w'=>r=.returned (.int .i64 10)∧Upd [b] w w':=by
 have c0:=hc
 have d0:=hd
 have HL:=Lib.hid (later_any ep _ [dy] _ (slr_of_block (BlockIs.new w #[.int .i64 dy] 3) 1 rfl (by decide)) (by simp) (bounds_i64 hep) (by simp;exact bounds_i64 hdy))
 rw[h] at HL
 clear h
 go_enter Tryz.func292,Tryz.ntmps292
 go_wp2_with (go_at_call 286;refine(HL.out).mono ?_;rintro r w1 ⟨rfl,hb0⟩;have g5:Upd [b] w w1:=Upd.of_below (((Below.refl w.heap.size w).alloc (Nat.le_refl _) (.cells #[.int .i64 dy] 3)).trans (hb0.mono (by simp))))
 go_ret
 exact⟨rfl,g5⟩
def penF (b n d:Int):Int:=if d<n then 0 else mulF b n d
def penB (b n d:Int):Bool:=if d<n then false else mulB b n d
set_option maxHeartbeats 1000000 in
theorem amount_any (b n d:Int) (w:World) (hb0:0≤b) (hb:b≤18446744073709551615) (hn0:0≤n) (hn:n≤18446744073709551615) (hd0:0≤d) (hd:d≤18446744073709551615) :
  Calls Tryz.prog 216 #[.int .u64 b,.int .u64 n,.int .u64 d] w fun r w'=>r=.returned (.tuple #[.int .u64 (penF b n d),.bool (penB b n d)])∧Below w.heap.size w w':=by
 unfold penF penB
 by_cases h:d<n
 ·rw[if_pos h,if_pos h]
  go_enter Tryz.func216,Tryz.ntmps216
  go_wp2
  go_ret2
  exact⟨rfl,Below.refl _ _⟩
 ·rw[if_neg h,if_neg h]
  have HM:=Lib.hid (fun w=>mulDiv_any b n d w hb0 hb hn0 hn hd0 hd)
  go_enter Tryz.func216,Tryz.ntmps216
  go_wp2_with (go_at_call 290;refine(HM.out _).mono ?_;rintro r w1 ⟨rfl,hb1⟩)
  go_ret2
  exact⟨rfl,hb1⟩
theorem mulF_le (b n d:Int) (hb0:0≤b) (hn0:0≤n) (h:n≤d):0≤mulF b n d∧mulF b n d≤b:=by
 unfold mulF
 by_cases hc:b*n<d*18446744073709551616
 ·rw[if_pos hc]
  by_cases hd:d=0
  ·subst hd;simp;exact hb0
  ·have h1:b*n≤b*d:=Int.mul_le_mul_of_nonneg_left h hb0
   exact⟨Int.ediv_nonneg (Int.mul_nonneg hb0 hn0) (by omega),Int.ediv_le_of_le_mul (by omega) h1⟩
 ·rw[if_neg hc];omega
theorem penF_le (b n d:Int) (hb0:0≤b) (hn0:0≤n):0≤penF b n d∧penF b n d≤b:=by
 unfold penF
 by_cases h:d<n
 ·rw[if_pos h];omega
 ·rw[if_neg h];exact mulF_le b n d hb0 hn0 (by omega)
set_option maxHeartbeats 2000000 in
theorem burn_ok (b c u:Nat) (bal st rq ex wd dl pn pd u0:Int) (sl:Bool) (w:World) (hv:BlockIs w b (Val.cells ⟨bal,st,sl,rq,ex,wd,dl⟩) 48) (c18:w.cell? ⟨c,18,none⟩=some (.int .u64 pn)) (c19:w.cell? ⟨c,19,none⟩=some (.int .u64 pd)) (hcl:c<w.heap.size)
  (hu:w.cell? ⟨u,0,none⟩=some (.int .u64 u0)∧w.frozen? ⟨u,0,none⟩=false) (hub:u≠b) (huc:u≠c) (hcu:c≠u) (hbu:b≠u)
  (hb0:0≤bal) (hb:bal≤18446744073709551615) (hn0:0≤pn) (hn:pn≤18446744073709551615) (hd0:0≤pd) (hd:pd≤18446744073709551615) :
  Calls Tryz.prog 215 #[.pointer (some ⟨b,0,none⟩),.pointer (some ⟨c,0,none⟩),.pointer (some ⟨u,0,none⟩)] w fun r w'=>r=.returned (.int .i64 0)∧Upd [b,u] w w' ∧
   BlockIs w' b (Val.cells ⟨bal - penF bal pn pd,st,sl,rq,ex,wd,dl⟩) 48∧(w'.cell? ⟨u,0,none⟩=some (.int .u64 (penF bal pn pd))∧w'.frozen? ⟨u,0,none⟩=false):=by
 have ⟨v0,_,_,_,_,_,_,f0,_,_,_,_,_,_⟩:=vfacts hv
 have hl:=hv.lt
 obtain ⟨u0',fu⟩:=hu
 have hl2:u<w.heap.size:=World.block_lt_of_cell? w _ u0'
 have HA:=Lib.hid (fun w=>amount_any bal pn pd w hb0 hb hn0 hn hd0 hd)
 obtain ⟨p0,p1⟩:=penF_le bal pn pd hb0 hn0
 generalize penF bal pn pd=x at *
 generalize penB bal pn pd=y at *
 go_enter Tryz.func215,Tryz.ntmps215
 go_wp2_with fail
 go_region_held3 (fun w'=>w'.cell? ⟨b,0,none⟩=some (.int .u64 bal)∧w'.cell? ⟨c,18,none⟩=some (.int .u64 pn)∧w'.cell? ⟨c,19,none⟩=some (.int .u64 pd)) (go_keep) (first|(go_at_call 216;refine(HA.out _).mono ?_;rintro r w1 ⟨rfl,hb00⟩;have hb1:=undrew hb00;have g1:=(hb1.cell (p:=⟨b,0,none⟩) hl).trans v0;have g2:=(hb1.cell (p:=⟨c,18,none⟩) hcl).trans c18;have g3:=(hb1.cell (p:=⟨c,19,none⟩) hcl).trans c19;have g6:=(hb1.frozen (p:=⟨b,0,none⟩) hl).trans f0;have g7:=(hb1.frozen (p:=⟨u,0,none⟩) hl2).trans fu;have g8:=(hb1.cell (p:=⟨u,0,none⟩) hl2).trans u0';have g4:=hv.below hb1 hl;have g5:Upd [b,u] w w1:=Upd.of_below hb1;clear hb1 hb00))
 go_wp2_with fail
 go_region
 go_wp2
 go_ret
 refine⟨rfl,?_,?_,?_⟩
 ·repeat (with_reducible first|exact g5|refine Upd.drew ?_|refine Upd.setCell ?_ (by simp) _ _)
 ·exact BlockIs.drew ((g4.other hbu 0 _).set 0 _)
 ·exact⟨by go_simp,by go_simp⟩
end
end Go.Proofs.YtopbohbkhljjgaaGreat
