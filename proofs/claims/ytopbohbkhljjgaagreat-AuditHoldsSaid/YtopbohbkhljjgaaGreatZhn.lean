import Derived.Test.YtopbohbkhljjgaaGreatZhm
set_option linter.unusedVariables false
set_option linter.unusedSimpArgs false
set_option maxRecDepth 100000
set_option maxHeartbeats 8000000
namespace Go.Proofs.YtopbohbkhljjgaaGreat
def zk122:List Nat:=[0,1,4,6,16]
def zk123:List Nat:=[0,2,3,5,6,8,9,10,11,12,20,25,26,27,28]
section
open Go.RowKit
section
variable {o:Oper} {n:Nat} {l:List (Nat × Value)} {L:List Asn} {C:Value→List Asn→Prop}
theorem ac_appendZ {x y:Operand} {t tn:TypeId} {ats:Array TypeId} (ho:o.op=.call {callee:=.builtin .append,args:=#[x,y],argTypes:=ats}) (hat:ats = #[t,tn]) {e:TypeId} {z:Value} {size bytes:Nat} (ht:ST t e z size bytes) {kn:IntKind} (htn:Tryz.prog.underlying tn=some (.int kn)) (hx:evl l x=some (.slice none 0 0)) {kd:IntKind} {k:Nat} (hy:evl l y=some (.int kd (k:Int)))
  (h0:0<k) (hm:k≤maxLen) (hb:k*bytes≤281474976710656) (h:∀ b c xs,C (sl ⟨some ⟨b,0,none⟩,k,c⟩) (own e size (sl ⟨some ⟨b,0,none⟩,k,c⟩) k xs::L)):AC o l L n C:=fun G a w F M=>by
 obtain ⟨i,hu,hi,hz,hsize,hby,hzs,hsz⟩:=st_info ht
 subst hat;subst hsize;subst hby
 have hr:=Lib.run_append_nil_zeros (P:=Tryz.prog) w t tn o.type e i z kd kn hu htn hi hz k h0 hsz (by simp only[maxLen] at hm;omega) hb
 have:(execOp a.eval o).run Tryz.prog w=.ok (.value (sl ⟨some ⟨w.heap.size,0,none⟩,k,grownCap w k 0 e⟩)) (w.drew.alloc (.cells (Builtin.zeroCells z.cells k++Builtin.zeroCells z.cells (grownCap w k 0 e - k)) e)):=by
  unfold execOp
  rw[ho]
  simp[resolve,invoke,builtin,F.eval hx,F.eval hy,hr,sl]
 rw[this]
 have hge:=grownCap_ge w k 0 e
 have hcm:grownCap w k 0 e≤maxLen:=grownCap_le_maxLen w k 0 e hm
 refine⟨_,h _ _ (Builtin.zeroCells z.cells k).toList,M.new ⟨rfl,rfl,rfl,by simp,fun k hk _=>((Below.refl w.drew.heap.size w.drew).alloc (Nat.le_refl _) _).block k hk⟩ ⟨[w.heap.size],ok_own (by rw[Array.length_toList,size_zeroCells,hzs]) (heap_alloc_new w.drew _) hge hcm ?_ ?_,by simp⟩⟩
 ·simp only[Array.size_append,size_zeroCells,hzs,← Nat.add_mul]
  congr 1
  omega
 ·rw[Array.toList_append]
  have:k*i.size=(Builtin.zeroCells z.cells k).toList.length:=by rw[Array.length_toList,size_zeroCells,hzs]
  rw[this]
  exact List.take_left
theorem rt_capS {x:Operand} {ats:Array TypeId} {t:TypeId} (ho:o.op=.call {callee:=.builtin .cap,args:=#[x],argTypes:=ats}) (hat:ats = #[t]) {p:Option Addr} {m c:Nat} (hx:evl l x=some (.slice p m c)) {e:TypeId} {z:Value} {size bytes:Nat} (ht:ST t e z size bytes):RT o l L n (.int .i64 c):=fun a w F M=>by
 unfold execOp
 rw[ho]
 subst hat
 simp[resolve,invoke,builtin,Builtin.cap_,F.eval hx,run_underlying ht.k.1 w,goInt]
end
theorem growI_spec (k:Nat) (hk:k≤1000000) (R:List Asn):Spec 246 [.slice none 0 0,.int .i64 k] R fun u L'=>∃ h,u=sl h∧L'=ownT 3 intL 1 (sl h) []::R:=by
 (intro G w M;refine sx_enter (vs:=([.slice none 0 0,.int .i64 k]:List Value)) Tryz.func246 (n:=27) rfl rfl rfl rfl ?_;intro a F;(try simp only[zc,zn] at M))
 by_cases h0:k=0
 ·subst h0
  (repeat'(first|((first|refine sv1 F M (h:=?_) (hr:=by((apply rt_capS;(exact rfl);(exact rfl);(exact rfl);(exact inferInstance))))|refine pv1 (h:=?_) (hr:=by((apply rt_capS;(exact rfl);(exact rfl);(exact rfl);(exact inferInstance)))));(try(clear F a;intro a F)))|(first|refine sx_nil ?_|refine pv_nil ?_;intro a w F M);try replace F:=F.filt zk122 rfl|refine zn1 F M ?_;clear F M a;(try clear w);intro a w F M|refine sv2 F M ?_;clear F M a;intro nb a w F M|refine zp1 ?_|refine zp2 ?_;intro nb|((first|refine svC F M ?_|refine svC0 F M ?_|refine pvC ?_|refine pvC0 ?_);(fail);(first|refine⟨rvsA,?_⟩|clear F M a;intro a w F M|clear M;intro w M))|refine zh F ?_ ?_<;>(intro hg;rw[hg] at F;try exact no hg)|refine zT F ?_|((with_reducible refine isK ?_);refine svB F ?_ ?_<;>intro hc<;>try exact no hc)|refine zY ?_;go_step|fail))
  refine zE F M ?_
  exact⟨_,_,rfl,⟨⟨none,0,0⟩,rfl,rfl⟩,(M.own_nil 3 1).perms permsA⟩
 ·have h1:0<k:=by omega
  (repeat'(first|((first|refine sv1 F M (h:=?_) (hr:=by((first|(apply rt_capS;(exact rfl);(exact rfl);(exact rfl);(exact inferInstance))|(apply rt_to (h:=⟨none,0,0⟩) (k:=.i64) (j:=0);(exact rfl);(exact rfl);(exact rfl);(exact inferInstance);(exact Nat.le_refl _))|(apply rt_to (h:=⟨some ⟨nb,0,none⟩,k,nc⟩) (k:=.i64) (j:=0);(exact rfl);(exact rfl);(exact rfl);(exact inferInstance);(exact Nat.zero_le _)))))|refine pv1 (h:=?_) (hr:=by((first|(apply rt_capS;(exact rfl);(exact rfl);(exact rfl);(exact inferInstance))|(apply rt_to (h:=⟨none,0,0⟩) (k:=.i64) (j:=0);(exact rfl);(exact rfl);(exact rfl);(exact inferInstance);(exact Nat.le_refl _))|(apply rt_to (h:=⟨some ⟨nb,0,none⟩,k,nc⟩) (k:=.i64) (j:=0);(exact rfl);(exact rfl);(exact rfl);(exact inferInstance);(exact Nat.zero_le _))))));(try(clear F a;intro a F)))|(first|refine sx_nil ?_|refine pv_nil ?_;intro a w F M);try replace F:=F.filt zk122 rfl|refine zn1 F M ?_;clear F M a;(try clear w);intro a w F M|refine sv2 F M ?_;clear F M a;intro nb a w F M|refine zp1 ?_|refine zp2 ?_;intro nb|((first|refine svC F M ?_|refine svC0 F M ?_|refine pvC ?_|refine pvC0 ?_);((refine ac_appendZ rfl rfl inferInstance (k:=k) (kn:=.i64) (by kernel_rfl) rfl rfl h1 (by simp only[maxLen];omega) (by omega) ?_;intro nb nc nx));(first|refine⟨rvsA,?_⟩|clear F M a;intro a w F M|clear M;intro w M))|refine zh F ?_ ?_<;>(intro hg;rw[hg] at F;try exact no hg)|refine zT F ?_|((with_reducible refine isK ?_);refine svB F ?_ ?_<;>intro hc<;>try exact no hc)|refine zY ?_;go_step|fail))
  all_goals refine zE F M ?_
  have M2:=own_cut (j:=0) M (Nat.zero_le _)
  rw[Nat.zero_mul,List.take_zero] at M2
  exact⟨_,_,rfl,⟨⟨some ⟨nb,0,none⟩,0,nc⟩,rfl,rfl⟩,M2.perms permsA⟩
abbrev qsL (Q:List (SlH × List Int)):List SlH:=Q.map (·.1)
def catQ (Q:List (SlH × List Int)):List Int:=Q.flatMap (·.2)
theorem catQ_take {Q:List (SlH × List Int)} {k:Nat} {p:SlH × List Int} (h:Q[k]? = some p):catQ (Q.take (k+1))=catQ (Q.take k)++p.2:=by
 unfold catQ
 rw[List.take_add_one,h,List.flatMap_append]
 simp
theorem catQ_le (Q:List (SlH × List Int)) (k:Nat):(catQ (Q.take k)).length≤(catQ Q).length:=by
 have:catQ Q=catQ (Q.take k)++catQ (Q.drop k):=by unfold catQ;rw[← List.flatMap_append,List.take_append_drop]
 rw[this,List.length_append];omega
theorem concatI_spec (hq:SlH) (Q:List (SlH × List Int)) (hl:(catQ Q).length≤1000000) (hn:Q.length≤1000) (R:List Asn) (hG:∀ p∈Q,GS R 1 (sl p.1) p.2.length (p.2.flatMap intL)) :
  Spec 185 [sl hq] (ownT 24 shL 1 (sl hq) (qsL Q)::R) fun u L'=>∃ h,u=sl h∧L'=ownT 3 intL 1 (sl h) (catQ Q)::ownT 24 shL 1 (sl hq) (qsL Q)::R:=by
 (intro G w M;refine sx_enter (vs:=([sl hq]:List Value)) Tryz.func185 (n:=36) rfl rfl rfl rfl ?_;intro a F;(try simp only[zc,zn] at M))
 have hG':∀ p∈Q,GS (R++G) 1 (sl p.1) p.2.length (p.2.flatMap intL):=fun p hp=>Gives.app (hG p hp)
 have hql:(qsL Q).length=Q.length:=by simp
 (repeat'(first|(first|refine sx_nil ?_|refine pv_nil ?_;intro a w F M);try replace F:=F.filt zk123 rfl|refine zn1 F M ?_;clear F M a;(try clear w);intro a w F M|refine sv2 F M ?_;clear F M a;intro nb a w F M|refine zp1 ?_|refine zp2 ?_;intro nb|((first|refine svC F M ?_|refine svC0 F M ?_|refine pvC ?_|refine pvC0 ?_);(fail);(first|refine⟨rvsA,?_⟩|clear F M a;intro a w F M|clear M;intro w M))|refine zh F ?_ ?_<;>(intro hg;rw[hg] at F;try exact no hg)|refine zT F ?_|((with_reducible refine isK ?_);refine svB F ?_ ?_<;>intro hc<;>try exact no hc)|refine zY ?_;go_step|fail))
 refine svLoop F M (0:Nat) (fun k=>[(11,.int .i64 k),(3,.int .i64 (catQ (Q.take k)).length)]) (fun _=>[]) (fun k=>k≤Q.length) (fun k=>Q.length - k) [5] (Nat.zero_le _) ?_
 (rintro k q1 a w F M;(try simp only[zc,zn] at F M q1 ⊢))
 have hle:=catQ_le Q k
 by_cases hlt:k<Q.length
 ·obtain ⟨p,hp⟩:∃ p,Q[k]? = some p:=⟨Q[k],by simp[hlt]⟩
  have hpm:=List.mem_of_getElem? hp
  have hpg:=hG' p hpm
  have hle2:=catQ_le Q (k+1)
  have hcat:=catQ_take hp
  have hcl:=congrArg List.length hcat
  rw[List.length_append] at hcl
  have hq1:(qsL Q)[k]? = some p.1:=by simp[hp]
  (repeat'(first|(first|refine sx_nil ?_|refine pv_nil ?_;intro a w F M);try replace F:=F.filt zk123 rfl|refine zn1 F M ?_;clear F M a;(try clear w);intro a w F M|refine sv2 F M ?_;clear F M a;intro nb a w F M|refine zp1 ?_|refine zp2 ?_;intro nb|((first|refine svC F M ?_|refine svC0 F M ?_|refine pvC ?_|refine pvC0 ?_);(fail);(first|refine⟨rvsA,?_⟩|clear F M a;intro a w F M|clear M;intro w M))|refine zh F ?_ ?_<;>(intro hg;rw[hg] at F;try exact no hg)|refine zT F ?_|((with_reducible refine isK ?_);refine svB F ?_ ?_<;>intro hc<;>try exact no hc)|refine zY ?_;go_step|fail))
  have e3:((catQ (Q.take (k+1))).length:Int)=(catQ (Q.take k)).length+p.2.length:=by omega
  rw[← e3] at F
  refine sv_again F M (k+1) kpA permsA (by omega) (by omega)
 ·obtain rfl:k=Q.length:=by omega
  have hcat:catQ (Q.take Q.length)=catQ Q:=by rw[List.take_length]
  rw[hcat] at F
  (repeat'(first|(first|refine sx_nil ?_|refine pv_nil ?_;intro a w F M);try replace F:=F.filt zk123 rfl|refine zn1 F M ?_;clear F M a;(try clear w);intro a w F M|refine sv2 F M ?_;clear F M a;intro nb a w F M|refine zp1 ?_|refine zp2 ?_;intro nb|((first|refine svC F M ?_|refine svC0 F M ?_|refine pvC ?_|refine pvC0 ?_);(((refine acW (k:=246) (growI_spec (catQ Q).length hl _) ?_);rintro u L' ⟨h,rfl,rfl⟩));(first|refine⟨rvsA,?_⟩|clear F M a;intro a w F M|clear M;intro w M))|refine zh F ?_ ?_<;>(intro hg;rw[hg] at F;try exact no hg)|refine zT F ?_|((with_reducible refine isK ?_);refine svB F ?_ ?_<;>intro hc<;>try exact no hc)|refine zY ?_;go_step|fail))
  refine svLoop F M ((0,h):Nat × SlH) (fun s=>[(27,.int .i64 s.1),(6,sl s.2)]) (fun s=>[ownT 3 intL 1 (sl s.2) (catQ (Q.take s.1))]) (fun s=>s.1≤Q.length) (fun s=>Q.length - s.1) [8] (Nat.zero_le _) ?_ (hR:=by rw[List.take_zero];exact .cons .here .nil)
  (rintro⟨k,h⟩ q1 a w F M;(try simp only[zc,zn] at F M q1 ⊢))
  have hle:=catQ_le Q k
  by_cases hlt:k<Q.length
  ·obtain ⟨p,hp⟩:∃ p,Q[k]? = some p:=⟨Q[k],by simp[hlt]⟩
   have hpm:=List.mem_of_getElem? hp
   have hpg:=hG' p hpm
   have hle2:=catQ_le Q (k+1)
   have hcat:=catQ_take hp
   have hcl:=congrArg List.length hcat
   rw[List.length_append] at hcl
   have hq1:(qsL Q)[k]? = some p.1:=by simp[hp]
   (repeat'(first|(first|refine sx_nil ?_|refine pv_nil ?_;intro a w F M);try replace F:=F.filt zk123 rfl|refine zn1 F M ?_;clear F M a;(try clear w);intro a w F M|refine sv2 F M ?_;clear F M a;intro nb a w F M|refine zp1 ?_|refine zp2 ?_;intro nb|((first|refine svC F M ?_|refine svC0 F M ?_|refine pvC ?_|refine pvC0 ?_);((refine ac_appendH rfl rfl inferInstance rfl rfl pullA inferInstance (ys:=p.2) gsA rfl rfl (by omega) ?_;intro nv));(first|refine⟨rvsA,?_⟩|clear F M a;intro a w F M|clear M;intro w M))|refine zh F ?_ ?_<;>(intro hg;rw[hg] at F;try exact no hg)|refine zT F ?_|((with_reducible refine isK ?_);refine svB F ?_ ?_<;>intro hc<;>try exact no hc)|refine zY ?_;go_step|fail))
   rw[← hcat] at M
   refine sv_again F M (k+1,nv) kpA permsA (by simp only;omega) (by simp only;omega)
  ·obtain rfl:k=Q.length:=by omega
   have hcat:catQ (Q.take Q.length)=catQ Q:=by rw[List.take_length]
   rw[hcat] at M
   (repeat'(first|(first|refine sx_nil ?_|refine pv_nil ?_;intro a w F M);try replace F:=F.filt zk123 rfl|refine zn1 F M ?_;clear F M a;(try clear w);intro a w F M|refine sv2 F M ?_;clear F M a;intro nb a w F M|refine zp1 ?_|refine zp2 ?_;intro nb|((first|refine svC F M ?_|refine svC0 F M ?_|refine pvC ?_|refine pvC0 ?_);(fail);(first|refine⟨rvsA,?_⟩|clear F M a;intro a w F M|clear M;intro w M))|refine zh F ?_ ?_<;>(intro hg;rw[hg] at F;try exact no hg)|refine zT F ?_|((with_reducible refine isK ?_);refine svB F ?_ ?_<;>intro hc<;>try exact no hc)|refine zY ?_;go_step|fail))
   all_goals refine zE F M ?_
   exact⟨_,_,rfl,⟨h,rfl,rfl⟩,M.perms permsA⟩
end
section
open Go.RowKit Go.Maps
open Go.ChangeMaps (setBlock)
def isInt (k:Int):Value→Bool
 | .int .i64 x=>decide (x=k)
 | _=>false
theorem isInt_iff {k:Int} {v:Value}:isInt k v=true↔v=.int .i64 k:=by
 unfold isInt
 split
 ·simp
 ·rename_i h
  constructor
  ·intro h;cases h
  ·intro e;exact absurd e (h k)
def delP (k:Int) (L:List (Value × Value)):List (Value × Value):=L.filter fun p=>!isInt k p.1
theorem delP_miss {k:Int} {L:List (Value × Value)} (h:∀ p∈L,p.1≠.int .i64 k):delP k L=L:=by
 unfold delP
 rw[List.filter_eq_self]
 intro p hp
 cases hb:isInt k p.1 with
 | false=>rfl
 | true=>exact absurd (isInt_iff.1 hb) (h p hp)
theorem delP_at {k:Int}:∀ {L:List (Value × Value)} {j:Nat} {p:Value × Value},(L.map (·.1)).Nodup→L[j]? = some p→p.1=.int .i64 k→L.eraseIdx j=delP k L
 | [],j,p,_,h,_=>by simp at h
 | q::L,0,p,hn,h,hk=>by
  simp at h;subst h
  rw[List.map_cons,List.nodup_cons] at hn
  rw[List.eraseIdx_cons_zero]
  have:delP k (q::L)=delP k L:=by
   unfold delP
   rw[List.filter_cons,if_neg]
   simp[isInt_iff.2 hk]
  rw[this,delP_miss]
  intro p hp e
  exact hn.1 (by rw[hk,← e];exact List.mem_map.2 ⟨p,hp,rfl⟩)
 | q::L,j+1,p,hn,h,hk=>by
  rw[List.map_cons,List.nodup_cons] at hn
  have h':L[j]? = some p:=by simpa using h
  have hq:isInt k q.1=false:=by
   cases hb:isInt k q.1 with
   | false=>rfl
   | true=>exact absurd (List.mem_map.2 ⟨p,List.mem_of_getElem? h',by rw[hk,← isInt_iff.1 hb]⟩) hn.1
  rw[List.eraseIdx_cons_succ,delP_at hn.2 h' hk]
  unfold delP
  rw[List.filter_cons,if_pos (by simp[hq])]
theorem eraseIdx_mapF {α β:Type} (f:α→β):∀ (l:List α) (j:Nat),(l.map f).eraseIdx j=(l.eraseIdx j).map f
 | [],j=>by simp
 | x::l,0=>by simp
 | x::l,j+1=>by simp[eraseIdx_mapF f l j]
section
variable {P:Program} {w:World} {b:Nat} {L:List (Value × Value)} {T K E:TypeId}
theorem run_mapDelete (hT:P.underlying T=some (.map K E)) (hK:Keyed P K) {k:Int} {l:Lit} (hk:keyOf P K (.int .i64 k)=some l) (hm:MapIs P K w b L) (X ty:TypeId) (hX:X=K) :
  ∃ w',(Builtin.delete_ #[T,X] ty #[.map (some b),.int .i64 k]).run P w=.ok (.tuple #[]) w'∧MapIs P K w' b (delP k L)∧Touch b w w':=by
 subst hX
 obtain ⟨es,clk,hb,hp,hl,hn⟩:=hm
 have hkeys:∀ e∈es.toList,∃ l,keyOf P X e.key=some l:=fun e he=>hl (e.key,e.val) (hp.mem_iff.1 (List.mem_map.2 ⟨e,he,rfl⟩))
 have hbs:=(Array.getElem?_eq_some_iff.1 hb).1
 rcases hK.find w hk es.toList hkeys with⟨h1,h2⟩|⟨j,e,h1,h2,h3⟩
 ·refine⟨setBlock w b (.map es clk),?_,⟨es,clk,by simp[setBlock,hbs],?_,?_,?_,hn.2⟩,touch_setBlock w b _⟩
  ·simp[Builtin.delete_,run_underlying hT,MapKept.run_getObj_map hb,hK.check w _ hk,h1,MapKept.run_setObj_map _ hb,Result.andThen,setBlock]
  ·rw[delP_miss]
   ·exact hp
   ·intro p hp' e
    obtain ⟨x,hx,hxp⟩:=List.mem_map.1 (hp.mem_iff.2 hp')
    exact h2 x hx (by rw[← e,← hxp])
  ·exact fun p hp'=>hl p (List.mem_filter.1 hp').1
  ·exact hn.1.sublist ((List.filter_sublist).map _)
 ·have hjl:j<es.toList.length:=(List.getElem?_eq_some_iff.1 h2).1
  have hjs:j<es.size:=by simpa using hjl
  have hsub:(es.eraseIdxIfInBounds j).toList=es.toList.eraseIdx j:=by
   unfold Array.eraseIdxIfInBounds
   rw[dif_pos hjs]
   simp
  have hnd:((pairs es).map (·.1)).Nodup:=(hp.map (·.1)).nodup_iff.2 hn.1
  have he:pairs (es.eraseIdxIfInBounds j)=delP k (pairs es):=by
   rw[← delP_at (j:=j) (p:=(e.key,e.val)) hnd (by simp[pairs,h2]) h3]
   unfold pairs
   rw[hsub]
   exact(eraseIdx_mapF _ _ _).symm
  refine⟨setBlock w b (.map (es.eraseIdxIfInBounds j) clk),?_,⟨es.eraseIdxIfInBounds j,clk,by simp[setBlock,hbs],?_,?_,?_,?_,?_⟩,touch_setBlock w b _⟩
  ·simp[Builtin.delete_,run_underlying hT,MapKept.run_getObj_map hb,hK.check w _ hk,h1,MapKept.run_setObj_map _ hb,Result.andThen,setBlock]
  ·rw[he];exact hp.filter _
  ·exact fun p hp'=>hl p (List.mem_filter.1 hp').1
  ·exact hn.1.sublist ((List.filter_sublist).map _)
  ·rw[hsub];exact hn.2.1.sublist ((List.eraseIdx_sublist _ _).map _)
  ·intro x hx
   rw[hsub] at hx
   exact hn.2.2 x ((List.eraseIdx_sublist _ _).subset hx)
end
section
variable {o:Oper} {n:Nat} {l:List (Nat × Value)} {L:List Asn} {C:Value→List Asn→Prop}
theorem ac_mapDel {x y:Operand} {ats:Array TypeId} {t X:TypeId} (ho:o.op=.call {callee:=.builtin .delete,args:=#[x,y],argTypes:=ats}) (hat:ats = #[t,X]) {b:Nat} (hx:evl l x=some (.map (some b))) {k:Int} (hy:evl l y=some (.int .i64 k)) {K E:TypeId} (ht:MT t K E) (hXK:X=K) {q:Lit} (hk:keyOf Tryz.prog K (.int .i64 k)=some q) {P:List (Value × Value)} {L2:List Asn} (hp:Rep L (mp b K P) (mp b K (delP k P)) L2) (h:C (.tuple #[]) L2):AC o l L n C:=fun G a w F M=>by
 subst hat
 obtain ⟨L',h1,h2⟩:=hp.both
 obtain ⟨w',e,hm,ht'⟩:=run_mapDelete ht.k ht.h hk (gives_mp (h1.app G) w M) X o.type hXK
 have:(execOp a.eval o).run Tryz.prog w=.ok (.value (.tuple #[])) w':=by
  unfold execOp
  rw[ho]
  simp[resolve,invoke,builtin,F.eval hx,F.eval hy,e]
 rw[this]
 refine⟨L2,h,M.rep (hp.app G) fun s hs=>?_⟩
 obtain ⟨rfl,_⟩:=hs.now
 exact⟨ht'.chg,[b],ok_mp hm,fun x hx=>.inl hx⟩
theorem rt_lenM {x:Operand} {ats:Array TypeId} {t:TypeId} (ho:o.op=.call {callee:=.builtin .len,args:=#[x],argTypes:=ats}) (hat:ats = #[t]) {b:Nat} (hx:evl l x=some (.map (some b))) {K E:TypeId} (ht:MT t K E) {P:List (Value × Value)} (hg:Gives L fun w=>MapIs Tryz.prog K w b P):RT o l L n (.int .i64 P.length):=fun a w F M=>by
 obtain ⟨es,clk,hb,hp,_⟩:=hg w M
 have hlen:P.length=es.size:=by rw[← hp.length_eq];simp[pairs]
 subst hat
 unfold execOp
 rw[ho]
 simp[resolve,invoke,builtin,Builtin.len_,F.eval hx,run_underlying ht.k w,goInt,MapKept.run_getObj_map hb,hlen]
end
end
section
open Go.RowKit Go.Maps
open Go.ChangeMaps (setBlock)
def pairL (l:List MapEntry):List (Value × Value):=l.map fun e=>(e.key,e.val)
def MapR (w:World) (b r:Nat) (K:TypeId) (P todo:List (Value × Value)) (cur:Option (Value × Value)):Prop :=
 ∃ es clk since seen c0,w.heap[b]? = some (.map es clk)∧w.heap[r]? = some (.mapIter (some b) since seen c0)∧(pairs es).Perm P∧(∀ p∈P,∃ l,keyOf Tryz.prog K p.1=some l)∧(P.map (·.1)).Nodup∧BornOK es clk∧(since≤c0∧since≤clk)∧(∀ e∈es.toList,e.born<since)∧(pairL (leftOf es seen).toList).Perm todo ∧
  ∀ p,cur=some p→∃ (e:MapEntry) (seen':Array Nat),e∈es.toList∧seen=seen'.push e.born∧c0=clk∧p=(e.key,e.val)
def mpR (b r:Nat) (K:TypeId) (P todo:List (Value × Value)) (cur:Option (Value × Value)):Asn:=fun s w=>s=[b,r]∧b≠r∧MapR w b r K P todo cur
theorem MapR.of_block {w w':World} {b r:Nat} {K:TypeId} {P todo:List (Value × Value)} {cur:Option (Value × Value)} (h:MapR w b r K P todo cur) (e1:w'.heap[b]? = w.heap[b]?) (e2:w'.heap[r]? = w.heap[r]?):MapR w' b r K P todo cur:=by
 obtain ⟨es,clk,since,seen,c0,h1,h2,h3⟩:=h
 exact⟨es,clk,since,seen,c0,e1.trans h1,e2.trans h2,h3⟩
theorem ok_mpR {w:World} {b r:Nat} {K:TypeId} {P todo:List (Value × Value)} {cur:Option (Value × Value)} (hne:b≠r) (h:MapR w b r K P todo cur):Ok (mpR b r K P todo cur) [b,r] w :=
 ⟨fun x hx=>by
  obtain ⟨es,clk,since,seen,c0,h1,h2,_⟩:=h
  simp only[List.mem_cons,List.not_mem_nil,or_false] at hx
  rcases hx with rfl|rfl
  ·exact(Array.getElem?_eq_some_iff.1 h1).1
  ·exact(Array.getElem?_eq_some_iff.1 h2).1,fun w' hw=>⟨rfl,hne,h.of_block (hw.2.2.2 b (by simp)) (hw.2.2.2 r (by simp))⟩⟩
theorem gives_mpR {L L':List Asn} {b r:Nat} {K:TypeId} {P todo:List (Value × Value)} {cur:Option (Value × Value)} (h:Pull L (mpR b r K P todo cur) L'):Gives L fun w=>b≠r∧MapR w b r K P todo cur:=fun w M=>by
 obtain ⟨s,hs,_⟩:=(M.pull h).head
 exact hs.2
theorem left_none (es:Array MapEntry):leftOf es #[]=es:=by
 unfold leftOf
 exact Array.filter_eq_self.2 fun x hx=>by simp
theorem left_perm {es:Array MapEntry} {seen:Array Nat} {e:MapEntry} (hn:(es.toList.map (·.born)).Nodup) (he:e∈(leftOf es seen).toList):(leftOf es seen).toList.Perm (e::(leftOf es (seen.push e.born)).toList):=by
 obtain ⟨he1,he2⟩:=mem_left he
 have key:∀ (l:List MapEntry),(l.map (·.born)).Nodup→e∈l→(l.filter fun x=>!seen.contains x.born).Perm (e::l.filter fun x=>!(seen.push e.born).contains x.born):=by
  intro l
  induction l with
  | nil=>intro _ h;cases h
  | cons x l ih =>
   intro hnd hm
   rw[List.map_cons,List.nodup_cons] at hnd
   by_cases hx:x=e
   ·subst hx
    have h1:l.filter (fun y=>!(seen.push x.born).contains y.born)=l.filter fun y=>!seen.contains y.born:=by
     apply List.filter_congr
     intro y hy
     rw[contains_push]
     have:(y.born == x.born)=false:=by
      cases hb:y.born == x.born with
      | false=>rfl
      | true=>exact absurd (List.mem_map.2 ⟨y,hy,beq_iff_eq.1 hb⟩) hnd.1
     rw[this,Bool.or_false]
    rw[List.filter_cons,if_pos (by rw[he2];rfl),List.filter_cons,if_neg (by rw[contains_push];simp),h1]
   ·have hm':e∈l:=by
     rcases List.mem_cons.1 hm with h|h
     ·exact absurd h.symm hx
     ·exact h
    have hb:(x.born == e.born)=false:=by
     cases hb:x.born == e.born with
     | false=>rfl
     | true=>exact absurd (List.mem_map.2 ⟨e,hm',(beq_iff_eq.1 hb).symm⟩) hnd.1
    rw[List.filter_cons,List.filter_cons,contains_push,hb,Bool.or_false]
    split
    ·exact(List.Perm.cons x (ih hnd.2 hm')).trans (List.Perm.swap e x _)
    ·exact ih hnd.2 hm'
 unfold leftOf
 rw[Array.toList_filter,Array.toList_filter]
 exact key es.toList hn he1
section
variable {o:Oper} {n:Nat} {l:List (Nat × Value)} {L:List Asn} {C:Value→List Asn→Prop}
theorem ac_range {t:TypeId} {x:Operand} (ho:o.op=.range t x) {b:Nat} (hx:evl l x=some (.map (some b))) {K E:TypeId} (ht:MT t K E) {P:List (Value × Value)} {L1:List Asn} (hp:Pull L (mp b K P) L1) (h:∀ r,C (.pointer (some ⟨r,0,none⟩)) (mpR b r K P P none::L1)):AC o l L n C:=fun G a w F M=>by
 have M:=M.pull (hp.app G)
 obtain ⟨s,hs,_⟩:=M.head
 obtain ⟨es,clk,hb,h1,h2,h3,h4⟩:=hs.2
 have hlt:=(Array.getElem?_eq_some_iff.1 hb).1
 have:(execOp a.eval o).run Tryz.prog w=.ok (.value (.pointer (some ⟨w.heap.size,0,none⟩))) (w.alloc (.mapIter (some b) clk #[] clk)):=by
  unfold execOp
  rw[ho]
  have:=run_range_map w t K E b es clk ht.k hb
  simp[F.eval hx,this]
 rw[this]
 refine⟨_,h _,?_⟩
 refine M.change fun s hs=>?_
 obtain ⟨rfl,_⟩:=hs.now
 refine⟨⟨rfl,rfl,rfl,by simp,fun k hk _=>heap_alloc_old w _ hk⟩,[b,w.heap.size],ok_mpR (by omega) ⟨es,clk,clk,#[],clk,by rw[heap_alloc_old w _ hlt,hb],heap_alloc_new w _,h1,h2,h3,h4,⟨Nat.le_refl _,Nat.le_refl _⟩,h4.2,by rw[left_none];exact h1,fun p h=>by cases h⟩,fun x hx=>?_⟩
 simp only[List.mem_cons,List.not_mem_nil,or_false] at hx ⊢
 omega
theorem ac_nextE {x:Operand} (ho:o.op=.next x false) {r:Nat} (hx:evl l x=some (.pointer (some ⟨r,0,none⟩))) {b:Nat} {K:TypeId} {P:List (Value × Value)} {cur:Option (Value × Value)} {L1:List Asn} (hp:Pull L (mpR b r K P [] cur) L1) (h:C (.tuple #[.bool false]) L):AC o l L n C:=fun G a w F M=>by
 obtain ⟨hne,es,clk,since,seen,c0,h1,h2,h3,h4,h5,h6,h7,h8,h9,h10⟩:=gives_mpR (hp.app G) w M
 rcases run_next_at (P:=Tryz.prog) w o.type r b since c0 seen es clk h2 h1 h8 h7.1 with⟨_,hr⟩|⟨e,he,_⟩
 ·have:(execOp a.eval o).run Tryz.prog w=.ok (.value (.tuple #[.bool false])) w:=by
   unfold execOp
   rw[ho]
   simp[F.eval hx,hr]
  rw[this]
  exact⟨L,h,M⟩
 ·exfalso
  have:(e.key,e.val)∈pairL (leftOf es seen).toList:=List.mem_map.2 ⟨e,he,rfl⟩
  rw[h9.mem_iff] at this
  cases this
theorem ac_nextC {x:Operand} (ho:o.op=.next x false) {r:Nat} (hx:evl l x=some (.pointer (some ⟨r,0,none⟩))) {b:Nat} {K:TypeId} {P:List (Value × Value)} {p0:Value × Value} {todo:List (Value × Value)} {cur:Option (Value × Value)} {L1:List Asn} (hp:Pull L (mpR b r K P (p0::todo) cur) L1) (h:∀ p todo',(p0::todo).Perm (p::todo')→C (.tuple #[.bool true,p.1,p.2]) (mpR b r K P todo' (some p)::L1)):AC o l L n C:=fun G a w F M=>by
 have M:=M.pull (hp.app G)
 obtain ⟨s,hs,_⟩:=M.head
 obtain ⟨_,hne,es,clk,since,seen,c0,h1,h2,h3,h4,h5,h6,h7,h8,h9,h10⟩:=hs
 rcases run_next_at (P:=Tryz.prog) w o.type r b since c0 seen es clk h2 h1 h8 h7.1 with⟨hz,_⟩|⟨e,he,w1,hw1,hr⟩
 ·exfalso
  have h11:=h9.length_eq
  simp[pairL,hz] at h11
 ·have:(execOp a.eval o).run Tryz.prog w=.ok (.value (.tuple #[.bool true,e.key,e.val])) (setBlock w1 r (.mapIter (some b) since (seen.push e.born) clk)):=by
   unfold execOp
   rw[ho]
   simp[F.eval hx,hr]
  rw[this]
  have hlp:=left_perm h6.1 he
  have hpm:(p0::todo).Perm ((e.key,e.val)::pairL (leftOf es (seen.push e.born)).toList):=h9.symm.trans (hlp.map _)
  refine⟨_,h (e.key,e.val) _ hpm,M.change fun s hs=>?_⟩
  obtain ⟨rfl,_⟩:=hs.now
  have hrs:=(Array.getElem?_eq_some_iff.1 h2).1
  have hbs:=(Array.getElem?_eq_some_iff.1 h1).1
  have hee:=(mem_left he).1
  obtain ⟨g1,g2,g3,g4⟩:w1.heap=w.heap∧w1.os=w.os∧w1.tape=w.tape∧w1.output=w.output:=by rcases hw1 with rfl|rfl<;>exact⟨rfl,rfl,rfl,rfl⟩
  refine⟨?_,[b,r],ok_mpR hne ⟨es,clk,since,seen.push e.born,clk,?_,?_,h3,h4,h5,h6,⟨h7.2,h7.2⟩,h8,List.Perm.refl _,fun p hpe=>?_⟩,fun x hx=>.inl hx⟩
  ·exact⟨g2,g3,g4,by simp[setBlock,g1],fun k hk hb=>by simp only[List.mem_cons,List.not_mem_nil,or_false,not_or] at hb;simp[setBlock,g1,Array.getElem?_setIfInBounds,Ne.symm hb.2]⟩
  ·simp[setBlock,g1,Array.getElem?_setIfInBounds,Ne.symm hne,h1]
  ·simp[setBlock,g1,hrs]
  ·cases hpe
   exact⟨e,seen,hee,rfl,rfl,rfl⟩
theorem rt_entry {x:Operand} (ho:o.op=.entry x) {r:Nat} (hx:evl l x=some (.pointer (some ⟨r,0,none⟩))) {b:Nat} {K:TypeId} {P todo:List (Value × Value)} {p:Value × Value} {L1:List Asn} (hp:Pull L (mpR b r K P todo (some p)) L1):RT o l L n (.tuple #[p.1,p.2]):=fun a w F M=>by
 obtain ⟨hne,es,clk,since,seen,c0,h1,h2,h3,h4,h5,h6,h7,h8,h9,h10⟩:=gives_mpR hp w M
 obtain ⟨e,seen',he,rfl,rfl,rfl⟩:=h10 p rfl
 have:=run_entry_at (P:=Tryz.prog) w r b since seen' es c0 e h2 h1 he h6.1
 unfold execOp
 rw[ho]
 simp[F.eval hx,this]
end
end
def zk124:List Nat:=[0,2,3,12]
def zk125:List Nat:=[0,2,3,6,8,10,18]
section
open Go.RowKit Go.Maps
def stL (s:List UInt8):List Value:=[str s]
instance:EL stL 1:=⟨fun _=>rfl,fun x u h=>by simp[stL] at h;subst h;rfl⟩
def stNs:List (List UInt8):=[[112,101,110,100,105,110,103],[97,99,116,105,118,101],[101,120,105,116,105,110,103],[117,110,98,111,110,100,105,110,103],[119,105,116,104,100,114,97,119,97,98,108,101],[112,97,105,100],[109,101,114,103,101,100]]
def stNm (k:Int):List UInt8:=if k<1∨7<k then [] else (stNs[(k - 1).toNat]?).getD []
theorem stNs_at {k:Int} (h1:1≤k) (h2:k≤7):stNs[(k - 1).toNat]? = some (stNm k)∧stNm k≠[]:=by
 obtain ⟨m,rfl⟩:∃ m:Nat,k=m+1:=⟨(k - 1).toNat,by omega⟩
 rcases m with _|_|_|_|_|_|_|m
 all_goals first|(refine⟨by decide,by decide⟩)|omega
theorem snames_spec (R:List Asn):Spec 248 [] R fun u L'=>∃ h,u=sl h∧L'=ownT 9 stL 1 (sl h) stNs::R:=by
 (intro G w M;refine sx_enter (vs:=([]:List Value)) Tryz.func248 (n:=2) rfl rfl rfl rfl ?_;intro a F;(try simp only[zc,zn] at M))
 (repeat'(first|(first|refine sx_nil ?_|refine pv_nil ?_;intro a w F M);try replace F:=F.filt [0] rfl|refine zn1 F M ?_;clear F M a;(try clear w);intro a w F M|refine sv2 F M ?_;clear F M a;intro nb a w F M|refine zp1 ?_|refine zp2 ?_;intro nb|((first|refine svC F M ?_|refine svC0 F M ?_|refine pvC ?_|refine pvC0 ?_);(fail);(first|refine⟨rvsA,?_⟩|clear F M a;intro a w F M|clear M;intro w M))|refine zh F ?_ ?_<;>(intro hg;rw[hg] at F;try exact no hg)|refine zT F ?_|((with_reducible refine isK ?_);refine svB F ?_ ?_<;>intro hc<;>try exact no hc)|refine zY ?_;go_step|fail))
 all_goals refine zE F M ?_
 exact⟨_,_,rfl,⟨⟨_,_,_⟩,rfl,rfl⟩,M⟩
theorem sname_spec (k:Int) (R:List Asn):Spec 188 [.int .i64 k] R fun u L'=>u=str (stNm k)∧L'=R:=by
 have e7:stNs.length=7:=rfl
 (intro G w M;refine sx_enter (vs:=([.int .i64 k]:List Value)) Tryz.func188 (n:=18) rfl rfl rfl rfl ?_;intro a F;(try simp only[zc,zn] at M))
 by_cases hk:1≤k∧k≤7
 ·obtain ⟨hk1,hk2⟩:=hk
  have hnm:=(stNs_at hk1 hk2).1
  (repeat'(first|(first|refine sx_nil ?_|refine pv_nil ?_;intro a w F M);try replace F:=F.filt zk124 rfl|refine zn1 F M ?_;clear F M a;(try clear w);intro a w F M|refine sv2 F M ?_;clear F M a;intro nb a w F M|refine zp1 ?_|refine zp2 ?_;intro nb|((first|refine svC F M ?_|refine svC0 F M ?_|refine pvC ?_|refine pvC0 ?_);(((refine acW (k:=248) (snames_spec _) ?_);rintro u L' ⟨hs,rfl,rfl⟩));(first|refine⟨rvsA,?_⟩|clear F M a;intro a w F M|clear M;intro w M))|refine zh F ?_ ?_<;>(intro hg;rw[hg] at F;try exact no hg)|refine zT F ?_|((with_reducible refine isK ?_);refine svB F ?_ ?_<;>intro hc<;>try exact no hc)|refine zY ?_;go_step|fail))
  all_goals exact zX F M
 ·have hn:stNm k=[]:=by rw[stNm,if_pos (by omega)]
  by_cases h3:k<1
  ·(repeat'(first|(first|refine sx_nil ?_|refine pv_nil ?_;intro a w F M);try replace F:=F.filt zk124 rfl|refine zn1 F M ?_;clear F M a;(try clear w);intro a w F M|refine sv2 F M ?_;clear F M a;intro nb a w F M|refine zp1 ?_|refine zp2 ?_;intro nb|((first|refine svC F M ?_|refine svC0 F M ?_|refine pvC ?_|refine pvC0 ?_);(((refine acW (k:=248) (snames_spec _) ?_);rintro u L' ⟨hs,rfl,rfl⟩));(first|refine⟨rvsA,?_⟩|clear F M a;intro a w F M|clear M;intro w M))|refine zh F ?_ ?_<;>(intro hg;rw[hg] at F;try exact no hg)|refine zT F ?_|((with_reducible refine isK ?_);refine svB F ?_ ?_<;>intro hc<;>try exact no hc)|refine zY ?_;go_step|fail))
   (all_goals(refine zE F M ?_;exact⟨_,_,rfl,⟨by rw[hn];rfl,rfl⟩,M.perms permsA⟩))
  ·have h4:¬(k≤7):=by omega
   (repeat'(first|(first|refine sx_nil ?_|refine pv_nil ?_;intro a w F M);try replace F:=F.filt zk124 rfl|refine zn1 F M ?_;clear F M a;(try clear w);intro a w F M|refine sv2 F M ?_;clear F M a;intro nb a w F M|refine zp1 ?_|refine zp2 ?_;intro nb|((first|refine svC F M ?_|refine svC0 F M ?_|refine pvC ?_|refine pvC0 ?_);(((refine acW (k:=248) (snames_spec _) ?_);rintro u L' ⟨hs,rfl,rfl⟩));(first|refine⟨rvsA,?_⟩|clear F M a;intro a w F M|clear M;intro w M))|refine zh F ?_ ?_<;>(intro hg;rw[hg] at F;try exact no hg)|refine zT F ?_|((with_reducible refine isK ?_);refine svB F ?_ ?_<;>intro hc<;>try exact no hc)|refine zY ?_;go_step|fail))
   (all_goals(refine zE F M ?_;exact⟨_,_,rfl,⟨by rw[hn];rfl,rfl⟩,M.perms permsA⟩))
theorem Below.chg0 {w w':World} (h:Below w.heap.size w w'):Chg [] w w':=⟨h.os,h.tape,h.output,h.size,fun k hk _=>h.block k hk⟩
theorem stable_spec (R:List Asn):Spec 189 [] R fun u L'=>∃ b,u=.map (some b)∧L'=mp b 259 stepMap::R:=fun G w M=>by
 refine(table_any w).mono ?_
 rintro e w' ⟨rfl,hb,hM⟩
 exact⟨_,_,rfl,⟨_,rfl,rfl⟩,M.new (Below.chg0 hb) ⟨[w.heap.size],ok_mp hM,by simp⟩⟩
instance:MT 256 259 3:=⟨by kernel_rfl,stepKeyed⟩
def stepKs':List (Int × Int):=[(1,1),(2,2),(3,3),(4,4),(5,5),(2,6),(2,7),(3,7),(4,7),(5,7)]
theorem stepKey_of {p:Value × Value} (h:p∈stepMap):∃ a b,p.1=.agg #[.int .i64 a,.int .i64 b]∧(a,b)∈stepKs':=by
 simp only[stepMap,List.mem_cons,List.not_mem_nil,or_false] at h
 rcases h with rfl|rfl|rfl|rfl|rfl|rfl|rfl|rfl|rfl|rfl<;>exact⟨_,_,rfl,by simp[stepKs']⟩
theorem stepKey_all {s:Int} (h:∀ p∈stepMap,∀ a b,p.1=.agg #[.int .i64 a,.int .i64 b]→a≠s):s≠1∧s≠2∧s≠3∧s≠4∧s≠5 :=
 ⟨fun e=>h (stepV 1 1,.int .i64 2) (by simp[stepMap]) 1 1 rfl e.symm,fun e=>h (stepV 2 2,.int .i64 3) (by simp[stepMap]) 2 2 rfl e.symm,fun e=>h (stepV 3 3,.int .i64 4) (by simp[stepMap]) 3 3 rfl e.symm,fun e=>h (stepV 4 4,.int .i64 5) (by simp[stepMap]) 4 4 rfl e.symm,fun e=>h (stepV 5 5,.int .i64 6) (by simp[stepMap]) 5 5 rfl e.symm⟩
theorem final_spec (s:Int) (R:List Asn):Spec 123 [.int .i64 s] R fun u L'=>u=.bool (decide (s=6) || decide (s=7))∧L'=R:=by
 by_cases hk:1≤s∧s≤7
 ·obtain ⟨hk1,hk2⟩:=hk
  have hnm:=(stNs_at hk1 hk2).2
  have hnm2:¬stNm s=[]:=hnm
  (intro G w M;refine sx_enter (vs:=([.int .i64 s]:List Value)) Tryz.func123 (n:=19) rfl rfl rfl rfl ?_;intro a F;(try simp only[zc,zn] at M))
  (repeat'(first|(first|refine sx_nil ?_|refine pv_nil ?_;intro a w F M);try replace F:=F.filt zk125 rfl|refine zn1 F M ?_;clear F M a;(try clear w);intro a w F M|refine sv2 F M ?_;clear F M a;intro nb a w F M|refine zp1 ?_|refine zp2 ?_;intro nb|((first|refine svC F M ?_|refine svC0 F M ?_|refine pvC ?_|refine pvC0 ?_);((first|((refine acW (k:=188) (sname_spec s _) ?_);rintro u L' ⟨rfl,rfl⟩)|((refine acW (k:=189) (stable_spec _) ?_);rintro u L' ⟨nm,rfl,rfl⟩)|(refine ac_range rfl rfl inferInstance pullA ?_;intro nr)));(first|refine⟨rvsA,?_⟩|clear F M a;intro a w F M|clear M;intro w M))|refine zh F ?_ ?_<;>(intro hg;rw[hg] at F;try exact no hg)|refine zT F ?_|((with_reducible refine isK ?_);refine svB F ?_ ?_<;>intro hc<;>try exact no hc)|refine zY ?_;go_step|fail))
  refine svLoop F M ((stepMap,none):List (Value × Value) × Option (Value × Value)) (fun _=>[]) (fun x=>[mpR nm nr 259 stepMap x.1 x.2]) (fun x=>(∀ p∈x.1,p∈stepMap)∧∀ p∈stepMap,p∉x.1→∀ a b,p.1=.agg #[.int .i64 a,.int .i64 b]→a≠s) (fun x=>x.1.length) [] ⟨fun p hp=>hp,fun p h1 h2=>absurd h1 h2⟩ ?_
  (rintro⟨todo,cur⟩ ⟨q1,q2⟩ a w F M;(try simp only[zc,zn] at F M q1 q2 ⊢))
  cases todo with
  | nil =>
   (repeat'(first|(first|refine sx_nil ?_|refine pv_nil ?_;intro a w F M);try replace F:=F.filt zk125 rfl|refine zn1 F M ?_;clear F M a;(try clear w);intro a w F M|refine sv2 F M ?_;clear F M a;intro nb a w F M|refine zp1 ?_|refine zp2 ?_;intro nb|((first|refine svC F M ?_|refine svC0 F M ?_|refine pvC ?_|refine pvC0 ?_);((refine ac_nextE rfl rfl pullA ?_));(first|refine⟨rvsA,?_⟩|clear F M a;intro a w F M|clear M;intro w M))|refine zh F ?_ ?_<;>(intro hg;rw[hg] at F;try exact no hg)|refine zT F ?_|((with_reducible refine isK ?_);refine svB F ?_ ?_<;>intro hc<;>try exact no hc)|refine zY ?_;go_step|fail))
   refine zE F M ?_
   obtain ⟨n1,n2,n3,n4,n5⟩:=stepKey_all fun p hp=>q2 p hp (by simp)
   exact⟨_,_,rfl,⟨by simp[tupOf];omega,rfl⟩,M.perms permsA⟩
  | cons p0 todo =>
   (repeat'(first|((first|refine sv1 F M (h:=?_) (hr:=by((apply rt_entry;(exact rfl);(exact rfl);(exact pullA))))|refine pv1 (h:=?_) (hr:=by((apply rt_entry;(exact rfl);(exact rfl);(exact pullA)))));(try(clear F a;intro a F)))|(first|refine sx_nil ?_|refine pv_nil ?_;intro a w F M);try replace F:=F.filt zk125 rfl|refine zn1 F M ?_;clear F M a;(try clear w);intro a w F M|refine sv2 F M ?_;clear F M a;intro nb a w F M|refine zp1 ?_|refine zp2 ?_;intro nb|((first|refine svC F M ?_|refine svC0 F M ?_|refine pvC ?_|refine pvC0 ?_);((refine ac_nextC rfl rfl pullA ?_;intro p todo' hpm;obtain ⟨ka,kb,hk,hm⟩:=stepKey_of (q1 _ (hpm.mem_iff.2 (List.mem_cons_self ..)));obtain ⟨pk,pv⟩:=p;simp only at hk;subst hk));(first|refine⟨rvsA,?_⟩|clear F M a;intro a w F M|clear M;intro w M))|refine zh F ?_ ?_<;>(intro hg;rw[hg] at F;try exact no hg)|refine zT F ?_|((with_reducible refine isK ?_);refine svB F ?_ ?_<;>intro hc<;>try exact no hc)|refine zY ?_;go_step|fail))
   ·obtain ⟨rfl,_⟩:=hc
    refine zE F M ?_
    refine⟨_,_,rfl,⟨?_,rfl⟩,M.perms permsA⟩
    have h5:s≠6∧s≠7:=by
     simp only[stepKs',List.mem_cons,Prod.mk.injEq,List.not_mem_nil,or_false] at hm
     omega
    simp[tupOf,h5.1,h5.2]
   ·have hne:ka≠s:=by rcases hc with h|h|h<;>simp_all<;>omega
    have hlen:=hpm.length_eq
    simp only[List.length_cons] at hlen
    refine sv_again F M (todo',_) kpA permsA ⟨fun p hp=>q1 p (hpm.mem_iff.2 (List.mem_cons_of_mem _ hp)),fun p hp hno x y hxy=>?_⟩ (by simp only[List.length_cons];omega)
    by_cases hpe:p∈p0::todo
    ·rcases List.mem_cons.1 (hpm.mem_iff.1 hpe) with rfl|h
     ·simp at hxy
      rw[← hxy.1];exact hne
     ·exact absurd h hno
    ·exact q2 p hp hpe x y hxy
 ·have hn:stNm s=[]:=by rw[stNm,if_pos (by omega)]
  (intro G w M;refine sx_enter (vs:=([.int .i64 s]:List Value)) Tryz.func123 (n:=19) rfl rfl rfl rfl ?_;intro a F;(try simp only[zc,zn] at M))
  (repeat'(first|(first|refine sx_nil ?_|refine pv_nil ?_;intro a w F M);try replace F:=F.filt zk125 rfl|refine zn1 F M ?_;clear F M a;(try clear w);intro a w F M|refine sv2 F M ?_;clear F M a;intro nb a w F M|refine zp1 ?_|refine zp2 ?_;intro nb|((first|refine svC F M ?_|refine svC0 F M ?_|refine pvC ?_|refine pvC0 ?_);((first|((refine acW (k:=188) (sname_spec s _) ?_);rintro u L' ⟨rfl,rfl⟩)));(first|refine⟨rvsA,?_⟩|clear F M a;intro a w F M|clear M;intro w M))|refine zh F ?_ ?_<;>(intro hg;rw[hg] at F;try exact no hg)|refine zT F ?_|((with_reducible refine isK ?_);refine svB F ?_ ?_<;>intro hc<;>try exact no hc)|refine zY ?_;go_step|fail))
  (all_goals(refine zE F M ?_;exact⟨_,_,rfl,⟨by simp[tupOf];omega,rfl⟩,M.perms permsA⟩))
end
section
open Go.RowKit
def pLeav (s:Int):Bool:=decide (3≤s) && decide (s≤6)
def pBond (v:Val):Bool:=decide (v.st=4) || decide (v.st=3) && decide (v.ex≠-1)
def pPend (v:Val):Bool:=decide (v.st=1)
def pExit (v:Val):Bool:=decide (v.st=3) && decide (v.ex = -1)
def pEpo (un:Int) (v:Val):Bool:=decide (v.ex = -1) || pLeav v.st && decide (v.rq<v.ex) && decide (un≤v.wd - v.ex)
def pEmp (v:Val):Bool:=decide (v.bal=0) || !(decide (v.st=6) || decide (v.st=7))
def pSla (v:Val):Bool:=!v.sl || pLeav v.st && decide (v.dl = -1)
theorem leaving_spec (s:Int) (R:List Asn):Spec 120 [.int .i64 s] R fun u L'=>u=.bool (pLeav s)∧L'=R:=by
 (intro G w M;refine sx_enter (vs:=([.int .i64 s]:List Value)) Tryz.func120 (n:=9) rfl rfl rfl rfl ?_;intro a F;(try simp only[zc,zn] at M))
 (repeat'(first|(first|refine sx_nil ?_|refine pv_nil ?_;intro a w F M);try replace F:=F.filt [0,2] rfl|refine zn1 F M ?_;clear F M a;(try clear w);intro a w F M|refine sv2 F M ?_;clear F M a;intro nb a w F M|refine zp1 ?_|refine zp2 ?_;intro nb|((first|refine svC F M ?_|refine svC0 F M ?_|refine pvC ?_|refine pvC0 ?_);(fail);(first|refine⟨rvsA,?_⟩|clear F M a;intro a w F M|clear M;intro w M))|refine zh F ?_ ?_<;>(intro hg;rw[hg] at F;try exact no hg)|refine zT F ?_|((with_reducible refine isK ?_);refine svB F ?_ ?_<;>intro hc<;>try exact no hc)|refine zY ?_;go_step|fail))
 all_goals refine zE F M ?_
 all_goals exact⟨_,_,rfl,⟨by simp_all [tupOf,pLeav]<;>intros<;>omega,rfl⟩,M.perms permsA⟩
theorem bonded_spec (x:Val) (R:List Asn):Spec 125 [valV x] R fun u L'=>u=.bool (pBond x)∧L'=R:=by
 (intro G w M;refine sx_enter (vs:=([valV x]:List Value)) Tryz.func125 (n:=16) rfl rfl rfl rfl ?_;intro a F;(try simp only[zc,zn] at M))
 (repeat'(first|(first|refine sx_nil ?_|refine pv_nil ?_;intro a w F M);try replace F:=F.filt zk32 rfl|refine zn1 F M ?_;clear F M a;(try clear w);intro a w F M|refine sv2 F M ?_;clear F M a;intro nb a w F M|refine zp1 ?_|refine zp2 ?_;intro nb|((first|refine svC F M ?_|refine svC0 F M ?_|refine pvC ?_|refine pvC0 ?_);(fail);(first|refine⟨rvsA,?_⟩|clear F M a;intro a w F M|clear M;intro w M))|refine zh F ?_ ?_<;>(intro hg;rw[hg] at F;try exact no hg)|refine zT F ?_|((with_reducible refine isK ?_);refine svB F ?_ ?_<;>intro hc<;>try exact no hc)|refine zY ?_;go_step|fail))
 all_goals refine zE F M ?_
 all_goals exact⟨_,_,rfl,⟨by simp_all [tupOf,pBond],rfl⟩,M.perms permsA⟩
theorem each_spec (x:Val) (R:List Asn):Spec 107 [valV x] R fun u L'=>u=.bool true∧L'=R:=by
 (intro G w M;refine sx_enter (vs:=([valV x]:List Value)) Tryz.func107 (n:=3) rfl rfl rfl rfl ?_;intro a F;(try simp only[zc,zn] at M))
 (repeat'(first|(first|refine sx_nil ?_|refine pv_nil ?_;intro a w F M);try replace F:=F.filt [0,2] rfl|refine zn1 F M ?_;clear F M a;(try clear w);intro a w F M|refine sv2 F M ?_;clear F M a;intro nb a w F M|refine zp1 ?_|refine zp2 ?_;intro nb|((first|refine svC F M ?_|refine svC0 F M ?_|refine pvC ?_|refine pvC0 ?_);(fail);(first|refine⟨rvsA,?_⟩|clear F M a;intro a w F M|clear M;intro w M))|refine zh F ?_ ?_<;>(intro hg;rw[hg] at F;try exact no hg)|refine zT F ?_|((with_reducible refine isK ?_);refine svB F ?_ ?_<;>intro hc<;>try exact no hc)|refine zY ?_;go_step|fail))
 all_goals exact zX F M
theorem cLive_spec (x:Val) (R:List Asn):Spec 110 [valV x] R fun u L'=>u=.bool x.live∧L'=R:=by
 (intro G w M;refine sx_enter (vs:=([valV x]:List Value)) Tryz.func110 (n:=6) rfl rfl rfl rfl ?_;intro a F;(try simp only[zc,zn] at M))
 (repeat'(first|(first|refine sx_nil ?_|refine pv_nil ?_;intro a w F M);try replace F:=F.filt zk32 rfl|refine zn1 F M ?_;clear F M a;(try clear w);intro a w F M|refine sv2 F M ?_;clear F M a;intro nb a w F M|refine zp1 ?_|refine zp2 ?_;intro nb|((first|refine svC F M ?_|refine svC0 F M ?_|refine pvC ?_|refine pvC0 ?_);(((refine acW (k:=111) (live_spec _ _) ?_);rintro u L' ⟨rfl,rfl⟩));(first|refine⟨rvsA,?_⟩|clear F M a;intro a w F M|clear M;intro w M))|refine zh F ?_ ?_<;>(intro hg;rw[hg] at F;try exact no hg)|refine zT F ?_|((with_reducible refine isK ?_);refine svB F ?_ ?_<;>intro hc<;>try exact no hc)|refine zY ?_;go_step|fail))
 all_goals exact zX F M
theorem cPend_spec (x:Val) (R:List Asn):Spec 114 [valV x] R fun u L'=>u=.bool (pPend x)∧L'=R:=by
 (intro G w M;refine sx_enter (vs:=([valV x]:List Value)) Tryz.func114 (n:=6) rfl rfl rfl rfl ?_;intro a F;(try simp only[zc,zn] at M))
 (repeat'(first|(first|refine sx_nil ?_|refine pv_nil ?_;intro a w F M);try replace F:=F.filt zk32 rfl|refine zn1 F M ?_;clear F M a;(try clear w);intro a w F M|refine sv2 F M ?_;clear F M a;intro nb a w F M|refine zp1 ?_|refine zp2 ?_;intro nb|((first|refine svC F M ?_|refine svC0 F M ?_|refine pvC ?_|refine pvC0 ?_);(fail);(first|refine⟨rvsA,?_⟩|clear F M a;intro a w F M|clear M;intro w M))|refine zh F ?_ ?_<;>(intro hg;rw[hg] at F;try exact no hg)|refine zT F ?_|((with_reducible refine isK ?_);refine svB F ?_ ?_<;>intro hc<;>try exact no hc)|refine zY ?_;go_step|fail))
 all_goals exact zX F M
theorem cExit_spec (x:Val) (R:List Asn):Spec 116 [valV x] R fun u L'=>u=.bool (pExit x)∧L'=R:=by
 (intro G w M;refine sx_enter (vs:=([valV x]:List Value)) Tryz.func116 (n:=11) rfl rfl rfl rfl ?_;intro a F;(try simp only[zc,zn] at M))
 (repeat'(first|(first|refine sx_nil ?_|refine pv_nil ?_;intro a w F M);try replace F:=F.filt zk32 rfl|refine zn1 F M ?_;clear F M a;(try clear w);intro a w F M|refine sv2 F M ?_;clear F M a;intro nb a w F M|refine zp1 ?_|refine zp2 ?_;intro nb|((first|refine svC F M ?_|refine svC0 F M ?_|refine pvC ?_|refine pvC0 ?_);(fail);(first|refine⟨rvsA,?_⟩|clear F M a;intro a w F M|clear M;intro w M))|refine zh F ?_ ?_<;>(intro hg;rw[hg] at F;try exact no hg)|refine zT F ?_|((with_reducible refine isK ?_);refine svB F ?_ ?_<;>intro hc<;>try exact no hc)|refine zY ?_;go_step|fail))
 all_goals refine zE F M ?_
 all_goals exact⟨_,_,rfl,⟨by simp_all [tupOf,pExit],rfl⟩,M.perms permsA⟩
theorem cEmp_spec (x:Val) (R:List Asn):Spec 122 [valV x] R fun u L'=>u=.bool (pEmp x)∧L'=R:=by
 (intro G w M;refine sx_enter (vs:=([valV x]:List Value)) Tryz.func122 (n:=12) rfl rfl rfl rfl ?_;intro a F;(try simp only[zc,zn] at M))
 (repeat'(first|(first|refine sx_nil ?_|refine pv_nil ?_;intro a w F M);try replace F:=F.filt zk32 rfl|refine zn1 F M ?_;clear F M a;(try clear w);intro a w F M|refine sv2 F M ?_;clear F M a;intro nb a w F M|refine zp1 ?_|refine zp2 ?_;intro nb|((first|refine svC F M ?_|refine svC0 F M ?_|refine pvC ?_|refine pvC0 ?_);(((refine acW (k:=123) (final_spec _ _) ?_);rintro u L' ⟨rfl,rfl⟩));(first|refine⟨rvsA,?_⟩|clear F M a;intro a w F M|clear M;intro w M))|refine zh F ?_ ?_<;>(intro hg;rw[hg] at F;try exact no hg)|refine zT F ?_|((with_reducible refine isK ?_);refine svB F ?_ ?_<;>intro hc<;>try exact no hc)|refine zY ?_;go_step|fail))
 all_goals refine zE F M ?_
 all_goals exact⟨_,_,rfl,⟨by simp_all [tupOf,pEmp],rfl⟩,M.perms permsA⟩
theorem cSla_spec (x:Val) (R:List Asn):Spec 129 [valV x] R fun u L'=>u=.bool (pSla x)∧L'=R:=by
 (intro G w M;refine sx_enter (vs:=([valV x]:List Value)) Tryz.func129 (n:=16) rfl rfl rfl rfl ?_;intro a F;(try simp only[zc,zn] at M))
 (repeat'(first|(first|refine sx_nil ?_|refine pv_nil ?_;intro a w F M);try replace F:=F.filt zk32 rfl|refine zn1 F M ?_;clear F M a;(try clear w);intro a w F M|refine sv2 F M ?_;clear F M a;intro nb a w F M|refine zp1 ?_|refine zp2 ?_;intro nb|((first|refine svC F M ?_|refine svC0 F M ?_|refine pvC ?_|refine pvC0 ?_);(((refine acW (k:=120) (leaving_spec _ _) ?_);rintro u L' ⟨rfl,rfl⟩));(first|refine⟨rvsA,?_⟩|clear F M a;intro a w F M|clear M;intro w M))|refine zh F ?_ ?_<;>(intro hg;rw[hg] at F;try exact no hg)|refine zT F ?_|((with_reducible refine isK ?_);refine svB F ?_ ?_<;>intro hc<;>try exact no hc)|refine zY ?_;go_step|fail))
 all_goals refine zE F M ?_
 all_goals exact⟨_,_,rfl,⟨by simp_all [tupOf,pSla],rfl⟩,M.perms permsA⟩
def epR (x:Val):Prop:=(-1152921504606846976≤x.ex∧x.ex≤1152921504606846976)∧(-1152921504606846976≤x.wd∧x.wd≤1152921504606846976)
theorem cEpo_spec (x:Val) (c:Cfg) (b:Nat) (hx:epR x) (R:List Asn):Spec 119 [valV x,ptr b] (pt b (cfgL c) 30::R) fun u L'=>u=.bool (pEpo c.unbonding x)∧L'=pt b (cfgL c) 30::R:=by
 obtain ⟨⟨h1,h2⟩,h3,h4⟩:=hx
 (intro G w M;refine sx_enter (vs:=([valV x,ptr b]:List Value)) Tryz.func119 (n:=29) rfl rfl rfl rfl ?_;intro a F;(try simp only[zc,zn] at M))
 (repeat'(first|(first|refine sx_nil ?_|refine pv_nil ?_;intro a w F M);try replace F:=F.filt zk64 rfl|refine zn1 F M ?_;clear F M a;(try clear w);intro a w F M|refine sv2 F M ?_;clear F M a;intro nb a w F M|refine zp1 ?_|refine zp2 ?_;intro nb|((first|refine svC F M ?_|refine svC0 F M ?_|refine pvC ?_|refine pvC0 ?_);(((refine acW (k:=120) (leaving_spec _ _) ?_);rintro u L' ⟨rfl,rfl⟩));(first|refine⟨rvsA,?_⟩|clear F M a;intro a w F M|clear M;intro w M))|refine zh F ?_ ?_<;>(intro hg;rw[hg] at F;try exact no hg)|refine zT F ?_|((with_reducible refine isK ?_);refine svB F ?_ ?_<;>intro hc<;>try exact no hc)|refine zY ?_;go_step|fail))
 all_goals refine zE F M ?_
 all_goals exact⟨_,_,rfl,⟨by simp_all [tupOf,pEpo]<;>intros<;>omega,rfl⟩,M.perms permsA⟩
end
def zk126:List Nat:=[0,1,2,6,7,9,10,11,12,13,18]
section
open Go.RowKit
def allA (c:FuncId) (b:Nat) (caps:Array Value) (A:Asn):Asn:=exA fun _:Unit=>[pt b [.func (.func c) #[] caps] 170,A]
theorem allA_open (c:FuncId) {w:World} {L:List Asn} {b:Nat} {caps:Array Value} {A:Asn} (M:Mem w (allA c b caps A::L)):Mem w (pt b [.func (.func c) #[] caps] 170::A::L):=by
 obtain ⟨_,M⟩:=M.exo
 exact M
theorem allA_close (c:FuncId) {w:World} {L:List Asn} {b:Nat} {caps:Array Value} {A:Asn} (M:Mem w (pt b [.func (.func c) #[] caps] 170::A::L)):Mem w (allA c b caps A::L):=Mem.exc (f:=fun _:Unit=>[pt b [.func (.func c) #[] caps] 170,A]) () M
section
variable (c:FuncId) [hfk:FK c] (p:Val→Bool) (V:List Val) (v:Value) (R:List Asn) (hg:GS R 7 v V.length (V.flatMap valL)) (hlen:V.length≤1000000)
include hg hlen hfk in
theorem sum_spec (hcl:∀ x∈V,∀ R,Spec c [valV x] R fun u L'=>u=.bool (p x)∧L'=R) (hb:∀ x∈V,U64 x.bal) (h:SlH) (xs:List Int) (hxs:∀ z∈xs,U64 z) (hxl:xs.length≤10) :
  Spec 106 [v,.func (.func c) #[] #[],sl h] (ownT 23 u64L 1 (sl h) xs::R) fun u L'=>u=.tuple [.int .u64 (addR (xs++((V.filter p).map (·.bal)))).1,.bool (addR (xs++((V.filter p).map (·.bal)))).2].toArray∧L'=R:=by
 have ha:∀ {L:List Asn} {v:Value} {zs:List Int},(∀ z∈zs,U64 z)→GS L 1 v zs.length (zs.flatMap u64L)→Reads 39 [v] (.tuple [.int .u64 (addR zs).1,.bool (addR zs).2].toArray) L:=fun hz hg=>gadd_reads _ _ hz hg
 (intro G w M;refine sx_enter (vs:=([v,.func (.func c) #[] #[],sl h]:List Value)) Tryz.func106 (n:=29) rfl rfl rfl rfl ?_;intro a F;(try simp only[zc,zn] at M))
 have hG:GS (R++G) 7 v V.length (V.flatMap valL):=Gives.app hg
 (repeat'(first|(first|refine sx_nil ?_|refine pv_nil ?_;intro a w F M);try replace F:=F.filt zk126 rfl|refine zn1 F M ?_;clear F M a;(try clear w);intro a w F M|refine sv2 F M ?_;clear F M a;intro nb a w F M|refine zp1 ?_|refine zp2 ?_;intro nb|((first|refine svC F M ?_|refine svC0 F M ?_|refine pvC ?_|refine pvC0 ?_);(fail);(first|refine⟨rvsA,?_⟩|clear F M a;intro a w F M|clear M;intro w M))|refine zh F ?_ ?_<;>(intro hg;rw[hg] at F;try exact no hg)|refine zT F ?_|((with_reducible refine isK ?_);refine svB F ?_ ?_<;>intro hc<;>try exact no hc)|refine zY ?_;go_step|fail))
 refine svLoop F M ((0,h):Nat × SlH) (fun s=>[(12,.int .i64 s.1),(2,sl s.2)]) (fun s=>[ownT 23 u64L 1 (sl s.2) (xs++((V.take s.1).filter p).map (·.bal))]) (fun s=>s.1≤V.length) (fun s=>V.length - s.1) [9] (Nat.zero_le _) ?_ (hR:=by simp only[List.take_zero,List.filter_nil,List.map_nil,List.append_nil];exact .cons .here .nil)
 (rintro⟨k,h⟩ q1 a w F M;(try simp only[zc,zn] at F M q1 ⊢))
 have hfl:((V.take k).filter p).length≤V.length:=Nat.le_trans (List.length_filter_le _ _) (by rw[List.length_take];omega)
 by_cases hlt:k<V.length
 ·obtain ⟨x,hx⟩:∃ x,V[k]? = some x:=⟨V[k],by simp[hlt]⟩
  have hs:=hcl x (List.mem_of_getElem? hx)
  have ht:((V.take (k+1)).filter p).map (·.bal)=((V.take k).filter p).map (·.bal)++(if p x=true then [x.bal] else []):=by
   rw[List.take_add_one,hx,List.filter_append,List.map_append];cases hp:p x<;>simp[hp]
  cases hp:p x
  all_goals rw[hp] at hs ht
  ·(repeat'(first|(first|refine sx_nil ?_|refine pv_nil ?_;intro a w F M);try replace F:=F.filt zk126 rfl|refine zn1 F M ?_;clear F M a;(try clear w);intro a w F M|refine sv2 F M ?_;clear F M a;intro nb a w F M|refine zp1 ?_|refine zp2 ?_;intro nb|((first|refine svC F M ?_|refine svC0 F M ?_|refine pvC ?_|refine pvC0 ?_);((first|((refine acW (k:=c) (hs _) ?_);rintro u L' ⟨rfl,rfl⟩)|(refine ac_appendH rfl rfl inferInstance rfl rfl pullA inferInstance (ys:=[x.bal]) gsA rfl rfl (by simp;omega) ?_;intro nv)));(first|refine⟨rvsA,?_⟩|clear F M a;intro a w F M|clear M;intro w M))|refine zh F ?_ ?_<;>(intro hg;rw[hg] at F;try exact no hg)|refine zT F ?_|((with_reducible refine isK ?_);refine svB F ?_ ?_<;>intro hc<;>try exact no hc)|refine zY ?_;go_step|fail))
   rw[if_neg (by decide),List.append_nil] at ht
   rw[← ht] at M
   refine sv_again F M (k+1,h) kpA permsA (by simp only;omega) (by simp only;omega)
  ·(repeat'(first|(first|refine sx_nil ?_|refine pv_nil ?_;intro a w F M);try replace F:=F.filt zk126 rfl|refine zn1 F M ?_;clear F M a;(try clear w);intro a w F M|refine sv2 F M ?_;clear F M a;intro nb a w F M|refine zp1 ?_|refine zp2 ?_;intro nb|((first|refine svC F M ?_|refine svC0 F M ?_|refine pvC ?_|refine pvC0 ?_);((first|((refine acW (k:=c) (hs _) ?_);rintro u L' ⟨rfl,rfl⟩)|(refine ac_appendH rfl rfl inferInstance rfl rfl pullA inferInstance (ys:=[x.bal]) gsA rfl rfl (by simp;omega) ?_;intro nv)));(first|refine⟨rvsA,?_⟩|clear F M a;intro a w F M|clear M;intro w M))|refine zh F ?_ ?_<;>(intro hg;rw[hg] at F;try exact no hg)|refine zT F ?_|((with_reducible refine isK ?_);refine svB F ?_ ?_<;>intro hc<;>try exact no hc)|refine zY ?_;go_step|fail))
   rw[if_pos rfl] at ht
   rw[List.append_assoc,← ht] at M
   refine sv_again F M (k+1,nv) kpA permsA (by simp only;omega) (by simp only;omega)
 ·obtain rfl:k=V.length:=by omega
  rw[List.take_length] at M
  have hall:∀ z∈xs++(V.filter p).map (·.bal),U64 z:=fun z hz=>by
   rcases List.mem_append.1 hz with hz|hz
   ·exact hxs z hz
   ·obtain ⟨y,hy,rfl⟩:=List.mem_map.1 hz
    exact hb y (List.mem_filter.1 hy).1
  (repeat'(first|(first|refine sx_nil ?_|refine pv_nil ?_;intro a w F M);try replace F:=F.filt zk126 rfl|refine zn1 F M ?_;clear F M a;(try clear w);intro a w F M|refine sv2 F M ?_;clear F M a;intro nb a w F M|refine zp1 ?_|refine zp2 ?_;intro nb|((first|refine svC F M ?_|refine svC0 F M ?_|refine pvC ?_|refine pvC0 ?_);(((refine acCall (k:=39) ?_);(refine Spec.of_reads (ha hall (gs_own pullA)) rfl ?_)));(first|refine⟨rvsA,?_⟩|clear F M a;intro a w F M|clear M;intro w M))|refine zh F ?_ ?_<;>(intro hg;rw[hg] at F;try exact no hg)|refine zT F ?_|((with_reducible refine isK ?_);refine svB F ?_ ?_<;>intro hc<;>try exact no hc)|refine zY ?_;go_step|fail))
  all_goals exact zX F M
include hg hlen hfk in
theorem idxV_spec (caps:Array Value) (A:Asn) (hcl:∀ x∈V,∀ R,Spec c (valV x::caps.toList) (A::R) fun u L'=>u=.bool (p x)∧L'=A::R) :
  Spec 247 [v,.func (.func c) #[] caps] (A::R) fun u L'=>u=.int .i64 (idxP p V 0)∧L'=A::R:=by
 generalize hX:idxP p V 0=X
 (intro G w M;refine sx_enter (vs:=([v,.func (.func c) #[] caps]:List Value)) Tryz.func247 (n:=19) rfl rfl rfl rfl ?_;intro a F;(try simp only[zc,zn] at M))
 have hG:GS (R++G) 7 v V.length (V.flatMap valL):=Gives.app hg
 (repeat'(first|(first|refine sx_nil ?_|refine pv_nil ?_;intro a w F M);try replace F:=F.filt zk34 rfl|refine zn1 F M ?_;clear F M a;(try clear w);intro a w F M|refine sv2 F M ?_;clear F M a;intro nb a w F M|refine zp1 ?_|refine zp2 ?_;intro nb|((first|refine svC F M ?_|refine svC0 F M ?_|refine pvC ?_|refine pvC0 ?_);(fail);(first|refine⟨rvsA,?_⟩|clear F M a;intro a w F M|clear M;intro w M))|refine zh F ?_ ?_<;>(intro hg;rw[hg] at F;try exact no hg)|refine zT F ?_|((with_reducible refine isK ?_);refine svB F ?_ ?_<;>intro hc<;>try exact no hc)|refine zY ?_;go_step|fail))
 refine svLoop F M (0:Nat) (fun k=>[(8,.int .i64 k)]) (fun _=>[]) (fun k=>k≤V.length∧idxP p (V.drop k) k=X) (fun k=>V.length - k) [5] ⟨by omega,by simpa using hX⟩ ?_
 (rintro k ⟨q1,q2⟩ a w F M;(try simp only[zc,zn] at F M q1 q2 ⊢))
 by_cases hlt:k<V.length
 ·obtain ⟨x,hx⟩:∃ x,V[k]? = some x:=⟨V[k],by simp[hlt]⟩
  rw[drop_cons hx,idxP] at q2
  have hs:=hcl x (List.mem_of_getElem? hx)
  cases hp:p x
  all_goals rw[hp] at hs q2
  ·(repeat'(first|(first|refine sx_nil ?_|refine pv_nil ?_;intro a w F M);try replace F:=F.filt zk34 rfl|refine zn1 F M ?_;clear F M a;(try clear w);intro a w F M|refine sv2 F M ?_;clear F M a;intro nb a w F M|refine zp1 ?_|refine zp2 ?_;intro nb|((first|refine svC F M ?_|refine svC0 F M ?_|refine pvC ?_|refine pvC0 ?_);(((refine acK (k:=c) (hs _) ?_);rintro u L' ⟨rfl,rfl⟩));(first|refine⟨rvsA,?_⟩|clear F M a;intro a w F M|clear M;intro w M))|refine zh F ?_ ?_<;>(intro hg;rw[hg] at F;try exact no hg)|refine zT F ?_|((with_reducible refine isK ?_);refine svB F ?_ ?_<;>intro hc<;>try exact no hc)|refine zY ?_;go_step|fail))
   refine sv_again F M (k+1) kpA permsA ⟨by omega,by simpa using q2⟩ (by omega)
  ·simp only[if_true] at q2
   (repeat'(first|(first|refine sx_nil ?_|refine pv_nil ?_;intro a w F M);try replace F:=F.filt zk34 rfl|refine zn1 F M ?_;clear F M a;(try clear w);intro a w F M|refine sv2 F M ?_;clear F M a;intro nb a w F M|refine zp1 ?_|refine zp2 ?_;intro nb|((first|refine svC F M ?_|refine svC0 F M ?_|refine pvC ?_|refine pvC0 ?_);(((refine acK (k:=c) (hs _) ?_);rintro u L' ⟨rfl,rfl⟩));(first|refine⟨rvsA,?_⟩|clear F M a;intro a w F M|clear M;intro w M))|refine zh F ?_ ?_<;>(intro hg;rw[hg] at F;try exact no hg)|refine zT F ?_|((with_reducible refine isK ?_);refine svB F ?_ ?_<;>intro hc<;>try exact no hc)|refine zY ?_;go_step|fail))
   (all_goals(refine zE F M ?_;exact⟨_,_,rfl,⟨by rw[← q2];rfl,rfl⟩,M.perms permsA⟩))
 ·rw[List.drop_of_length_le (by omega)] at q2
  simp only[idxP] at q2
  (repeat'(first|(first|refine sx_nil ?_|refine pv_nil ?_;intro a w F M);try replace F:=F.filt zk34 rfl|refine zn1 F M ?_;clear F M a;(try clear w);intro a w F M|refine sv2 F M ?_;clear F M a;intro nb a w F M|refine zp1 ?_|refine zp2 ?_;intro nb|((first|refine svC F M ?_|refine svC0 F M ?_|refine pvC ?_|refine pvC0 ?_);(fail);(first|refine⟨rvsA,?_⟩|clear F M a;intro a w F M|clear M;intro w M))|refine zh F ?_ ?_<;>(intro hg;rw[hg] at F;try exact no hg)|refine zT F ?_|((with_reducible refine isK ?_);refine svB F ?_ ?_<;>intro hc<;>try exact no hc)|refine zY ?_;go_step|fail))
  (all_goals(refine zE F M ?_;exact⟨_,_,rfl,⟨by rw[← q2];rfl,rfl⟩,M.perms permsA⟩))
theorem idxP_any (p:Val→Bool) (V:List Val):decide (0≤idxP p V 0)=V.any p:=by
 rcases idxP_spec p V 0 with⟨h1,h2⟩|⟨i,x,h1,h2,h3,h4⟩
 ·rw[h1,List.any_eq_false.2 fun x hx=>by rw[h2 x hx];decide];rfl
 ·rw[h2,List.any_eq_true.2 ⟨x,List.mem_of_getElem? h1,h4⟩];simp
include hg hlen hfk in
theorem conV_spec (caps:Array Value) (A:Asn) (hcl:∀ x∈V,∀ R,Spec c (valV x::caps.toList) (A::R) fun u L'=>u=.bool (p x)∧L'=A::R) :
  Spec 186 [v,.func (.func c) #[] caps] (A::R) fun u L'=>u=.bool (V.any p)∧L'=A::R:=by
 have hi:=fun (R:List Asn) hg=>idxV_spec c p V v R hg hlen caps A hcl
 (intro G w M;refine sx_enter (vs:=([v,.func (.func c) #[] caps]:List Value)) Tryz.func186 (n:=9) rfl rfl rfl rfl ?_;intro a F;(try simp only[zc,zn] at M))
 have hG:GS (R++G) 7 v V.length (V.flatMap valL):=Gives.app hg
 (repeat'(first|(first|refine sx_nil ?_|refine pv_nil ?_;intro a w F M);try replace F:=F.filt zk41 rfl|refine zn1 F M ?_;clear F M a;(try clear w);intro a w F M|refine sv2 F M ?_;clear F M a;intro nb a w F M|refine zp1 ?_|refine zp2 ?_;intro nb|((first|refine svC F M ?_|refine svC0 F M ?_|refine pvC ?_|refine pvC0 ?_);(((refine acK (k:=247) (hi _ hG) ?_);rintro u L' ⟨rfl,rfl⟩));(first|refine⟨rvsA,?_⟩|clear F M a;intro a w F M|clear M;intro w M))|refine zh F ?_ ?_<;>(intro hg;rw[hg] at F;try exact no hg)|refine zT F ?_|((with_reducible refine isK ?_);refine svB F ?_ ?_<;>intro hc<;>try exact no hc)|refine zY ?_;go_step|fail))
 (all_goals(refine zE F M ?_;exact⟨_,_,rfl,⟨by rw[← idxP_any];rfl,rfl⟩,M.perms permsA⟩))
include hfk in
theorem allN_spec (b:Nat) (caps:Array Value) (A:Asn) (x:Val) (hcl:∀ R,Spec c (valV x::caps.toList) (A::R) fun u L'=>u=.bool (p x)∧L'=A::R) (R:List Asn) :
  Spec 187 [valV x,ptr b] (allA c b caps A::R) fun u L'=>u=.bool (!p x)∧L'=allA c b caps A::R:=by
 intro G w M
 have M2:=allA_open c (L:=R++G) M;clear M;have M:=M2;clear M2
 (refine sx_enter (vs:=([valV x,ptr b]:List Value)) Tryz.func187 (n:=8) rfl rfl rfl rfl ?_;intro a F;(try simp only[zc,zn] at M))
 (repeat'(first|(first|refine sx_nil ?_|refine pv_nil ?_;intro a w F M);try replace F:=F.filt zk64 rfl|refine zn1 F M ?_;clear F M a;(try clear w);intro a w F M|refine sv2 F M ?_;clear F M a;intro nb a w F M|refine zp1 ?_|refine zp2 ?_;intro nb|((first|refine svC F M ?_|refine svC0 F M ?_|refine pvC ?_|refine pvC0 ?_);(((refine acK (k:=c) (hcl _) ?_);rintro u L' ⟨rfl,rfl⟩));(first|refine⟨rvsA,?_⟩|clear F M a;intro a w F M|clear M;intro w M))|refine zh F ?_ ?_<;>(intro hg;rw[hg] at F;try exact no hg)|refine zT F ?_|((with_reducible refine isK ?_);refine svB F ?_ ?_<;>intro hc<;>try exact no hc)|refine zY ?_;go_step|fail))
 all_goals refine zE F M ?_
 exact⟨_,_,rfl,⟨rfl,rfl⟩,allA_close c (M.perms permsA)⟩
include hg hlen hfk in
theorem all_spec (caps:Array Value) (A:Asn) (hcl:∀ x∈V,∀ R,Spec c (valV x::caps.toList) (A::R) fun u L'=>u=.bool (p x)∧L'=A::R) :
  Spec 118 [v,.func (.func c) #[] caps] (A::R) fun u L'=>u=.bool (V.all p)∧L'=A::R:=by
 (intro G w M;refine sx_enter (vs:=([v,.func (.func c) #[] caps]:List Value)) Tryz.func118 (n:=9) rfl rfl rfl rfl ?_;intro a F;(try simp only[zc,zn] at M))
 have hG:GS (R++G) 7 v V.length (V.flatMap valL):=Gives.app hg
 (repeat'(first|(first|refine sx_nil ?_|refine pv_nil ?_;intro a w F M);try replace F:=F.filt zk119 rfl|refine zn1 F M ?_;clear F M a;(try clear w);intro a w F M|refine sv2 F M ?_;clear F M a;intro nb a w F M|refine zp1 ?_|refine zp2 ?_;intro nb|((first|refine svC F M ?_|refine svC0 F M ?_|refine pvC ?_|refine pvC0 ?_);(fail);(first|refine⟨rvsA,?_⟩|clear F M a;intro a w F M|clear M;intro w M))|refine zh F ?_ ?_<;>(intro hg;rw[hg] at F;try exact no hg)|refine zT F ?_|((with_reducible refine isK ?_);refine svB F ?_ ?_<;>intro hc<;>try exact no hc)|refine zY ?_;go_step|fail))
 have M2:=allA_close c M;clear M;have M:=M2;clear M2
 have hi:=fun (R:List Asn) hg=>conV_spec 187 (fun x=>!p x) V v R hg hlen #[ptr nb] (allA c nb caps A) fun x hx R=>allN_spec c p nb caps A x (hcl x hx) R
 (repeat'(first|(first|refine sx_nil ?_|refine pv_nil ?_;intro a w F M);try replace F:=F.filt zk119 rfl|refine zn1 F M ?_;clear F M a;(try clear w);intro a w F M|refine sv2 F M ?_;clear F M a;intro nb a w F M|refine zp1 ?_|refine zp2 ?_;intro nb|((first|refine svC F M ?_|refine svC0 F M ?_|refine pvC ?_|refine pvC0 ?_);(((refine acK (k:=186) (hi _ hG) ?_);rintro u L' ⟨rfl,rfl⟩));(first|refine⟨rvsA,?_⟩|clear F M a;intro a w F M|clear M;intro w M))|refine zh F ?_ ?_<;>(intro hg;rw[hg] at F;try exact no hg)|refine zT F ?_|((with_reducible refine isK ?_);refine svB F ?_ ?_<;>intro hc<;>try exact no hc)|refine zY ?_;go_step|fail))
 all_goals refine zE F M ?_
 have M:=allA_open c (M.perms (permsA:Perms _ (allA c nb caps A::(R++G))))
 refine⟨_,_,rfl,⟨?_,rfl⟩,M.perms permsA⟩
 simp[tupOf,List.all_eq_not_any_not]
end
end
def zk127:List Nat:=[0,1,2,6,7,9,10,11,12,15,16,17,18,26,27,28,29,35,40]
section
open Go.RowKit Go.Maps
def CntOf (P:List (Value × Value)) (xs:List Int):Prop:=(∀ p∈P,∃ i,i∈xs∧p=(.int .i64 i,.int .i64 (xs.count i:Nat)))∧∀ i∈xs,(Value.int .i64 i,Value.int .i64 (xs.count i:Nat))∈P
theorem CntOf.nil:CntOf [] []:=⟨by simp,by simp⟩
theorem CntOf.vals {P:List (Value × Value)} {xs:List Int} (h:CntOf P xs):∀ p∈P,∃ v,p.2=.int .i64 v:=fun p hp=>by
 obtain ⟨i,_,rfl⟩:=h.1 p hp
 exact⟨_,rfl⟩
theorem CntOf.miss {P:List (Value × Value)} {xs:List Int} (h:CntOf P xs) {i:Int} (hi:i∉xs):∀ p∈P,p.1≠.int .i64 i:=fun p hp e=>by
 obtain ⟨j,hj,rfl⟩:=h.1 p hp
 simp at e
 exact hi (e ▸ hj)
theorem CntOf.new {P:List (Value × Value)} {xs:List Int} (h:CntOf P xs) {i:Int} (hi:i∉xs):CntOf ((.int .i64 i,.int .i64 1)::P) (xs++[i]):=by
 have hc:xs.count i=0:=List.count_eq_zero.2 hi
 refine⟨fun p hp=>?_,fun j hj=>?_⟩
 ·rcases List.mem_cons.1 hp with rfl|hp
  ·exact⟨i,by simp,by simp[List.count_append,hc]⟩
  ·obtain ⟨j,hj,rfl⟩:=h.1 p hp
   have hne:¬i=j:=fun e=>hi (e ▸ hj)
   exact⟨j,by simp[hj],by simp[List.count_append,List.count_cons,hne]⟩
 ·rcases List.mem_append.1 hj with hj|hj
  ·have hne:¬i=j:=fun e=>hi (e ▸ hj)
   refine List.mem_cons_of_mem _ ?_
   have:=h.2 j hj
   simpa[List.count_append,List.count_cons,hne] using this
  ·obtain rfl:j=i:=by simpa using hj
   simp[List.count_append,hc]
theorem CntOf.upd {P:List (Value × Value)} {xs:List Int} (h:CntOf P xs) {i:Int} (hi:i∈xs):CntOf (updP i (.int .i64 ((xs.count i:Nat)+1:Int)) P) (xs++[i]):=by
 refine⟨fun p hp=>?_,fun j hj=>?_⟩
 ·obtain ⟨q,hq,rfl⟩:=List.mem_map.1 hp
  obtain ⟨j,hj,rfl⟩:=h.1 q hq
  by_cases hji:j=i
  ·subst hji
   rw[updF_hit]
   exact⟨j,by simp,by simp[List.count_append]⟩
  ·rw[updF_miss (by simp[hji])]
   exact⟨j,by simp[hj],by simp[List.count_append,List.count_cons,Ne.symm hji]⟩
 ·by_cases hji:j=i
  ·subst hji
   refine List.mem_map.2 ⟨_,h.2 j hi,?_⟩
   rw[updF_hit]
   simp[List.count_append]
  ·have hj':j∈xs:=by
    rcases List.mem_append.1 hj with h|h
    ·exact h
    ·exact absurd (by simpa using h) hji
   refine List.mem_map.2 ⟨_,h.2 j hj',?_⟩
   rw[updF_miss (by simp[hji])]
   simp[List.count_append,List.count_cons,Ne.symm hji]
theorem count_filter_ne {i j:Int} (h:j≠i) (xs:List Int):(xs.filter (fun z=>decide (z≠i))).count j=xs.count j:=by
 rw[List.count_filter (by simp[h])]
theorem CntOf.del {P:List (Value × Value)} {xs:List Int} (h:CntOf P xs) (i:Int):CntOf (delP i P) (xs.filter fun z=>decide (z≠i)):=by
 refine⟨fun p hp=>?_,fun j hj=>?_⟩
 ·obtain ⟨hp1,hp2⟩:=List.mem_filter.1 hp
  obtain ⟨j,hj,rfl⟩:=h.1 p hp1
  have hji:j≠i:=fun e=>by subst e;simp[isInt] at hp2
  exact⟨j,List.mem_filter.2 ⟨hj,by simp[hji]⟩,by rw[count_filter_ne hji]⟩
 ·obtain ⟨hj1,hj2⟩:=List.mem_filter.1 hj
  have hji:j≠i:=by simpa using hj2
  refine List.mem_filter.2 ⟨by rw[count_filter_ne hji];exact h.2 j hj1,by simp[isInt,hji]⟩
theorem CntOf.len {P:List (Value × Value)} {xs:List Int} (h:CntOf P xs):P.length=0↔xs=[]:=by
 constructor
 ·intro hp
  cases xs with
  | nil=>rfl
  | cons x xs =>
   have:=h.2 x (by simp)
   rw[List.length_eq_zero_iff.1 hp] at this
   cases this
 ·rintro rfl
  cases P with
  | nil=>rfl
  | cons p P=>obtain ⟨i,hi,_⟩:=h.1 p (by simp);cases hi
def onceGo (p:Val→Bool):List Val→Nat→List Int→Bool
 | [],_,q=>decide (q=[])
 | v::V,i,q=>decide ((q.count (i:Int):Int)=if p v=true then 1 else 0) && onceGo p V (i+1) (q.filter fun z=>decide (z≠(i:Int)))
section
variable (c:FuncId) [hfk:FK c] (p:Val→Bool) (V:List Val) (v:Value) (R:List Asn) (hg:GS R 7 v V.length (V.flatMap valL)) (hlen:V.length≤1000000)
include hg hlen hfk in
theorem once_spec (hcl:∀ x∈V,∀ R,Spec c [valV x] R fun u L'=>u=.bool (p x)∧L'=R) (hq:SlH) (Q:List (SlH × List Int)) (hl:(catQ Q).length≤1000000) (hn:Q.length≤1000) (hi:∀ z∈catQ Q,I64 z) (hG:∀ p∈Q,GS R 1 (sl p.1) p.2.length (p.2.flatMap intL)) :
  Spec 113 [v,.func (.func c) #[] #[],sl hq] (ownT 24 shL 1 (sl hq) (qsL Q)::R) fun u L'=>u=.bool (onceGo p V 0 (catQ Q))∧L'=R:=by
 generalize hX:onceGo p V 0 (catQ Q)=X
 (intro G w M;refine sx_enter (vs:=([v,.func (.func c) #[] #[],sl hq]:List Value)) Tryz.func113 (n:=47) rfl rfl rfl rfl ?_;intro a F;(try simp only[zc,zn] at M))
 have hG0:GS (R++G) 7 v V.length (V.flatMap valL):=Gives.app hg
 have hG':∀ p∈Q,GS (R++G) 1 (sl p.1) p.2.length (p.2.flatMap intL):=fun p hp=>Gives.app (hG p hp)
 (repeat'(first|(first|refine sx_nil ?_|refine pv_nil ?_;intro a w F M);try replace F:=F.filt zk127 rfl|refine zn1 F M ?_;clear F M a;(try clear w);intro a w F M|refine sv2 F M ?_;clear F M a;intro nb a w F M|refine zp1 ?_|refine zp2 ?_;intro nb|((first|refine svC F M ?_|refine svC0 F M ?_|refine pvC ?_|refine pvC0 ?_);((first|(apply ac_makeMap;(exact rfl);(exact inferInstance);intro nm)|((refine acK (k:=185) (concatI_spec hq Q hl hn (mp nm 3 []::(R++G)) (fun p hp=>GS.tail (hG' p hp))) ?_);rintro u L' ⟨hc,rfl,rfl⟩)));(first|refine⟨rvsA,?_⟩|clear F M a;intro a w F M|clear M;intro w M))|refine zh F ?_ ?_<;>(intro hg;rw[hg] at F;try exact no hg)|refine zT F ?_|((with_reducible refine isK ?_);refine svB F ?_ ?_<;>intro hc<;>try exact no hc)|refine zY ?_;go_step|fail))
 generalize catQ Q=q at *
 refine svLoop F M ((0,[]):Nat × List (Value × Value)) (fun s=>[(17,.int .i64 s.1)]) (fun s=>[mp nm 3 s.2]) (fun s=>s.1≤q.length∧CntOf s.2 (q.take s.1)) (fun s=>q.length - s.1) [9] ⟨Nat.zero_le _,CntOf.nil⟩ ?_
 (rintro⟨k,P⟩ ⟨q1,q2⟩ a w F M;(try simp only[zc,zn] at F M q1 q2 ⊢))
 by_cases hlt:k<q.length
 ·obtain ⟨z,hz⟩:∃ z,q[k]? = some z:=⟨q[k],by simp[hlt]⟩
  have hst:=hi z (List.mem_of_getElem? hz)
  have ht:q.take (k+1)=q.take k++[z]:=by rw[List.take_add_one,hz];rfl
  have hcl2:(q.take k).count z≤1000000:=Nat.le_trans List.count_le_length (by rw[List.length_take];omega)
  by_cases hm:z∈q.take k
  ·have hin:=q2.2 z hm
   (repeat'(first|((first|refine sv1 F M (h:=?_) (hr:=by((first|(apply rt_hit1;(exact rfl);(exact rfl);(exact rfl);(exact inferInstance);(exact gives_mp pullA);(exact intKey hst);(exact hin))|(apply rt_miss1;(exact rfl);(exact rfl);(exact rfl);(exact inferInstance);(exact gives_mp pullA);(exact intKey hst);(exact hno);(exact inferInstance)))))|refine pv1 (h:=?_) (hr:=by((first|(apply rt_hit1;(exact rfl);(exact rfl);(exact rfl);(exact inferInstance);(exact gives_mp pullA);(exact intKey hst);(exact hin))|(apply rt_miss1;(exact rfl);(exact rfl);(exact rfl);(exact inferInstance);(exact gives_mp pullA);(exact intKey hst);(exact hno);(exact inferInstance))))));(try(clear F a;intro a F)))|(first|refine sx_nil ?_|refine pv_nil ?_;intro a w F M);try replace F:=F.filt zk127 rfl|refine zn1 F M ?_;clear F M a;(try clear w);intro a w F M|refine sv2 F M ?_;clear F M a;intro nb a w F M|refine zp1 ?_|refine zp2 ?_;intro nb|((first|refine svC F M ?_|refine svC0 F M ?_|refine pvC ?_|refine pvC0 ?_);((first|(apply ac_mapHit;(exact rfl);(exact rfl);(exact rfl);(exact rfl);(exact inferInstance);(exact intKey hst);(focus ((repeat (first|exact Rep.here|apply Rep.there));done));(exact hin))|(refine ac_mapNew rfl rfl rfl rfl inferInstance (intKey hst) (by(focus ((repeat (first|exact Rep.here|apply Rep.there));done))) hno (List.Perm.refl _) ?_)));(first|refine⟨rvsA,?_⟩|clear F M a;intro a w F M|clear M;intro w M))|refine zh F ?_ ?_<;>(intro hg;rw[hg] at F;try exact no hg)|refine zT F ?_|((with_reducible refine isK ?_);refine svB F ?_ ?_<;>intro hc<;>try exact no hc)|refine zY ?_;go_step|fail))
   refine sv_again F M (k+1,_) kpA permsA ⟨by simp only;omega,?_⟩ (by simp only;omega)
   rw[ht];exact q2.upd hm
  ·have hno:=q2.miss hm
   (repeat'(first|((first|refine sv1 F M (h:=?_) (hr:=by((first|(apply rt_hit1;(exact rfl);(exact rfl);(exact rfl);(exact inferInstance);(exact gives_mp pullA);(exact intKey hst);(exact hin))|(apply rt_miss1;(exact rfl);(exact rfl);(exact rfl);(exact inferInstance);(exact gives_mp pullA);(exact intKey hst);(exact hno);(exact inferInstance)))))|refine pv1 (h:=?_) (hr:=by((first|(apply rt_hit1;(exact rfl);(exact rfl);(exact rfl);(exact inferInstance);(exact gives_mp pullA);(exact intKey hst);(exact hin))|(apply rt_miss1;(exact rfl);(exact rfl);(exact rfl);(exact inferInstance);(exact gives_mp pullA);(exact intKey hst);(exact hno);(exact inferInstance))))));(try(clear F a;intro a F)))|(first|refine sx_nil ?_|refine pv_nil ?_;intro a w F M);try replace F:=F.filt zk127 rfl|refine zn1 F M ?_;clear F M a;(try clear w);intro a w F M|refine sv2 F M ?_;clear F M a;intro nb a w F M|refine zp1 ?_|refine zp2 ?_;intro nb|((first|refine svC F M ?_|refine svC0 F M ?_|refine pvC ?_|refine pvC0 ?_);((first|(apply ac_mapHit;(exact rfl);(exact rfl);(exact rfl);(exact rfl);(exact inferInstance);(exact intKey hst);(focus ((repeat (first|exact Rep.here|apply Rep.there));done));(exact hin))|(refine ac_mapNew rfl rfl rfl rfl inferInstance (intKey hst) (by(focus ((repeat (first|exact Rep.here|apply Rep.there));done))) hno (List.Perm.refl _) ?_)));(first|refine⟨rvsA,?_⟩|clear F M a;intro a w F M|clear M;intro w M))|refine zh F ?_ ?_<;>(intro hg;rw[hg] at F;try exact no hg)|refine zT F ?_|((with_reducible refine isK ?_);refine svB F ?_ ?_<;>intro hc<;>try exact no hc)|refine zY ?_;go_step|fail))
   refine sv_again F M (k+1,_) kpA permsA ⟨by simp only;omega,?_⟩ (by simp only;omega)
   rw[ht];exact q2.new hm
 ·obtain rfl:k=q.length:=by omega
  rw[List.take_length] at q2
  (repeat'(first|(first|refine sx_nil ?_|refine pv_nil ?_;intro a w F M);try replace F:=F.filt zk127 rfl|refine zn1 F M ?_;clear F M a;(try clear w);intro a w F M|refine sv2 F M ?_;clear F M a;intro nb a w F M|refine zp1 ?_|refine zp2 ?_;intro nb|((first|refine svC F M ?_|refine svC0 F M ?_|refine pvC ?_|refine pvC0 ?_);(fail);(first|refine⟨rvsA,?_⟩|clear F M a;intro a w F M|clear M;intro w M))|refine zh F ?_ ?_<;>(intro hg;rw[hg] at F;try exact no hg)|refine zT F ?_|((with_reducible refine isK ?_);refine svB F ?_ ?_<;>intro hc<;>try exact no hc)|refine zY ?_;go_step|fail))
  refine svLoop F M ((0,P,q):Nat × List (Value × Value) × List Int) (fun s=>[(28,.int .i64 s.1)]) (fun s=>[mp nm 3 s.2.1]) (fun s=>s.1≤V.length∧CntOf s.2.1 s.2.2∧onceGo p (V.drop s.1) s.1 s.2.2=X∧s.2.2.length≤1000000) (fun s=>V.length - s.1) [10,11,12] ⟨Nat.zero_le _,q2,by simpa using hX,hl⟩ ?_
  (rintro⟨k,P,y⟩ ⟨q1,q2,q3,q4⟩ a w F M;(try simp only[zc,zn] at F M q1 q2 q3 q4 ⊢))
  by_cases hlt:k<V.length
  ·obtain ⟨x,hx⟩:∃ x,V[k]? = some x:=⟨V[k],by simp[hlt]⟩
   have hs:=hcl x (List.mem_of_getElem? hx)
   have hst:I64 (k:Int):=⟨by omega,by omega⟩
   have hcl2:y.count (k:Int)≤1000000:=Nat.le_trans List.count_le_length q4
   rw[drop_cons hx,onceGo] at q3
   have hq4:(y.filter fun z=>decide (z≠(k:Int))).length≤1000000:=Nat.le_trans (List.length_filter_le _ _) q4
   have hdel:=q2.del (k:Int)
   by_cases hm:(k:Int)∈y
   ·have hin:=q2.2 _ hm
    cases hp:p x
    all_goals rw[hp] at hs q3
    all_goals(repeat'(first|((first|refine sv1 F M (h:=?_) (hr:=by((first|(apply rt_hit1;(exact rfl);(exact rfl);(exact rfl);(exact inferInstance);(exact gives_mp pullA);(exact intKey hst);(exact hin))|(apply rt_miss1;(exact rfl);(exact rfl);(exact rfl);(exact inferInstance);(exact gives_mp pullA);(exact intKey hst);(exact hno);(exact inferInstance)))))|refine pv1 (h:=?_) (hr:=by((first|(apply rt_hit1;(exact rfl);(exact rfl);(exact rfl);(exact inferInstance);(exact gives_mp pullA);(exact intKey hst);(exact hin))|(apply rt_miss1;(exact rfl);(exact rfl);(exact rfl);(exact inferInstance);(exact gives_mp pullA);(exact intKey hst);(exact hno);(exact inferInstance))))));(try(clear F a;intro a F)))|(first|refine sx_nil ?_|refine pv_nil ?_;intro a w F M);try replace F:=F.filt zk127 rfl|refine zn1 F M ?_;clear F M a;(try clear w);intro a w F M|refine sv2 F M ?_;clear F M a;intro nb a w F M|refine zp1 ?_|refine zp2 ?_;intro nb|((first|refine svC F M ?_|refine svC0 F M ?_|refine pvC ?_|refine pvC0 ?_);((first|((refine acW (k:=c) (hs _) ?_);rintro u L' ⟨rfl,rfl⟩)|(refine ac_mapDel rfl rfl rfl rfl inferInstance rfl (intKey hst) (by(focus ((repeat (first|exact Rep.here|apply Rep.there));done))) ?_)));(first|refine⟨rvsA,?_⟩|clear F M a;intro a w F M|clear M;intro w M))|refine zh F ?_ ?_<;>(intro hg;rw[hg] at F;try exact no hg)|refine zT F ?_|((with_reducible refine isK ?_);refine svB F ?_ ?_<;>intro hc<;>try exact no hc)|refine zY ?_;go_step|fail))
    all_goals first
     | (refine zE F M ?_;refine⟨_,_,rfl,⟨?_,rfl⟩,M.perms permsA⟩;rw[← q3];simp_all [tupOf];done)
     | (refine sv_again F M (k+1,_,y.filter fun z=>decide (z≠(k:Int))) kpA permsA ⟨by simp only;omega,hdel,by simp_all,hq4⟩ (by simp only;omega))
   ·have hno:=q2.miss hm
    have hc0:y.count (k:Int)=0:=List.count_eq_zero.2 hm
    cases hp:p x
    all_goals rw[hp] at hs q3
    all_goals(repeat'(first|((first|refine sv1 F M (h:=?_) (hr:=by((first|(apply rt_hit1;(exact rfl);(exact rfl);(exact rfl);(exact inferInstance);(exact gives_mp pullA);(exact intKey hst);(exact hin))|(apply rt_miss1;(exact rfl);(exact rfl);(exact rfl);(exact inferInstance);(exact gives_mp pullA);(exact intKey hst);(exact hno);(exact inferInstance)))))|refine pv1 (h:=?_) (hr:=by((first|(apply rt_hit1;(exact rfl);(exact rfl);(exact rfl);(exact inferInstance);(exact gives_mp pullA);(exact intKey hst);(exact hin))|(apply rt_miss1;(exact rfl);(exact rfl);(exact rfl);(exact inferInstance);(exact gives_mp pullA);(exact intKey hst);(exact hno);(exact inferInstance))))));(try(clear F a;intro a F)))|(first|refine sx_nil ?_|refine pv_nil ?_;intro a w F M);try replace F:=F.filt zk127 rfl|refine zn1 F M ?_;clear F M a;(try clear w);intro a w F M|refine sv2 F M ?_;clear F M a;intro nb a w F M|refine zp1 ?_|refine zp2 ?_;intro nb|((first|refine svC F M ?_|refine svC0 F M ?_|refine pvC ?_|refine pvC0 ?_);((first|((refine acW (k:=c) (hs _) ?_);rintro u L' ⟨rfl,rfl⟩)|(refine ac_mapDel rfl rfl rfl rfl inferInstance rfl (intKey hst) (by(focus ((repeat (first|exact Rep.here|apply Rep.there));done))) ?_)));(first|refine⟨rvsA,?_⟩|clear F M a;intro a w F M|clear M;intro w M))|refine zh F ?_ ?_<;>(intro hg;rw[hg] at F;try exact no hg)|refine zT F ?_|((with_reducible refine isK ?_);refine svB F ?_ ?_<;>intro hc<;>try exact no hc)|refine zY ?_;go_step|fail))
    all_goals first
     | (refine zE F M ?_;refine⟨_,_,rfl,⟨?_,rfl⟩,M.perms permsA⟩;rw[← q3];simp_all [tupOf];done)
     | (refine sv_again F M (k+1,_,y.filter fun z=>decide (z≠(k:Int))) kpA permsA ⟨by simp only;omega,hdel,by simp_all,hq4⟩ (by simp only;omega))
  ·obtain rfl:k=V.length:=by omega
   rw[List.drop_length] at q3
   (repeat'(first|((first|refine sv1 F M (h:=?_) (hr:=by((apply rt_lenM;(exact rfl);(exact rfl);(exact rfl);(exact inferInstance);(exact gives_mp pullA))))|refine pv1 (h:=?_) (hr:=by((apply rt_lenM;(exact rfl);(exact rfl);(exact rfl);(exact inferInstance);(exact gives_mp pullA)))));(try(clear F a;intro a F)))|(first|refine sx_nil ?_|refine pv_nil ?_;intro a w F M);try replace F:=F.filt zk127 rfl|refine zn1 F M ?_;clear F M a;(try clear w);intro a w F M|refine sv2 F M ?_;clear F M a;intro nb a w F M|refine zp1 ?_|refine zp2 ?_;intro nb|((first|refine svC F M ?_|refine svC0 F M ?_|refine pvC ?_|refine pvC0 ?_);(fail);(first|refine⟨rvsA,?_⟩|clear F M a;intro a w F M|clear M;intro w M))|refine zh F ?_ ?_<;>(intro hg;rw[hg] at F;try exact no hg)|refine zT F ?_|((with_reducible refine isK ?_);refine svB F ?_ ?_<;>intro hc<;>try exact no hc)|refine zY ?_;go_step|fail))
   all_goals refine zE F M ?_
   refine⟨_,_,rfl,⟨?_,rfl⟩,M.perms permsA⟩
   rw[← q3]
   have hl:=q2.len
   simp[tupOf,onceGo,← hl]
end
end
def zk128:List Nat:=[0,1,2,4,5,6]
def zk129:List Nat:=[0,1,2,3,4,5,6]
def zk130:List Nat:=[0,1,2,4]
section
open Go.RowKit
structure SnD where
 V:List Val
 pe:List Int
 fo:List Int
 vo:List Int
 nM:Nat
 nQ:Nat
structure AuOK (R:List Asn) (x:Sn) (d:SnD) (c:Cfg):Prop where
 gV:GS R 7 (sl x.hV) d.V.length (d.V.flatMap valL)
 gP:GS R 1 (sl x.hP) d.pe.length (d.pe.flatMap intL)
 gF:GS R 1 (sl x.hF) d.fo.length (d.fo.flatMap intL)
 gO:GS R 1 (sl x.hO) d.vo.length (d.vo.flatMap intL)
 gM:∃ cs,GS R 2 (sl x.hM) d.nM cs
 gQ:∃ cs,GS R 2 (sl x.hQ) d.nQ cs
 lV:d.V.length≤1000000
 lP:d.pe.length≤400000
 lF:d.fo.length≤400000
 lO:d.vo.length≤400000
 bal:∀ v∈d.V,U64 v.bal
 ep:∀ v∈d.V,epR v
 iP:∀ z∈d.pe,I64 z
 iF:∀ z∈d.fo,I64 z
 iO:∀ z∈d.vo,I64 z
 pd:U64 x.pd
 bu:U64 x.bu
 bk:I64 x.bk
 el:1≤c.epochLen
theorem AuOK.app {R:List Asn} {x:Sn} {d:SnD} {c:Cfg} (h:AuOK R x d c) (G:List Asn):AuOK (R++G) x d c :=
 {h with gV:=Gives.app h.gV,gP:=Gives.app h.gP,gF:=Gives.app h.gF,gO:=Gives.app h.gO,gM:=h.gM.imp fun _ h=>Gives.app h,gQ:=h.gQ.imp fun _ h=>Gives.app h}
theorem AuOK.tail {R:List Asn} {x:Sn} {d:SnD} {c:Cfg} (h:AuOK R x d c) (A:Asn):AuOK (A::R) x d c :=
 {h with gV:=GS.tail h.gV,gP:=GS.tail h.gP,gF:=GS.tail h.gF,gO:=GS.tail h.gO,gM:=h.gM.imp fun _ h=>GS.tail h,gQ:=h.gQ.imp fun _ h=>GS.tail h}
def mxI (x y:Int):Int:=if y>x then y else x
def isR (l:List Int) (x:Int):Bool:=(addR l).2 && decide ((addR l).1=x)
def rule1 (x:Sn) (d:SnD) (c:Cfg):Bool:=decide ((d.V.length:Int)≤c.capacity)
def rule2 (x:Sn) (d:SnD) (c:Cfg):Bool:=isR ([x.pd,x.bu]++bals d.V) x.dep
def rule3 (x:Sn) (d:SnD) (c:Cfg):Bool:=(addR (bals d.V)).2 && decide ((addR (bals d.V)).1≤c.supplyCap)
def rule4 (x:Sn) (d:SnD) (c:Cfg):Bool:=isR (bals (d.V.filter Val.live)) x.ac
def rule5 (x:Sn) (d:SnD) (c:Cfg):Bool:=onceGo pPend d.V 0 d.pe
def rule6 (x:Sn) (d:SnD) (c:Cfg):Bool:=onceGo pExit d.V 0 (d.fo++d.vo)
def rule7 (x:Sn) (d:SnD) (c:Cfg):Bool:=d.V.all (pEpo c.unbonding)
def rule8 (x:Sn) (d:SnD) (c:Cfg):Bool:=d.V.all pEmp
def rule9 (x:Sn) (d:SnD) (c:Cfg):Bool:=decide (((d.V.filter pBond).length:Int)=x.un)
def rule10 (x:Sn) (d:SnD) (c:Cfg):Bool:=decide (mxI (mxI (mxI (mxI d.pe.length d.fo.length) d.vo.length) d.nM) d.nQ≤c.queueSize)
def rule11 (x:Sn) (d:SnD) (c:Cfg):Bool:=decide (0≤x.bk) && decide (x.ep=x.bk / c.epochLen)
def rule12 (x:Sn) (d:SnD) (c:Cfg):Bool:=d.V.all pSla
theorem filter_true (V:List Val):V.filter (fun _=>true)=V:=by simp
section
variable (x:Sn) (d:SnD) (c:Cfg) (R:List Asn) (h:AuOK R x d c)
include h in
theorem rule1_spec:Spec 104 [snV x,cfgV c] R fun u L'=>u=.bool (rule1 x d c)∧L'=R:=by
 (intro G w M;refine sx_enter (vs:=([snV x,cfgV c]:List Value)) Tryz.func104 (n:=11) rfl rfl rfl rfl ?_;intro a F;(try simp only[zc,zn] at M))
 (have hh:=h.app G;have gV:=hh.gV;have gP:=hh.gP;have gF:=hh.gF;have gO:=hh.gO;have gM:=hh.gM;have gQ:=hh.gQ;obtain ⟨cM,gM⟩:=gM;obtain ⟨cQ,gQ⟩:=gQ)
 (repeat'(first|(first|refine sx_nil ?_|refine pv_nil ?_;intro a w F M);try replace F:=F.filt zk93 rfl|refine zn1 F M ?_;clear F M a;(try clear w);intro a w F M|refine sv2 F M ?_;clear F M a;intro nb a w F M|refine zp1 ?_|refine zp2 ?_;intro nb|((first|refine svC F M ?_|refine svC0 F M ?_|refine pvC ?_|refine pvC0 ?_);(fail);(first|refine⟨rvsA,?_⟩|clear F M a;intro a w F M|clear M;intro w M))|refine zh F ?_ ?_<;>(intro hg;rw[hg] at F;try exact no hg)|refine zT F ?_|((with_reducible refine isK ?_);refine svB F ?_ ?_<;>intro hc<;>try exact no hc)|refine zY ?_;go_step|fail))
 all_goals exact zX F M
include h in
theorem rule2_spec:Spec 105 [snV x,cfgV c] R fun u L'=>u=.bool (rule2 x d c)∧L'=R:=by
 (intro G w M;refine sx_enter (vs:=([snV x,cfgV c]:List Value)) Tryz.func105 (n:=25) rfl rfl rfl rfl ?_;intro a F;(try simp only[zc,zn] at M))
 (have hh:=h.app G;have gV:=hh.gV;have gP:=hh.gP;have gF:=hh.gF;have gO:=hh.gO;have gM:=hh.gM;have gQ:=hh.gQ;obtain ⟨cM,gM⟩:=gM;obtain ⟨cQ,gQ⟩:=gQ)
 have hs:=fun (R:List Asn) hg hh=>sum_spec 107 (fun _=>true) d.V (sl x.hV) R hg h.lV (fun y _ R=>each_spec y R) h.bal hh [x.pd,x.bu] (by simp;exact⟨h.pd,h.bu⟩) (by simp)
 simp only[filter_true] at hs
 (repeat'(first|(first|refine sx_nil ?_|refine pv_nil ?_;intro a w F M);try replace F:=F.filt zk128 rfl|refine zn1 F M ?_;clear F M a;(try clear w);intro a w F M|refine sv2 F M ?_;clear F M a;intro nb a w F M|refine zp1 ?_|refine zp2 ?_;intro nb|((first|refine svC F M ?_|refine svC0 F M ?_|refine pvC ?_|refine pvC0 ?_);(((refine acK (k:=106) (hs _ ?_ ⟨some ⟨nb,0,none⟩,2,2⟩) ?_);(exact gsA);rintro u L' ⟨rfl,rfl⟩));(first|refine⟨rvsA,?_⟩|clear F M a;intro a w F M|clear M;intro w M))|refine zh F ?_ ?_<;>(intro hg;rw[hg] at F;try exact no hg)|refine zT F ?_|((with_reducible refine isK ?_);refine svB F ?_ ?_<;>intro hc<;>try exact no hc)|refine zY ?_;go_step|fail))
 all_goals refine zE F M ?_
 all_goals exact⟨_,_,rfl,⟨by unfold rule2 isR bals;rw[hg];rfl,rfl⟩,M.perms permsA⟩
include h in
theorem sumN_spec (f:FuncId) [FK f] (p:Val→Bool) (hcl:∀ x∈d.V,∀ R,Spec f [valV x] R fun u L'=>u=.bool (p x)∧L'=R):Spec 106 [sl x.hV,.func (.func f) #[] #[],.slice none 0 0] R fun u L'=>u=.tuple [.int .u64 (addR ((d.V.filter p).map (·.bal))).1,.bool (addR ((d.V.filter p).map (·.bal))).2].toArray∧L'=R:=fun G w M=>by
 refine(sum_spec f p d.V (sl x.hV) R h.gV h.lV hcl h.bal ⟨none,0,0⟩ [] (by simp) (by simp) G w (M.own_nil 23 1)).mono ?_
 rintro e w' ⟨u,L',h1,⟨h2,h3⟩,h4⟩
 exact⟨u,L',h1,⟨by simpa using h2,h3⟩,h4⟩
include h in
theorem rule3_spec:Spec 108 [snV x,cfgV c] R fun u L'=>u=.bool (rule3 x d c)∧L'=R:=by
 (intro G w M;refine sx_enter (vs:=([snV x,cfgV c]:List Value)) Tryz.func108 (n:=20) rfl rfl rfl rfl ?_;intro a F;(try simp only[zc,zn] at M))
 have hh:=h.app G
 have hs:=fun (R:List Asn) (h:AuOK R x d c)=>sumN_spec x d c R h 107 (fun _=>true) (fun y _ R=>each_spec y R)
 simp only[filter_true] at hs
 (repeat'(first|(first|refine sx_nil ?_|refine pv_nil ?_;intro a w F M);try replace F:=F.filt zk129 rfl|refine zn1 F M ?_;clear F M a;(try clear w);intro a w F M|refine sv2 F M ?_;clear F M a;intro nb a w F M|refine zp1 ?_|refine zp2 ?_;intro nb|((first|refine svC F M ?_|refine svC0 F M ?_|refine pvC ?_|refine pvC0 ?_);(((refine acW (k:=106) (hs _ ?_) ?_);(exact(hh.tail _).tail _);rintro u L' ⟨rfl,rfl⟩));(first|refine⟨rvsA,?_⟩|clear F M a;intro a w F M|clear M;intro w M))|refine zh F ?_ ?_<;>(intro hg;rw[hg] at F;try exact no hg)|refine zT F ?_|((with_reducible refine isK ?_);refine svB F ?_ ?_<;>intro hc<;>try exact no hc)|refine zY ?_;go_step|fail))
 all_goals refine zE F M ?_
 all_goals exact⟨_,_,rfl,⟨by unfold rule3 bals;rw[hg];rfl,rfl⟩,M.perms permsA⟩
include h in
theorem rule4_spec:Spec 109 [snV x,cfgV c] R fun u L'=>u=.bool (rule4 x d c)∧L'=R:=by
 (intro G w M;refine sx_enter (vs:=([snV x,cfgV c]:List Value)) Tryz.func109 (n:=20) rfl rfl rfl rfl ?_;intro a F;(try simp only[zc,zn] at M))
 have hh:=h.app G
 have hs:=fun (R:List Asn) (h:AuOK R x d c)=>sumN_spec x d c R h 110 Val.live (fun y _ R=>cLive_spec y R)
 (repeat'(first|(first|refine sx_nil ?_|refine pv_nil ?_;intro a w F M);try replace F:=F.filt zk128 rfl|refine zn1 F M ?_;clear F M a;(try clear w);intro a w F M|refine sv2 F M ?_;clear F M a;intro nb a w F M|refine zp1 ?_|refine zp2 ?_;intro nb|((first|refine svC F M ?_|refine svC0 F M ?_|refine pvC ?_|refine pvC0 ?_);(((refine acW (k:=106) (hs _ ?_) ?_);(exact(hh.tail _).tail _);rintro u L' ⟨rfl,rfl⟩));(first|refine⟨rvsA,?_⟩|clear F M a;intro a w F M|clear M;intro w M))|refine zh F ?_ ?_<;>(intro hg;rw[hg] at F;try exact no hg)|refine zT F ?_|((with_reducible refine isK ?_);refine svB F ?_ ?_<;>intro hc<;>try exact no hc)|refine zY ?_;go_step|fail))
 all_goals refine zE F M ?_
 all_goals exact⟨_,_,rfl,⟨by unfold rule4 isR bals;rw[hg];rfl,rfl⟩,M.perms permsA⟩
include h in
theorem rule5_spec:Spec 112 [snV x,cfgV c] R fun u L'=>u=.bool (rule5 x d c)∧L'=R:=by
 (intro G w M;refine sx_enter (vs:=([snV x,cfgV c]:List Value)) Tryz.func112 (n:=11) rfl rfl rfl rfl ?_;intro a F;(try simp only[zc,zn] at M))
 have hh:=h.app G
 have hs:=fun (R:List Asn) (h:AuOK R x d c) hq=>once_spec 114 pPend d.V (sl x.hV) R h.gV h.lV (fun y _ R=>cPend_spec y R) hq [(x.hP,d.pe)] (by simp[catQ];have:=h.lP;omega) (by simp) (by simp[catQ];exact h.iP) (by simp;exact h.gP)
 (repeat'(first|(first|refine sx_nil ?_|refine pv_nil ?_;intro a w F M);try replace F:=F.filt zk130 rfl|refine zn1 F M ?_;clear F M a;(try clear w);intro a w F M|refine sv2 F M ?_;clear F M a;intro nb a w F M|refine zp1 ?_|refine zp2 ?_;intro nb|((first|refine svC F M ?_|refine svC0 F M ?_|refine pvC ?_|refine pvC0 ?_);(((refine acK (k:=113) (hs _ ?_ ⟨some ⟨nb,0,none⟩,1,1⟩) ?_);(exact(hh.tail _).tail _);rintro u L' ⟨rfl,rfl⟩));(first|refine⟨rvsA,?_⟩|clear F M a;intro a w F M|clear M;intro w M))|refine zh F ?_ ?_<;>(intro hg;rw[hg] at F;try exact no hg)|refine zT F ?_|((with_reducible refine isK ?_);refine svB F ?_ ?_<;>intro hc<;>try exact no hc)|refine zY ?_;go_step|fail))
 all_goals refine zE F M ?_
 all_goals exact⟨_,_,rfl,⟨by simp[tupOf,rule5,catQ],rfl⟩,M.perms permsA⟩
include h in
theorem rule6_spec:Spec 115 [snV x,cfgV c] R fun u L'=>u=.bool (rule6 x d c)∧L'=R:=by
 (intro G w M;refine sx_enter (vs:=([snV x,cfgV c]:List Value)) Tryz.func115 (n:=13) rfl rfl rfl rfl ?_;intro a F;(try simp only[zc,zn] at M))
 have hh:=h.app G
 have hs:=fun (R:List Asn) (h:AuOK R x d c) hq=>once_spec 116 pExit d.V (sl x.hV) R h.gV h.lV (fun y _ R=>cExit_spec y R) hq [(x.hF,d.fo),(x.hO,d.vo)] (by simp[catQ];have:=h.lF;have:=h.lO;omega) (by simp) (by simp[catQ];rintro z (hz|hz);exact h.iF z hz;exact h.iO z hz) (by simp;exact⟨h.gF,h.gO⟩)
 (repeat'(first|(first|refine sx_nil ?_|refine pv_nil ?_;intro a w F M);try replace F:=F.filt zk130 rfl|refine zn1 F M ?_;clear F M a;(try clear w);intro a w F M|refine sv2 F M ?_;clear F M a;intro nb a w F M|refine zp1 ?_|refine zp2 ?_;intro nb|((first|refine svC F M ?_|refine svC0 F M ?_|refine pvC ?_|refine pvC0 ?_);(((refine acK (k:=113) (hs _ ?_ ⟨some ⟨nb,0,none⟩,2,2⟩) ?_);(exact(hh.tail _).tail _);rintro u L' ⟨rfl,rfl⟩));(first|refine⟨rvsA,?_⟩|clear F M a;intro a w F M|clear M;intro w M))|refine zh F ?_ ?_<;>(intro hg;rw[hg] at F;try exact no hg)|refine zT F ?_|((with_reducible refine isK ?_);refine svB F ?_ ?_<;>intro hc<;>try exact no hc)|refine zY ?_;go_step|fail))
 all_goals refine zE F M ?_
 all_goals exact⟨_,_,rfl,⟨by simp[tupOf,rule6,catQ],rfl⟩,M.perms permsA⟩
end
end
def zd131:List ZR:=[⟨1,[],[],[],[0,1,2,3,4,5,6,7,8,9,10,11,12,13]⟩]
def zk132:List Nat:=[0,1,2,4,5,7,9,10,11,12,16]
section
open Go.RowKit
section
variable (x:Sn) (d:SnD) (c:Cfg) (R:List Asn) (h:AuOK R x d c)
include h in
theorem rule7_spec:Spec 117 [snV x,cfgV c] R fun u L'=>u=.bool (rule7 x d c)∧L'=R:=by
 (intro G w M;refine sx_enter (vs:=([snV x,cfgV c]:List Value)) Tryz.func117 (n:=9) rfl rfl rfl rfl ?_;intro a F;(try simp only[zc,zn] at M))
 have hh:=h.app G
 have hs:=fun (R:List Asn) (h:AuOK R x d c) b=>all_spec 119 (pEpo c.unbonding) d.V (sl x.hV) R h.gV h.lV #[ptr b] (pt b (cfgL c) 30) (fun y hy R=>cEpo_spec y c b (h.ep y hy) R)
 (repeat'(first|(first|refine sx_nil ?_|refine pv_nil ?_;intro a w F M);try replace F:=F.filt zk93 rfl|refine zn1 F M ?_;clear F M a;(try clear w);intro a w F M|refine sv2 F M ?_;clear F M a;intro nb a w F M|refine zp1 ?_|refine zp2 ?_;intro nb|((first|refine svC F M ?_|refine svC0 F M ?_|refine pvC ?_|refine pvC0 ?_);(((refine acK (k:=118) (hs _ ?_ nb) ?_);(exact hh.tail _);rintro u L' ⟨rfl,rfl⟩));(first|refine⟨rvsA,?_⟩|clear F M a;intro a w F M|clear M;intro w M))|refine zh F ?_ ?_<;>(intro hg;rw[hg] at F;try exact no hg)|refine zT F ?_|((with_reducible refine isK ?_);refine svB F ?_ ?_<;>intro hc<;>try exact no hc)|refine zY ?_;go_step|fail))
 all_goals exact zX F M
include h in
theorem allF_spec (f:FuncId) [FK f] (p:Val→Bool) (hcl:∀ x∈d.V,∀ R,Spec f [valV x] R fun u L'=>u=.bool (p x)∧L'=R):Spec 118 [sl x.hV,.func (.func f) #[] #[]] R fun u L'=>u=.bool (d.V.all p)∧L'=R:=fun G w M=>by
 refine(all_spec f p d.V (sl x.hV) R h.gV h.lV #[] (factA True) (fun y hy R=>hcl y hy _) G w (M.fact trivial)).mono ?_
 rintro e w' ⟨u,L',h1,⟨h2,rfl⟩,h4⟩
 exact⟨u,_,h1,⟨h2,rfl⟩,h4.factO.2⟩
include h in
theorem rule8_spec:Spec 121 [snV x,cfgV c] R fun u L'=>u=.bool (rule8 x d c)∧L'=R:=by
 (intro G w M;refine sx_enter (vs:=([snV x,cfgV c]:List Value)) Tryz.func121 (n:=8) rfl rfl rfl rfl ?_;intro a F;(try simp only[zc,zn] at M))
 have hh:=h.app G
 have hs:=fun (R:List Asn) (h:AuOK R x d c)=>allF_spec x d c R h 122 pEmp (fun y _ R=>cEmp_spec y R)
 (repeat'(first|(first|refine sx_nil ?_|refine pv_nil ?_;intro a w F M);try replace F:=F.filt zk130 rfl|refine zn1 F M ?_;clear F M a;(try clear w);intro a w F M|refine sv2 F M ?_;clear F M a;intro nb a w F M|refine zp1 ?_|refine zp2 ?_;intro nb|((first|refine svC F M ?_|refine svC0 F M ?_|refine pvC ?_|refine pvC0 ?_);(((refine acW (k:=118) (hs _ ?_) ?_);(exact(hh.tail _).tail _);rintro u L' ⟨rfl,rfl⟩));(first|refine⟨rvsA,?_⟩|clear F M a;intro a w F M|clear M;intro w M))|refine zh F ?_ ?_<;>(intro hg;rw[hg] at F;try exact no hg)|refine zT F ?_|((with_reducible refine isK ?_);refine svB F ?_ ?_<;>intro hc<;>try exact no hc)|refine zY ?_;go_step|fail))
 all_goals exact zX F M
include h in
theorem rule12_spec:Spec 128 [snV x,cfgV c] R fun u L'=>u=.bool (rule12 x d c)∧L'=R:=by
 (intro G w M;refine sx_enter (vs:=([snV x,cfgV c]:List Value)) Tryz.func128 (n:=8) rfl rfl rfl rfl ?_;intro a F;(try simp only[zc,zn] at M))
 have hh:=h.app G
 have hs:=fun (R:List Asn) (h:AuOK R x d c)=>allF_spec x d c R h 129 pSla (fun y _ R=>cSla_spec y R)
 (repeat'(first|(first|refine sx_nil ?_|refine pv_nil ?_;intro a w F M);try replace F:=F.filt zk130 rfl|refine zn1 F M ?_;clear F M a;(try clear w);intro a w F M|refine sv2 F M ?_;clear F M a;intro nb a w F M|refine zp1 ?_|refine zp2 ?_;intro nb|((first|refine svC F M ?_|refine svC0 F M ?_|refine pvC ?_|refine pvC0 ?_);(((refine acW (k:=118) (hs _ ?_) ?_);(exact(hh.tail _).tail _);rintro u L' ⟨rfl,rfl⟩));(first|refine⟨rvsA,?_⟩|clear F M a;intro a w F M|clear M;intro w M))|refine zh F ?_ ?_<;>(intro hg;rw[hg] at F;try exact no hg)|refine zT F ?_|((with_reducible refine isK ?_);refine svB F ?_ ?_<;>intro hc<;>try exact no hc)|refine zY ?_;go_step|fail))
 all_goals exact zX F M
include h in
theorem rule10_spec:Spec 126 [snV x,cfgV c] R fun u L'=>u=.bool (rule10 x d c)∧L'=R:=by
 (intro G w M;refine sx_enter (vs:=([snV x,cfgV c]:List Value)) Tryz.func126 (n:=24) rfl rfl rfl rfl ?_;intro a F;(try simp only[zc,zn] at M))
 (have hh:=h.app G;have gV:=hh.gV;have gP:=hh.gP;have gF:=hh.gF;have gO:=hh.gO;have gM:=hh.gM;have gQ:=hh.gQ;obtain ⟨cM,gM⟩:=gM;obtain ⟨cQ,gQ⟩:=gQ)
 (repeat'(first|((first|refine sv1 F M (h:=?_) (hr:=by((apply rt_max;(exact rfl);(exact rfl);(exact rfl))))|refine pv1 (h:=?_) (hr:=by((apply rt_max;(exact rfl);(exact rfl);(exact rfl)))));(try(clear F a;intro a F)))|(first|refine sx_nil ?_|refine pv_nil ?_;intro a w F M);try replace F:=F.filt zk93 rfl|refine zn1 F M ?_;clear F M a;(try clear w);intro a w F M|refine sv2 F M ?_;clear F M a;intro nb a w F M|refine zp1 ?_|refine zp2 ?_;intro nb|((first|refine svC F M ?_|refine svC0 F M ?_|refine pvC ?_|refine pvC0 ?_);(fail);(first|refine⟨rvsA,?_⟩|clear F M a;intro a w F M|clear M;intro w M))|refine zh F ?_ ?_<;>(intro hg;rw[hg] at F;try exact no hg)|refine zT F ?_|((with_reducible refine isK ?_);refine svB F ?_ ?_<;>intro hc<;>try exact no hc)|refine zY ?_;go_step|fail))
 all_goals exact zX F M
include h in
theorem rule11_spec:Spec 127 [snV x,cfgV c] R fun u L'=>u=.bool (rule11 x d c)∧L'=R:=by
 have hbk:=h.bk
 have hel:=h.el
 by_cases h0:0≤x.bk
 ·have hd0:0≤x.bk / c.epochLen:=Int.ediv_nonneg (by omega) (by omega)
  have hd1:x.bk / c.epochLen≤x.bk:=Int.ediv_le_self _ (by omega)
  have hw:IntKind.i64.wrap (x.bk / c.epochLen)=x.bk / c.epochLen:=IntWalk.i64_in _ ⟨by have:=hbk.1;omega,by have:=hbk.2;omega⟩
  (intro G w M;refine sx_enter (vs:=([snV x,cfgV c]:List Value)) Tryz.func127 (n:=18) rfl rfl rfl rfl ?_;intro a F;(try simp only[zc,zn] at M))
  have hb:decide (0≤x.bk)=true:=by simp[h0]
  (repeat'(first|(first|refine sx_nil ?_|refine pv_nil ?_;intro a w F M);try replace F:=F.filt zk93 rfl|refine zn1 F M ?_;clear F M a;(try clear w);intro a w F M|refine sv2 F M ?_;clear F M a;intro nb a w F M|refine zp1 ?_|refine zp2 ?_;intro nb|((first|refine svC F M ?_|refine svC0 F M ?_|refine pvC ?_|refine pvC0 ?_);(fail);(first|refine⟨rvsA,?_⟩|clear F M a;intro a w F M|clear M;intro w M))|refine zh F ?_ ?_<;>(intro hg;rw[hg] at F;try exact no hg)|refine zT F ?_|((with_reducible refine isK ?_);refine svB F ?_ ?_<;>intro hc<;>try exact no hc)|((with_reducible refine isD ?_);(first|(refine zD zd131 F M ?_;clear F M a w)))|refine zY ?_;go_step|fail))
  rw[hb]
  (repeat'(first|(first|refine sx_nil ?_|refine pv_nil ?_;intro a w F M);try replace F:=F.filt zk93 rfl|refine zn1 F M ?_;clear F M a;(try clear w);intro a w F M|refine sv2 F M ?_;clear F M a;intro nb a w F M|refine zp1 ?_|refine zp2 ?_;intro nb|((first|refine svC F M ?_|refine svC0 F M ?_|refine pvC ?_|refine pvC0 ?_);(fail);(first|refine⟨rvsA,?_⟩|clear F M a;intro a w F M|clear M;intro w M))|refine zh F ?_ ?_<;>(intro hg;rw[hg] at F;try exact no hg)|refine zT F ?_|((with_reducible refine isK ?_);refine svB F ?_ ?_<;>intro hc<;>try exact no hc)|((with_reducible refine isD ?_);(first|(refine zD zd131 F M ?_;clear F M a w)))|refine zY ?_;go_step|fail))
  (all_goals(refine zE F M ?_;exact⟨_,_,rfl,⟨by unfold rule11;rw[hb];rfl,rfl⟩,M.perms permsA⟩))
 ·(intro G w M;refine sx_enter (vs:=([snV x,cfgV c]:List Value)) Tryz.func127 (n:=18) rfl rfl rfl rfl ?_;intro a F;(try simp only[zc,zn] at M))
  have hb:decide (0≤x.bk)=false:=by simp[h0]
  (repeat'(first|(first|refine sx_nil ?_|refine pv_nil ?_;intro a w F M);try replace F:=F.filt zk93 rfl|refine zn1 F M ?_;clear F M a;(try clear w);intro a w F M|refine sv2 F M ?_;clear F M a;intro nb a w F M|refine zp1 ?_|refine zp2 ?_;intro nb|((first|refine svC F M ?_|refine svC0 F M ?_|refine pvC ?_|refine pvC0 ?_);(fail);(first|refine⟨rvsA,?_⟩|clear F M a;intro a w F M|clear M;intro w M))|refine zh F ?_ ?_<;>(intro hg;rw[hg] at F;try exact no hg)|refine zT F ?_|((with_reducible refine isK ?_);refine svB F ?_ ?_<;>intro hc<;>try exact no hc)|((with_reducible refine isD ?_);(first|(refine zD zd131 F M ?_;clear F M a w)))|refine zY ?_;go_step|fail))
  rw[hb]
  (repeat'(first|(first|refine sx_nil ?_|refine pv_nil ?_;intro a w F M);try replace F:=F.filt zk93 rfl|refine zn1 F M ?_;clear F M a;(try clear w);intro a w F M|refine sv2 F M ?_;clear F M a;intro nb a w F M|refine zp1 ?_|refine zp2 ?_;intro nb|((first|refine svC F M ?_|refine svC0 F M ?_|refine pvC ?_|refine pvC0 ?_);(fail);(first|refine⟨rvsA,?_⟩|clear F M a;intro a w F M|clear M;intro w M))|refine zh F ?_ ?_<;>(intro hg;rw[hg] at F;try exact no hg)|refine zT F ?_|((with_reducible refine isK ?_);refine svB F ?_ ?_<;>intro hc<;>try exact no hc)|((with_reducible refine isD ?_);(first|(refine zD zd131 F M ?_;clear F M a w)))|refine zY ?_;go_step|fail))
  (all_goals(refine zE F M ?_;exact⟨_,_,rfl,⟨by unfold rule11;rw[hb];rfl,rfl⟩,M.perms permsA⟩))
include h in
theorem rule9_spec:Spec 124 [snV x,cfgV c] R fun u L'=>u=.bool (rule9 x d c)∧L'=R:=by
 (intro G w M;refine sx_enter (vs:=([snV x,cfgV c]:List Value)) Tryz.func124 (n:=24) rfl rfl rfl rfl ?_;intro a F;(try simp only[zc,zn] at M))
 (have hh:=h.app G;have gV:=hh.gV;have gP:=hh.gP;have gF:=hh.gF;have gO:=hh.gO;have gM:=hh.gM;have gQ:=hh.gQ;obtain ⟨cM,gM⟩:=gM;obtain ⟨cQ,gQ⟩:=gQ)
 have hlV:=h.lV
 (repeat'(first|(first|refine sx_nil ?_|refine pv_nil ?_;intro a w F M);try replace F:=F.filt zk132 rfl|refine zn1 F M ?_;clear F M a;(try clear w);intro a w F M|refine sv2 F M ?_;clear F M a;intro nb a w F M|refine zp1 ?_|refine zp2 ?_;intro nb|((first|refine svC F M ?_|refine svC0 F M ?_|refine pvC ?_|refine pvC0 ?_);(((refine acW (k:=125) (bonded_spec y _) ?_);rintro u L' ⟨rfl,rfl⟩));(first|refine⟨rvsA,?_⟩|clear F M a;intro a w F M|clear M;intro w M))|refine zh F ?_ ?_<;>(intro hg;rw[hg] at F;try exact no hg)|refine zT F ?_|((with_reducible refine isK ?_);refine svB F ?_ ?_<;>intro hc<;>try exact no hc)|refine zY ?_;go_step|fail))
 refine svLoop F M (0:Nat) (fun k=>[(11,.int .i64 k),(5,.int .i64 ((d.V.take k).filter pBond).length)]) (fun _=>[]) (fun k=>k≤d.V.length) (fun k=>d.V.length - k) [7] (Nat.zero_le _) ?_
 (rintro k q1 a w F M;(try simp only[zc,zn] at F M q1 ⊢))
 have hfl:((d.V.take k).filter pBond).length≤d.V.length:=Nat.le_trans (List.length_filter_le _ _) (by rw[List.length_take];omega)
 by_cases hlt:k<d.V.length
 ·obtain ⟨y,hy⟩:∃ y,d.V[k]? = some y:=⟨d.V[k],by simp[hlt]⟩
  have ht:((d.V.take (k+1)).filter pBond).length=((d.V.take k).filter pBond).length+(if pBond y=true then 1 else 0):=by
   rw[List.take_add_one,hy,List.filter_append];cases hp:pBond y<;>simp[hp]
  (repeat'(first|(first|refine sx_nil ?_|refine pv_nil ?_;intro a w F M);try replace F:=F.filt zk132 rfl|refine zn1 F M ?_;clear F M a;(try clear w);intro a w F M|refine sv2 F M ?_;clear F M a;intro nb a w F M|refine zp1 ?_|refine zp2 ?_;intro nb|((first|refine svC F M ?_|refine svC0 F M ?_|refine pvC ?_|refine pvC0 ?_);(((refine acW (k:=125) (bonded_spec y _) ?_);rintro u L' ⟨rfl,rfl⟩));(first|refine⟨rvsA,?_⟩|clear F M a;intro a w F M|clear M;intro w M))|refine zh F ?_ ?_<;>(intro hg;rw[hg] at F;try exact no hg)|refine zT F ?_|((with_reducible refine isK ?_);refine svB F ?_ ?_<;>intro hc<;>try exact no hc)|refine zY ?_;go_step|fail))
  ·rw[hc,if_pos rfl] at ht
   have e1:(((d.V.take k).filter pBond).length:Int)+1=(((d.V.take (k+1)).filter pBond).length:Nat):=by omega
   rw[e1] at F
   exact sv_again F M (k+1) kpA permsA (by omega) (by omega)
  ·rw[hc,if_neg (by decide)] at ht
   have e1:((d.V.take k).filter pBond).length=((d.V.take (k+1)).filter pBond).length:=by omega
   rw[e1] at F
   exact sv_again F M (k+1) kpA permsA (by omega) (by omega)
 ·obtain rfl:k=d.V.length:=by omega
  rw[List.take_length] at F
  (repeat'(first|(first|refine sx_nil ?_|refine pv_nil ?_;intro a w F M);try replace F:=F.filt zk132 rfl|refine zn1 F M ?_;clear F M a;(try clear w);intro a w F M|refine sv2 F M ?_;clear F M a;intro nb a w F M|refine zp1 ?_|refine zp2 ?_;intro nb|((first|refine svC F M ?_|refine svC0 F M ?_|refine pvC ?_|refine pvC0 ?_);(((refine acW (k:=125) (bonded_spec y _) ?_);rintro u L' ⟨rfl,rfl⟩));(first|refine⟨rvsA,?_⟩|clear F M a;intro a w F M|clear M;intro w M))|refine zh F ?_ ?_<;>(intro hg;rw[hg] at F;try exact no hg)|refine zT F ?_|((with_reducible refine isK ?_);refine svB F ?_ ?_<;>intro hc<;>try exact no hc)|refine zY ?_;go_step|fail))
  all_goals exact zX F M
end
end
end Go.Proofs.YtopbohbkhljjgaaGreat
