import Derived.Test.YtopbohbkhljjgaaGreatZpm
set_option linter.unusedVariables false
set_option linter.unusedSimpArgs false
set_option maxRecDepth 100000
set_option maxHeartbeats 8000000
namespace Go.Proofs.YtopbohbkhljjgaaGreat
def zk122:List Nat:=[0,1,4,5,7,8,9,10,11]
section
open Go.RowKit
def rcP (x:RcS):List Asn:=[ownT 87 asgL 3 (sl x.s) x.r.asg,ownT 65 pmL 3 (sl x.p) x.r.pms]
def rsA (xs:List RcS):Asn:=exA fun _:Unit=>xs.flatMap rcP
theorem rs_nil {w:World} {L:List Asn} (M:Mem w L):Mem w (rsA []::L):=Mem.exc (f:=fun _:Unit=>([]:List RcS).flatMap rcP) () (by simpa using M)
theorem rs_add {w:World} {L:List Asn} {xs:List RcS} {x:RcS} (M:Mem w (ownT 87 asgL 3 (sl x.s) x.r.asg::ownT 65 pmL 3 (sl x.p) x.r.pms::rsA xs::L)):Mem w (rsA (xs++[x])::L):=by
 obtain ⟨_,M2⟩:=(M.perms (permsA:Perms _ (rsA xs::ownT 87 asgL 3 (sl x.s) x.r.asg::ownT 65 pmL 3 (sl x.p) x.r.pms::L))).exo
 refine Mem.exc (f:=fun _:Unit=>(xs++[x]).flatMap rcP) () ?_
 simpa[List.flatMap_append,rcP] using M2
theorem runM_cons (c:Cfg) (s:St) (o:Opn) (r:List Opn):runM c s (o::r)=((stepM c s o).1::(runM c (stepM c s o).2 r).1,(runM c (stepM c s o).2 r).2):=rfl
structure RnZ where
 k:Nat
 H:EH
 h:SlH
 xs:List RcS
 s:St
section
variable (b:Nat) (H:EH) (c:Cfg) (s:St) (R:List Asn)
theorem run_spec (hc:CfOk c) (h:Inv c s) (v:Value) (l:List Opn) (hg:GS R 4 v l.length (l.flatMap opL)) (hl:l.length≤100000) (hb:s.bk+l.length<1000000000) (hwf:∀ o∈l,I64 o.k∧U64 o.am) :
  Spec 35 [ptr b,v] (engL b H c s R) fun u L'=>∃ hr H' xs,(u=sl hr∧xs.map (·.r)=(runM c s l).1)∧L'=ownT 62 rsL 9 (sl hr) xs::rsA xs::engL b H' c (runM c s l).2 R:=by
 obtain ⟨X,hX⟩:∃ X,runM c s l=X:=⟨_,rfl⟩
 rw[hX]
 (intro G w M;refine sx_enter (vs:=([ptr b,v]:List Value)) Tryz.func35 (n:=22) rfl rfl rfl rfl ?_;intro a F;(try simp only[zc,zn] at M))
 have hG:GS (R++G) 4 v l.length (l.flatMap opL):=Gives.app hg
 have M:=rs_nil (M.own_nil 62 9)
 (repeat'(first|(first|refine sx_nil ?_|refine pv_nil ?_;intro a w F M);try replace F:=F.filt zk122 rfl|refine zn1 F M ?_;clear F M a;(try clear w);intro a w F M|refine sv2 F M ?_;clear F M a;intro nb a w F M|refine zp1 ?_|refine zp2 ?_;intro nb|((first|refine svC F M ?_|refine svC0 F M ?_|refine pvC ?_|refine pvC0 ?_);(fail);(first|refine⟨rvsA,?_⟩|clear F M a;intro a w F M|clear M;intro w M))|refine zh F ?_ ?_<;>(intro hg;rw[hg] at F;try exact no hg)|refine zT F ?_|((with_reducible refine isK ?_);refine svB F ?_ ?_<;>intro hc<;>try exact no hc)|refine zY ?_;go_step|fail))
 refine svLoop F M (⟨0,H,nilH,[],s⟩:RnZ) (fun z=>[(10,.int .i64 z.k),(5,sl z.h)]) (fun z=>ownT 62 rsL 9 (sl z.h) z.xs::rsA z.xs::engL b z.H c z.s []) (fun z=>z.k≤l.length∧Inv c z.s∧z.s.bk≤s.bk+z.k∧z.xs.length=z.k∧z.xs.map (·.r)++(runM c z.s (l.drop z.k)).1=X.1∧(runM c z.s (l.drop z.k)).2=X.2) (fun z=>l.length - z.k) [7] ⟨Nat.zero_le _,h,Nat.le_refl _,rfl,by simp[hX],by simp[hX]⟩ ?_ (hR:=by(repeat (first|exact Pulls.nil|(apply Pulls.cons;(focus ((repeat (first|exact Pull.here|apply Pull.there));done))))))
 (rintro⟨k,H',hh,xs,s'⟩ ⟨q1,q2,q3,q4,q5,q6⟩ a w F M;(try simp only[zc,zn] at F M q1 q2 q3 q4 q5 q6 ⊢))
 by_cases hk:k<l.length
 ·obtain ⟨o,ho⟩:∃ o,l[k]? = some o:=⟨l[k],by simp[hk]⟩
  obtain ⟨ho1,ho2⟩:=hwf o (List.mem_of_getElem? ho)
  rw[drop_cons ho,runM_cons] at q5 q6
  have hap:=fun R=>apply_spec b H' c s' R hc q2 (by omega) o ho1 ho2
  obtain ⟨n1,n2⟩:=stepM_inv hc q2 (by omega) o ho2
  simp only[apQ] at hap
  obtain ⟨Y,hY⟩:∃ Y,stepM c s' o=Y:=⟨_,rfl⟩
  simp only[hY] at hap q5 q6 n1 n2
  obtain ⟨⟨x1,x2,x3,x4,x5,x6,x7,x8,x9⟩,s2⟩:=Y
  obtain ⟨ok,oi,ot,oa⟩:=o
  simp only at hap q5 q6 n1 n2
  (repeat'(first|(first|refine sx_nil ?_|refine pv_nil ?_;intro a w F M);try replace F:=F.filt zk122 rfl|refine zn1 F M ?_;clear F M a;(try clear w);intro a w F M|refine sv2 F M ?_;clear F M a;intro nb a w F M|refine zp1 ?_|refine zp2 ?_;intro nb|((first|refine svC F M ?_|refine svC0 F M ?_|refine pvC ?_|refine pvC0 ?_);((first|(refine acK (L1:=engL b H' c s' _) (k:=31) (hap _) ?_;rintro u L' ⟨ha,hp,H2,rfl,rfl⟩)|(refine ac_appendH (f:=rsL) (xs:=xs) (ys:=[⟨⟨x1,x2,x3,x4,x5,x6,x7,x8,x9⟩,ha,hp⟩]) rfl rfl inferInstance rfl rfl pullA inferInstance gsA rfl rfl (by simp;omega) ?_;intro nv)));(first|refine⟨rvsA,?_⟩|clear F M a;intro a w F M|clear M;intro w M))|refine zh F ?_ ?_<;>(intro hg;rw[hg] at F;try exact no hg)|refine zT F ?_|((with_reducible refine isK ?_);refine svB F ?_ ?_<;>intro hc<;>try exact no hc)|refine zY ?_;go_step|fail))
  have M1:=rs_add (x:=⟨⟨x1,x2,x3,x4,x5,x6,x7,x8,x9⟩,ha,hp⟩) (xs:=xs) (L:=ownT 62 rsL 9 (sl nv) (xs++[⟨⟨x1,x2,x3,x4,x5,x6,x7,x8,x9⟩,ha,hp⟩])::engL b H2 c s2 (R++G)) (M.perms permsA)
  clear M;have M:=M1;clear M1
  refine sv_again F M (⟨k+1,H2,nv,xs++[⟨⟨x1,x2,x3,x4,x5,x6,x7,x8,x9⟩,ha,hp⟩],s2⟩:RnZ) kpA permsA ⟨by simp only;omega,n1,by simp only;omega,by simp[q4],?_,q6⟩ (by simp only;omega)
  rw[← q5];simp
 obtain rfl:k=l.length:=by omega
 rw[List.drop_length] at q5 q6
 simp only[runM,List.append_nil] at q5 q6
 subst q6
 (repeat'(first|(first|refine sx_nil ?_|refine pv_nil ?_;intro a w F M);try replace F:=F.filt zk122 rfl|refine zn1 F M ?_;clear F M a;(try clear w);intro a w F M|refine sv2 F M ?_;clear F M a;intro nb a w F M|refine zp1 ?_|refine zp2 ?_;intro nb|((first|refine svC F M ?_|refine svC0 F M ?_|refine pvC ?_|refine pvC0 ?_);(fail);(first|refine⟨rvsA,?_⟩|clear F M a;intro a w F M|clear M;intro w M))|refine zh F ?_ ?_<;>(intro hg;rw[hg] at F;try exact no hg)|refine zT F ?_|((with_reducible refine isK ?_);refine svB F ?_ ?_<;>intro hc<;>try exact no hc)|refine zY ?_;go_step|fail))
 all_goals refine zE F M ?_
 exact⟨_,_,rfl,⟨hh,H',xs,⟨rfl,q5⟩,rfl⟩,M.perms permsA⟩
end
end
section
open Go.RowKit Go.Maps
open Go.ChangeMaps (setBlock)
def pairL (l:List MapEntry):List (Value × Value):=l.map fun e=>(e.key,e.val)
def MapR (w:World) (b r:Nat) (K:TypeId) (P todo:List (Value × Value)) (cur:Option (Value × Value)):Prop :=
 ∃ es clk since seen c0,w.heap[b]? = some (.map es clk)∧w.heap[r]? = some (.mapIter (some b) since seen c0)∧(pairs es).Perm P∧(∀ p∈P,∃ l,keyOf Tryz.prog K p.1=some l)∧(P.map (·.1)).Nodup∧BornOK es clk∧(since≤c0∧since≤clk)∧(∀ e∈es.toList,e.born<since)∧(pairL (leftOf es seen).toList).Perm todo ∧
  ∀ p,cur=some p→∃ (e:MapEntry) (seen':Array Nat),e∈es.toList∧seen=seen'.push e.born∧c0=clk∧p=(e.key,e.val)
theorem MapR.of_block {w w':World} {b r:Nat} {K:TypeId} {P todo:List (Value × Value)} {cur:Option (Value × Value)} (h:MapR w b r K P todo cur) (e1:w'.heap[b]? = w.heap[b]?) (e2:w'.heap[r]? = w.heap[r]?):MapR w' b r K P todo cur:=by
 obtain ⟨es,clk,since,seen,c0,h1,h2,h3⟩:=h
 exact⟨es,clk,since,seen,c0,e1.trans h1,e2.trans h2,h3⟩
section
variable {o:Oper} {n:Nat} {l:List (Nat × Value)} {L:List Asn} {C:Value→List Asn→Prop}
end
end
section
open Go.RowKit
def epR (x:Val):Prop:=(-1152921504606846976≤x.ex∧x.ex≤1152921504606846976)∧(-1152921504606846976≤x.wd∧x.wd≤1152921504606846976)
end
section
open Go.RowKit Go.Maps
def CntOf (P:List (Value × Value)) (xs:List Int):Prop:=(∀ p∈P,∃ i,i∈xs∧p=(.int .i64 i,.int .i64 (xs.count i:Nat)))∧∀ i∈xs,(Value.int .i64 i,Value.int .i64 (xs.count i:Nat))∈P
theorem CntOf.nil:CntOf [] []:=⟨by simp,by simp⟩
theorem CntOf.vals {P:List (Value × Value)} {xs:List Int} (h:CntOf P xs):∀ p∈P,∃ v,p.2=.int .i64 v:=fun p hp=>by
 obtain ⟨i,_,rfl⟩:=h.1 p hp
 exact⟨_,rfl⟩
theorem CntOf.new {P:List (Value × Value)} {xs:List Int} (h:CntOf P xs) {i:Int} (hi:i∉xs):CntOf ((.int .i64 i,.int .i64 1)::P) (xs++[i]):=by
 have hc:xs.count i=0:=List.count_eq_zero.2 hi
 refine⟨fun p hp=>?_,fun j hj=>?_⟩
 ·rcases List.mem_cons.1 hp with rfl|hp
  ·exact⟨i,by simp,by simp[List.count_append,hc]⟩
  ·obtain ⟨j,hj,rfl⟩:=h.1 p hp
   have hne:¬i=j:=fun e=>hi (e ▸ hj)
   exact⟨j,by simp[hj],by simp[List.count_append,List.count_cons,hne]⟩
 ·rcases List.mem_append.1 hj with hj|hj
  ·have hne:¬i=j:=fun e=>hi (e ▸ hj)
   refine List.mem_cons_of_mem _ ?_
   have:=h.2 j hj
   simpa[List.count_append,List.count_cons,hne] using this
  ·obtain rfl:j=i:=by simpa using hj
   simp[List.count_append,hc]
theorem CntOf.upd {P:List (Value × Value)} {xs:List Int} (h:CntOf P xs) {i:Int} (hi:i∈xs):CntOf (updP i (.int .i64 ((xs.count i:Nat)+1:Int)) P) (xs++[i]):=by
 refine⟨fun p hp=>?_,fun j hj=>?_⟩
 ·obtain ⟨q,hq,rfl⟩:=List.mem_map.1 hp
  obtain ⟨j,hj,rfl⟩:=h.1 q hq
  by_cases hji:j=i
  ·subst hji
   rw[updF_hit]
   exact⟨j,by simp,by simp[List.count_append]⟩
  ·rw[updF_miss (by simp[hji])]
   exact⟨j,by simp[hj],by simp[List.count_append,List.count_cons,Ne.symm hji]⟩
 ·by_cases hji:j=i
  ·subst hji
   refine List.mem_map.2 ⟨_,h.2 j hi,?_⟩
   rw[updF_hit]
   simp[List.count_append]
  ·have hj':j∈xs:=by
    rcases List.mem_append.1 hj with h|h
    ·exact h
    ·exact absurd (by simpa using h) hji
   refine List.mem_map.2 ⟨_,h.2 j hj',?_⟩
   rw[updF_miss (by simp[hji])]
   simp[List.count_append,List.count_cons,Ne.symm hji]
theorem CntOf.len {P:List (Value × Value)} {xs:List Int} (h:CntOf P xs):P.length=0↔xs=[]:=by
 constructor
 ·intro hp
  cases xs with
  | nil=>rfl
  | cons x xs =>
   have:=h.2 x (by simp)
   rw[List.length_eq_zero_iff.1 hp] at this
   cases this
 ·rintro rfl
  cases P with
  | nil=>rfl
  | cons p P=>obtain ⟨i,hi,_⟩:=h.1 p (by simp);cases hi
section
variable (c:FuncId) [hfk:FK c] (p:Val→Bool) (V:List Val) (v:Value) (R:List Asn) (hg:GS R 7 v V.length (V.flatMap valL)) (hlen:V.length≤1000000)
end
end
section
open Go.RowKit
structure SnD where
 V:List Val
 pe:List Int
 fo:List Int
 vo:List Int
 nM:Nat
 nQ:Nat
structure AuOK (R:List Asn) (x:Sn) (d:SnD) (c:Cfg):Prop where
 gV:GS R 7 (sl x.hV) d.V.length (d.V.flatMap valL)
 gP:GS R 1 (sl x.hP) d.pe.length (d.pe.flatMap intL)
 gF:GS R 1 (sl x.hF) d.fo.length (d.fo.flatMap intL)
 gO:GS R 1 (sl x.hO) d.vo.length (d.vo.flatMap intL)
 gM:∃ cs,GS R 2 (sl x.hM) d.nM cs
 gQ:∃ cs,GS R 2 (sl x.hQ) d.nQ cs
 lV:d.V.length≤1000000
 lP:d.pe.length≤400000
 lF:d.fo.length≤400000
 lO:d.vo.length≤400000
 bal:∀ v∈d.V,U64 v.bal
 ep:∀ v∈d.V,epR v
 iP:∀ z∈d.pe,I64 z
 iF:∀ z∈d.fo,I64 z
 iO:∀ z∈d.vo,I64 z
 pd:U64 x.pd
 bu:U64 x.bu
 bk:I64 x.bk
 el:1≤c.epochLen
theorem AuOK.app {R:List Asn} {x:Sn} {d:SnD} {c:Cfg} (h:AuOK R x d c) (G:List Asn):AuOK (R++G) x d c :=
 {h with gV:=Gives.app h.gV,gP:=Gives.app h.gP,gF:=Gives.app h.gF,gO:=Gives.app h.gO,gM:=h.gM.imp fun _ h=>Gives.app h,gQ:=h.gQ.imp fun _ h=>Gives.app h}
theorem AuOK.tail {R:List Asn} {x:Sn} {d:SnD} {c:Cfg} (h:AuOK R x d c) (A:Asn):AuOK (A::R) x d c :=
 {h with gV:=GS.tail h.gV,gP:=GS.tail h.gP,gF:=GS.tail h.gF,gO:=GS.tail h.gO,gM:=h.gM.imp fun _ h=>GS.tail h,gQ:=h.gQ.imp fun _ h=>GS.tail h}
def mxI (x y:Int):Int:=if y>x then y else x
section
variable (x:Sn) (d:SnD) (c:Cfg) (R:List Asn) (h:AuOK R x d c)
end
end
section
open Go.RowKit
section
variable {o:Oper} {n:Nat} {l:List (Nat × Value)} {L:List Asn}
theorem rt_fieldV {t:TypeId} {x:Operand} {f:Nat} (ho:o.op=.field t x f) {cs:List Value} (hx:evl l x=some (.agg cs.toArray)) {ft off:Nat} (hu:(match Tryz.prog.underlying t with|some (.struct fs)=>(fs[f]?).map (fun f=>(f.type,f.offset))|_=>none)=some (ft,off)) (hkt:KT ft none) {v:Value} (hv:cs[off]? = some v):RT o l L n v:=fun a w F M=>by
 unfold execOp
 rw[ho]
 split at hu
 ·rename_i fs hus
  cases hfs:fs[f]? with
  | none=>rw[hfs] at hu;cases hu
  | some fd =>
   rw[hfs] at hu
   have h2:=Option.some.inj hu
   simp only[Prod.mk.injEq] at h2
   obtain ⟨h2,h3⟩:=h2
   subst h2;subst h3
   have hv':cs.toArray[fd.offset]? = some v:=by simpa using hv
   simp[F.eval hx,Instr.field,run_underlying hus w,hfs,asAgg,part,(run_isAgg (h:=hkt) w).1,hv,hv']
 ·cases hu
end
section
variable (x:Sn) (d:SnD) (c:Cfg) (R:List Asn) (h:AuOK R x d c)
end
end
def zk123:List Nat:=[0,1,4,5,10,12,13,14,24]
def zd124:List ZR:=[⟨6,[],[],[],[0,1,2,3,4,5,6,7,8]⟩]
section
open Go.RowKit
instance:DecidableEq Val:=fun a b=>decidable_of_iff (a.bal=b.bal∧a.st=b.st∧a.sl=b.sl∧a.rq=b.rq∧a.ex=b.ex∧a.wd=b.wd∧a.dl=b.dl) (by cases a;cases b;simp)
theorem eqs_val (u v:Value) (xs ys:List Val) {L:List Asn} (hu:GS L 7 u xs.length (xs.flatMap valL)) (hv:GS L 7 v ys.length (ys.flatMap valL)) :
  Reads 27 [u,v] (.bool (decide (xs=ys))) L:=by
 (intro K hK w M;refine sx_enter Tryz.func27 (n:=26) rfl rfl rfl rfl ?_;intro a F)
 replace hu:=hu.imp hK
 replace hv:=hv.imp hK
 have hlu:=hu.len_le M
 have hlv:=hv.len_le M
 by_cases hl:xs.length=ys.length
 ·have hR:decide (xs=ys)=decide (xs.drop 0=ys.drop 0):=by simp
  generalize decide (xs=ys)=R at *
  (repeat'(first|(first|(refine sx_nil ?_;(try(replace F:=F.filt zk123 rfl)))|(refine sv1 F M (h:=?_) (hr:=by(apply(rt_neqT (f:=valL));(exact rfl);(exact rfl);(exact rfl);(exact inferInstance);(exact inferInstance)));clear F a;intro a F)|(refine sv1 F M (h:=?_);clear F a;intro a F)|(refine sv3 F M (h:=?_);clear M;intro w M)|(refine sv2 F M (h:=?_);clear F M a;intro b a w F M)|(refine svC F M (h:=?_);fail;(clear F M a;intro a w F M))|(refine svC0 F M (h:=?_);fail;(clear M;intro w M))|(refine sv1 F M (h:=?_) (hr:=by fail);clear F a;intro a F)|(refine svK F (h:=?_);clear F a;intro a F)|(refine svK0 F (h:=?_))|((refine sx_guardb F rfl (fun hg=>?_) (fun hg=>?_))<;>(rw[hg] at F;(try(exact no hg)))))|(first|(refine pv1 (h:=?_) (hr:=by(apply(rt_neqT (f:=valL));(exact rfl);(exact rfl);(exact rfl);(exact inferInstance);(exact inferInstance))))|(refine pv1 (h:=?_))|(refine pv3 (h:=?_))|(refine pv2 (h:=?_);intro b)|(refine pvC (h:=?_);fail;(refine⟨?_,?_⟩;(exact rvsA)))|(refine pvC0 (h:=?_);fail;(refine⟨?_,?_⟩;(exact rvsA)))|(refine pv1 (h:=?_) (hr:=by fail))|(refine pvF (h:=?_);intro b)|(refine pvK (h:=?_))|(refine pvK0 (h:=?_))|(refine pv_nil ?_;intro a w F M;refine ql_open ?_)|(refine pv_nil ?_;intro a w F M;(try(replace F:=F.filt zk123 rfl))))|((fail_if_success(with_reducible show wpList _ _ _ _ _ _));(fail_if_success(with_reducible show PW _ _ _ _ _ _ _ _ _ _));(fail_if_success(with_reducible show Code.wp _ (Code.loop _) _ _ _));(first|((with_reducible show Code.wp _ (Code.region _ _ false) _ _ _);(refine sx_region ?_))|((with_reducible show Code.wp _ (Code.cond _ _ _) _ _ _);(first|(refine svT F (h:=?_))|(refine svF F (h:=?_))|((refine svB F (fun hc=>?_) (fun hc=>?_))<;>(try(exact no hc)))))|((with_reducible show Code.wp _ (Code.region _ _ true) _ _ _);(first|(refine zD zd124 F M ?_;clear F M a w)))|go_step))))
  refine sv_loop (σ:=Nat) (fun s=>[(0,u),(1,v),(12,.int .i64 xs.length),(13,.int .i64 s)]) (fun _=>K) (fun s=>s≤xs.length∧R=decide (xs.drop s=ys.drop s)) (fun s=>xs.length - s) F M 0 kpA permsA ⟨by omega,hR⟩ ?_
  rintro k ⟨h1,h2⟩ a w F M
  try simp only at h1 h2 F ⊢
  by_cases hlt:k<xs.length
  ·obtain ⟨x,hx⟩:∃ x,xs[k]? = some x:=⟨xs[k],by simp[hlt]⟩
   obtain ⟨y,hy⟩:∃ y,ys[k]? = some y:=⟨ys[k]'(by omega),by rw[List.getElem?_eq_getElem (by omega)]⟩
   rw[drop_cons hx,drop_cons hy] at h2
   by_cases he:x=y
   ·subst he
    (repeat'(first|(first|(refine sx_nil ?_;(try(replace F:=F.filt zk123 rfl)))|(refine sv1 F M (h:=?_) (hr:=by(apply(rt_neqT (f:=valL));(exact rfl);(exact rfl);(exact rfl);(exact inferInstance);(exact inferInstance)));clear F a;intro a F)|(refine sv1 F M (h:=?_);clear F a;intro a F)|(refine sv3 F M (h:=?_);clear M;intro w M)|(refine sv2 F M (h:=?_);clear F M a;intro b a w F M)|(refine svC F M (h:=?_);fail;(clear F M a;intro a w F M))|(refine svC0 F M (h:=?_);fail;(clear M;intro w M))|(refine sv1 F M (h:=?_) (hr:=by fail);clear F a;intro a F)|(refine svK F (h:=?_);clear F a;intro a F)|(refine svK0 F (h:=?_))|((refine sx_guardb F rfl (fun hg=>?_) (fun hg=>?_))<;>(rw[hg] at F;(try(exact no hg)))))|(first|(refine pv1 (h:=?_) (hr:=by(apply(rt_neqT (f:=valL));(exact rfl);(exact rfl);(exact rfl);(exact inferInstance);(exact inferInstance))))|(refine pv1 (h:=?_))|(refine pv3 (h:=?_))|(refine pv2 (h:=?_);intro b)|(refine pvC (h:=?_);fail;(refine⟨?_,?_⟩;(exact rvsA)))|(refine pvC0 (h:=?_);fail;(refine⟨?_,?_⟩;(exact rvsA)))|(refine pv1 (h:=?_) (hr:=by fail))|(refine pvF (h:=?_);intro b)|(refine pvK (h:=?_))|(refine pvK0 (h:=?_))|(refine pv_nil ?_;intro a w F M;refine ql_open ?_)|(refine pv_nil ?_;intro a w F M;(try(replace F:=F.filt zk123 rfl))))|((fail_if_success(with_reducible show wpList _ _ _ _ _ _));(fail_if_success(with_reducible show PW _ _ _ _ _ _ _ _ _ _));(fail_if_success(with_reducible show Code.wp _ (Code.loop _) _ _ _));(first|((with_reducible show Code.wp _ (Code.region _ _ false) _ _ _);(refine sx_region ?_))|((with_reducible show Code.wp _ (Code.cond _ _ _) _ _ _);(first|(refine svT F (h:=?_))|(refine svF F (h:=?_))|((refine svB F (fun hc=>?_) (fun hc=>?_))<;>(try(exact no hc)))))|((with_reducible show Code.wp _ (Code.region _ _ true) _ _ _);(first|(refine zD zd124 F M ?_;clear F M a w)))|go_step))))
    (refine sv_again F M (k+1) kpA permsA ?_ ?_)
    ·exact⟨by omega,by rw[h2];simp⟩
    ·omega
   ·(repeat'(first|(first|(refine sx_nil ?_;(try(replace F:=F.filt zk123 rfl)))|(refine sv1 F M (h:=?_) (hr:=by(apply(rt_neqT (f:=valL));(exact rfl);(exact rfl);(exact rfl);(exact inferInstance);(exact inferInstance)));clear F a;intro a F)|(refine sv1 F M (h:=?_);clear F a;intro a F)|(refine sv3 F M (h:=?_);clear M;intro w M)|(refine sv2 F M (h:=?_);clear F M a;intro b a w F M)|(refine svC F M (h:=?_);fail;(clear F M a;intro a w F M))|(refine svC0 F M (h:=?_);fail;(clear M;intro w M))|(refine sv1 F M (h:=?_) (hr:=by fail);clear F a;intro a F)|(refine svK F (h:=?_);clear F a;intro a F)|(refine svK0 F (h:=?_))|((refine sx_guardb F rfl (fun hg=>?_) (fun hg=>?_))<;>(rw[hg] at F;(try(exact no hg)))))|(first|(refine pv1 (h:=?_) (hr:=by(apply(rt_neqT (f:=valL));(exact rfl);(exact rfl);(exact rfl);(exact inferInstance);(exact inferInstance))))|(refine pv1 (h:=?_))|(refine pv3 (h:=?_))|(refine pv2 (h:=?_);intro b)|(refine pvC (h:=?_);fail;(refine⟨?_,?_⟩;(exact rvsA)))|(refine pvC0 (h:=?_);fail;(refine⟨?_,?_⟩;(exact rvsA)))|(refine pv1 (h:=?_) (hr:=by fail))|(refine pvF (h:=?_);intro b)|(refine pvK (h:=?_))|(refine pvK0 (h:=?_))|(refine pv_nil ?_;intro a w F M;refine ql_open ?_)|(refine pv_nil ?_;intro a w F M;(try(replace F:=F.filt zk123 rfl))))|((fail_if_success(with_reducible show wpList _ _ _ _ _ _));(fail_if_success(with_reducible show PW _ _ _ _ _ _ _ _ _ _));(fail_if_success(with_reducible show Code.wp _ (Code.loop _) _ _ _));(first|((with_reducible show Code.wp _ (Code.region _ _ false) _ _ _);(refine sx_region ?_))|((with_reducible show Code.wp _ (Code.cond _ _ _) _ _ _);(first|(refine svT F (h:=?_))|(refine svF F (h:=?_))|((refine svB F (fun hc=>?_) (fun hc=>?_))<;>(try(exact no hc)))))|((with_reducible show Code.wp _ (Code.region _ _ true) _ _ _);(first|(refine zD zd124 F M ?_;clear F M a w)))|go_step))))
    (all_goals((first|(refine svEnd F M ?_)|(refine svRet F M ?_));refine⟨?_,M.perms permsA⟩))
    rw[h2];simp[tupOf,he]
  ·(repeat'(first|(first|(refine sx_nil ?_;(try(replace F:=F.filt zk123 rfl)))|(refine sv1 F M (h:=?_) (hr:=by(apply(rt_neqT (f:=valL));(exact rfl);(exact rfl);(exact rfl);(exact inferInstance);(exact inferInstance)));clear F a;intro a F)|(refine sv1 F M (h:=?_);clear F a;intro a F)|(refine sv3 F M (h:=?_);clear M;intro w M)|(refine sv2 F M (h:=?_);clear F M a;intro b a w F M)|(refine svC F M (h:=?_);fail;(clear F M a;intro a w F M))|(refine svC0 F M (h:=?_);fail;(clear M;intro w M))|(refine sv1 F M (h:=?_) (hr:=by fail);clear F a;intro a F)|(refine svK F (h:=?_);clear F a;intro a F)|(refine svK0 F (h:=?_))|((refine sx_guardb F rfl (fun hg=>?_) (fun hg=>?_))<;>(rw[hg] at F;(try(exact no hg)))))|(first|(refine pv1 (h:=?_) (hr:=by(apply(rt_neqT (f:=valL));(exact rfl);(exact rfl);(exact rfl);(exact inferInstance);(exact inferInstance))))|(refine pv1 (h:=?_))|(refine pv3 (h:=?_))|(refine pv2 (h:=?_);intro b)|(refine pvC (h:=?_);fail;(refine⟨?_,?_⟩;(exact rvsA)))|(refine pvC0 (h:=?_);fail;(refine⟨?_,?_⟩;(exact rvsA)))|(refine pv1 (h:=?_) (hr:=by fail))|(refine pvF (h:=?_);intro b)|(refine pvK (h:=?_))|(refine pvK0 (h:=?_))|(refine pv_nil ?_;intro a w F M;refine ql_open ?_)|(refine pv_nil ?_;intro a w F M;(try(replace F:=F.filt zk123 rfl))))|((fail_if_success(with_reducible show wpList _ _ _ _ _ _));(fail_if_success(with_reducible show PW _ _ _ _ _ _ _ _ _ _));(fail_if_success(with_reducible show Code.wp _ (Code.loop _) _ _ _));(first|((with_reducible show Code.wp _ (Code.region _ _ false) _ _ _);(refine sx_region ?_))|((with_reducible show Code.wp _ (Code.cond _ _ _) _ _ _);(first|(refine svT F (h:=?_))|(refine svF F (h:=?_))|((refine svB F (fun hc=>?_) (fun hc=>?_))<;>(try(exact no hc)))))|((with_reducible show Code.wp _ (Code.region _ _ true) _ _ _);(first|(refine zD zd124 F M ?_;clear F M a w)))|go_step))))
   (all_goals((first|(refine svEnd F M ?_)|(refine svRet F M ?_));refine⟨?_,M.perms permsA⟩))
   rw[h2,List.drop_of_length_le (by omega),List.drop_of_length_le (by omega)];rfl
 ·have hne:xs≠ys:=fun e=>hl (by rw[e])
  have hl':¬((xs.length:Int)=(ys.length:Int)):=by omega
  (repeat'(first|(first|(refine sx_nil ?_;(try(replace F:=F.filt zk123 rfl)))|(refine sv1 F M (h:=?_) (hr:=by(apply(rt_neqT (f:=valL));(exact rfl);(exact rfl);(exact rfl);(exact inferInstance);(exact inferInstance)));clear F a;intro a F)|(refine sv1 F M (h:=?_);clear F a;intro a F)|(refine sv3 F M (h:=?_);clear M;intro w M)|(refine sv2 F M (h:=?_);clear F M a;intro b a w F M)|(refine svC F M (h:=?_);fail;(clear F M a;intro a w F M))|(refine svC0 F M (h:=?_);fail;(clear M;intro w M))|(refine sv1 F M (h:=?_) (hr:=by fail);clear F a;intro a F)|(refine svK F (h:=?_);clear F a;intro a F)|(refine svK0 F (h:=?_))|((refine sx_guardb F rfl (fun hg=>?_) (fun hg=>?_))<;>(rw[hg] at F;(try(exact no hg)))))|(first|(refine pv1 (h:=?_) (hr:=by(apply(rt_neqT (f:=valL));(exact rfl);(exact rfl);(exact rfl);(exact inferInstance);(exact inferInstance))))|(refine pv1 (h:=?_))|(refine pv3 (h:=?_))|(refine pv2 (h:=?_);intro b)|(refine pvC (h:=?_);fail;(refine⟨?_,?_⟩;(exact rvsA)))|(refine pvC0 (h:=?_);fail;(refine⟨?_,?_⟩;(exact rvsA)))|(refine pv1 (h:=?_) (hr:=by fail))|(refine pvF (h:=?_);intro b)|(refine pvK (h:=?_))|(refine pvK0 (h:=?_))|(refine pv_nil ?_;intro a w F M;refine ql_open ?_)|(refine pv_nil ?_;intro a w F M;(try(replace F:=F.filt zk123 rfl))))|((fail_if_success(with_reducible show wpList _ _ _ _ _ _));(fail_if_success(with_reducible show PW _ _ _ _ _ _ _ _ _ _));(fail_if_success(with_reducible show Code.wp _ (Code.loop _) _ _ _));(first|((with_reducible show Code.wp _ (Code.region _ _ false) _ _ _);(refine sx_region ?_))|((with_reducible show Code.wp _ (Code.cond _ _ _) _ _ _);(first|(refine svT F (h:=?_))|(refine svF F (h:=?_))|((refine svB F (fun hc=>?_) (fun hc=>?_))<;>(try(exact no hc)))))|((with_reducible show Code.wp _ (Code.region _ _ true) _ _ _);(first|(refine zD zd124 F M ?_;clear F M a w)))|go_step))))
  (all_goals((first|(refine svEnd F M ?_)|(refine svRet F M ?_));refine⟨?_,M.perms permsA⟩))
  simp[tupOf,hne]
end
section
open Go.RowKit
inductive Tr where
 | nil
 | cons (i:Nat) (js:List Nat) (r:Tr)
 | alt (l r:Tr)
section
variable {P:Program} {ops:Array Oper} {Q:Exit→Act→World→Prop} {n:Nat} {E Fl:List Nat}
end
section
variable {ops:Array Oper} {Q:Exit→Act→World→Prop} {o:Oper} {a:Act} {w:World} {n:Nat} {l:List (Nat × Value)} {L:List Asn} {C:Value→List Asn→Prop} {E Fl:List Nat} {r:Tr} {js:List Nat} {i:Nat}
end
end
section
open Go.RowKit
def d0:SnD:=⟨[],[],[],[],0,0⟩
end
section
open Go.RowKit
structure SnG (R:List Asn) (x:Sn) (d:SnD):Prop where
 gV:GS R 7 (sl x.hV) d.V.length (d.V.flatMap valL)
 gP:GS R 1 (sl x.hP) d.pe.length (d.pe.flatMap intL)
 gF:GS R 1 (sl x.hF) d.fo.length (d.fo.flatMap intL)
 gO:GS R 1 (sl x.hO) d.vo.length (d.vo.flatMap intL)
 gM:∃ cs,GS R 2 (sl x.hM) d.nM cs
 gQ:∃ cs,GS R 2 (sl x.hQ) d.nQ cs
theorem SnG.app {R:List Asn} {x:Sn} {d:SnD} (h:SnG R x d) (G:List Asn):SnG (R++G) x d :=
 ⟨Gives.app h.gV,Gives.app h.gP,Gives.app h.gF,Gives.app h.gO,h.gM.imp fun _ h=>Gives.app h,h.gQ.imp fun _ h=>Gives.app h⟩
theorem SnG.tail {R:List Asn} {x:Sn} {d:SnD} (h:SnG R x d) (A:Asn):SnG (A::R) x d :=
 ⟨GS.tail h.gV,GS.tail h.gP,GS.tail h.gF,GS.tail h.gO,h.gM.imp fun _ h=>GS.tail h,h.gQ.imp fun _ h=>GS.tail h⟩
structure SnR (x:Sn) (d:SnD):Prop where
 bal:∀ v∈d.V,U64 v.bal
 iP:∀ z∈d.pe,I64 z
 iF:∀ z∈d.fo,I64 z
 iO:∀ z∈d.vo,I64 z
 pd:U64 x.pd
 bu:U64 x.bu
 bk:I64 x.bk
def mnI (x y:Int):Int:=if y<x then y else x
def fewV (v:Val):Bool:=!(decide (1152921504606846976<mxI (mxI v.ex v.wd) v.rq) || decide (mnI (mnI v.ex v.wd) v.rq < -1152921504606846976))
def fewT (d:SnD):Bool:=decide ((d.V.length:Int)≤60) && decide ((d.pe.length:Int)≤60) && decide ((d.fo.length:Int)≤60) && decide ((d.vo.length:Int)≤60) && decide ((d.nM:Int)≤60) && decide ((d.nQ:Int)≤60)
def fewB (d:SnD):Bool:=d.V.all fewV && fewT d
theorem rcheck_spec (c:Cfg) (R:List Asn):Spec 16 [cfgV c] R fun u L'=>u=.int .i64 (checkF c)∧L'=R:=Spec.of_below (fun w=>rCheck_any c w) ⟨rfl,rfl⟩
section
variable (x:Sn) (d:SnD) (R:List Asn) (h:SnG R x d)
include h
end
end
section
open Go.RowKit
theorem eqs_pm (u v:Value) (xs ys:List Pm) {L:List Asn} (hu:GS L 3 u xs.length (xs.flatMap pmL)) (hv:GS L 3 v ys.length (ys.flatMap pmL)) :
  Reads 63 [u,v] (.bool (decide (xs=ys))) L:=by
 (intro K hK w M;refine sx_enter Tryz.func63 (n:=26) rfl rfl rfl rfl ?_;intro a F)
 replace hu:=hu.imp hK
 replace hv:=hv.imp hK
 have hlu:=hu.len_le M
 have hlv:=hv.len_le M
 by_cases hl:xs.length=ys.length
 ·have hR:decide (xs=ys)=decide (xs.drop 0=ys.drop 0):=by simp
  generalize decide (xs=ys)=R at *
  (repeat'(first|(first|(refine sx_nil ?_;(try(replace F:=F.filt zk123 rfl)))|(refine sv1 F M (h:=?_) (hr:=by(apply(rt_neqT (f:=pmL));(exact rfl);(exact rfl);(exact rfl);(exact inferInstance);(exact inferInstance)));clear F a;intro a F)|(refine sv1 F M (h:=?_);clear F a;intro a F)|(refine sv3 F M (h:=?_);clear M;intro w M)|(refine sv2 F M (h:=?_);clear F M a;intro b a w F M)|(refine svC F M (h:=?_);fail;(clear F M a;intro a w F M))|(refine svC0 F M (h:=?_);fail;(clear M;intro w M))|(refine sv1 F M (h:=?_) (hr:=by fail);clear F a;intro a F)|(refine svK F (h:=?_);clear F a;intro a F)|(refine svK0 F (h:=?_))|((refine sx_guardb F rfl (fun hg=>?_) (fun hg=>?_))<;>(rw[hg] at F;(try(exact no hg)))))|(first|(refine pv1 (h:=?_) (hr:=by(apply(rt_neqT (f:=pmL));(exact rfl);(exact rfl);(exact rfl);(exact inferInstance);(exact inferInstance))))|(refine pv1 (h:=?_))|(refine pv3 (h:=?_))|(refine pv2 (h:=?_);intro b)|(refine pvC (h:=?_);fail;(refine⟨?_,?_⟩;(exact rvsA)))|(refine pvC0 (h:=?_);fail;(refine⟨?_,?_⟩;(exact rvsA)))|(refine pv1 (h:=?_) (hr:=by fail))|(refine pvF (h:=?_);intro b)|(refine pvK (h:=?_))|(refine pvK0 (h:=?_))|(refine pv_nil ?_;intro a w F M;refine ql_open ?_)|(refine pv_nil ?_;intro a w F M;(try(replace F:=F.filt zk123 rfl))))|((fail_if_success(with_reducible show wpList _ _ _ _ _ _));(fail_if_success(with_reducible show PW _ _ _ _ _ _ _ _ _ _));(fail_if_success(with_reducible show Code.wp _ (Code.loop _) _ _ _));(first|((with_reducible show Code.wp _ (Code.region _ _ false) _ _ _);(refine sx_region ?_))|((with_reducible show Code.wp _ (Code.cond _ _ _) _ _ _);(first|(refine svT F (h:=?_))|(refine svF F (h:=?_))|((refine svB F (fun hc=>?_) (fun hc=>?_))<;>(try(exact no hc)))))|((with_reducible show Code.wp _ (Code.region _ _ true) _ _ _);(first|(refine zD zd124 F M ?_;clear F M a w)))|go_step))))
  refine sv_loop (σ:=Nat) (fun s=>[(0,u),(1,v),(12,.int .i64 xs.length),(13,.int .i64 s)]) (fun _=>K) (fun s=>s≤xs.length∧R=decide (xs.drop s=ys.drop s)) (fun s=>xs.length - s) F M 0 kpA permsA ⟨by omega,hR⟩ ?_
  rintro k ⟨h1,h2⟩ a w F M
  try simp only at h1 h2 F ⊢
  by_cases hlt:k<xs.length
  ·obtain ⟨x,hx⟩:∃ x,xs[k]? = some x:=⟨xs[k],by simp[hlt]⟩
   obtain ⟨y,hy⟩:∃ y,ys[k]? = some y:=⟨ys[k]'(by omega),by rw[List.getElem?_eq_getElem (by omega)]⟩
   rw[drop_cons hx,drop_cons hy] at h2
   by_cases he:x=y
   ·subst he
    (repeat'(first|(first|(refine sx_nil ?_;(try(replace F:=F.filt zk123 rfl)))|(refine sv1 F M (h:=?_) (hr:=by(apply(rt_neqT (f:=pmL));(exact rfl);(exact rfl);(exact rfl);(exact inferInstance);(exact inferInstance)));clear F a;intro a F)|(refine sv1 F M (h:=?_);clear F a;intro a F)|(refine sv3 F M (h:=?_);clear M;intro w M)|(refine sv2 F M (h:=?_);clear F M a;intro b a w F M)|(refine svC F M (h:=?_);fail;(clear F M a;intro a w F M))|(refine svC0 F M (h:=?_);fail;(clear M;intro w M))|(refine sv1 F M (h:=?_) (hr:=by fail);clear F a;intro a F)|(refine svK F (h:=?_);clear F a;intro a F)|(refine svK0 F (h:=?_))|((refine sx_guardb F rfl (fun hg=>?_) (fun hg=>?_))<;>(rw[hg] at F;(try(exact no hg)))))|(first|(refine pv1 (h:=?_) (hr:=by(apply(rt_neqT (f:=pmL));(exact rfl);(exact rfl);(exact rfl);(exact inferInstance);(exact inferInstance))))|(refine pv1 (h:=?_))|(refine pv3 (h:=?_))|(refine pv2 (h:=?_);intro b)|(refine pvC (h:=?_);fail;(refine⟨?_,?_⟩;(exact rvsA)))|(refine pvC0 (h:=?_);fail;(refine⟨?_,?_⟩;(exact rvsA)))|(refine pv1 (h:=?_) (hr:=by fail))|(refine pvF (h:=?_);intro b)|(refine pvK (h:=?_))|(refine pvK0 (h:=?_))|(refine pv_nil ?_;intro a w F M;refine ql_open ?_)|(refine pv_nil ?_;intro a w F M;(try(replace F:=F.filt zk123 rfl))))|((fail_if_success(with_reducible show wpList _ _ _ _ _ _));(fail_if_success(with_reducible show PW _ _ _ _ _ _ _ _ _ _));(fail_if_success(with_reducible show Code.wp _ (Code.loop _) _ _ _));(first|((with_reducible show Code.wp _ (Code.region _ _ false) _ _ _);(refine sx_region ?_))|((with_reducible show Code.wp _ (Code.cond _ _ _) _ _ _);(first|(refine svT F (h:=?_))|(refine svF F (h:=?_))|((refine svB F (fun hc=>?_) (fun hc=>?_))<;>(try(exact no hc)))))|((with_reducible show Code.wp _ (Code.region _ _ true) _ _ _);(first|(refine zD zd124 F M ?_;clear F M a w)))|go_step))))
    (refine sv_again F M (k+1) kpA permsA ?_ ?_)
    ·exact⟨by omega,by rw[h2];simp⟩
    ·omega
   ·(repeat'(first|(first|(refine sx_nil ?_;(try(replace F:=F.filt zk123 rfl)))|(refine sv1 F M (h:=?_) (hr:=by(apply(rt_neqT (f:=pmL));(exact rfl);(exact rfl);(exact rfl);(exact inferInstance);(exact inferInstance)));clear F a;intro a F)|(refine sv1 F M (h:=?_);clear F a;intro a F)|(refine sv3 F M (h:=?_);clear M;intro w M)|(refine sv2 F M (h:=?_);clear F M a;intro b a w F M)|(refine svC F M (h:=?_);fail;(clear F M a;intro a w F M))|(refine svC0 F M (h:=?_);fail;(clear M;intro w M))|(refine sv1 F M (h:=?_) (hr:=by fail);clear F a;intro a F)|(refine svK F (h:=?_);clear F a;intro a F)|(refine svK0 F (h:=?_))|((refine sx_guardb F rfl (fun hg=>?_) (fun hg=>?_))<;>(rw[hg] at F;(try(exact no hg)))))|(first|(refine pv1 (h:=?_) (hr:=by(apply(rt_neqT (f:=pmL));(exact rfl);(exact rfl);(exact rfl);(exact inferInstance);(exact inferInstance))))|(refine pv1 (h:=?_))|(refine pv3 (h:=?_))|(refine pv2 (h:=?_);intro b)|(refine pvC (h:=?_);fail;(refine⟨?_,?_⟩;(exact rvsA)))|(refine pvC0 (h:=?_);fail;(refine⟨?_,?_⟩;(exact rvsA)))|(refine pv1 (h:=?_) (hr:=by fail))|(refine pvF (h:=?_);intro b)|(refine pvK (h:=?_))|(refine pvK0 (h:=?_))|(refine pv_nil ?_;intro a w F M;refine ql_open ?_)|(refine pv_nil ?_;intro a w F M;(try(replace F:=F.filt zk123 rfl))))|((fail_if_success(with_reducible show wpList _ _ _ _ _ _));(fail_if_success(with_reducible show PW _ _ _ _ _ _ _ _ _ _));(fail_if_success(with_reducible show Code.wp _ (Code.loop _) _ _ _));(first|((with_reducible show Code.wp _ (Code.region _ _ false) _ _ _);(refine sx_region ?_))|((with_reducible show Code.wp _ (Code.cond _ _ _) _ _ _);(first|(refine svT F (h:=?_))|(refine svF F (h:=?_))|((refine svB F (fun hc=>?_) (fun hc=>?_))<;>(try(exact no hc)))))|((with_reducible show Code.wp _ (Code.region _ _ true) _ _ _);(first|(refine zD zd124 F M ?_;clear F M a w)))|go_step))))
    (all_goals((first|(refine svEnd F M ?_)|(refine svRet F M ?_));refine⟨?_,M.perms permsA⟩))
    rw[h2];simp[tupOf,he]
  ·(repeat'(first|(first|(refine sx_nil ?_;(try(replace F:=F.filt zk123 rfl)))|(refine sv1 F M (h:=?_) (hr:=by(apply(rt_neqT (f:=pmL));(exact rfl);(exact rfl);(exact rfl);(exact inferInstance);(exact inferInstance)));clear F a;intro a F)|(refine sv1 F M (h:=?_);clear F a;intro a F)|(refine sv3 F M (h:=?_);clear M;intro w M)|(refine sv2 F M (h:=?_);clear F M a;intro b a w F M)|(refine svC F M (h:=?_);fail;(clear F M a;intro a w F M))|(refine svC0 F M (h:=?_);fail;(clear M;intro w M))|(refine sv1 F M (h:=?_) (hr:=by fail);clear F a;intro a F)|(refine svK F (h:=?_);clear F a;intro a F)|(refine svK0 F (h:=?_))|((refine sx_guardb F rfl (fun hg=>?_) (fun hg=>?_))<;>(rw[hg] at F;(try(exact no hg)))))|(first|(refine pv1 (h:=?_) (hr:=by(apply(rt_neqT (f:=pmL));(exact rfl);(exact rfl);(exact rfl);(exact inferInstance);(exact inferInstance))))|(refine pv1 (h:=?_))|(refine pv3 (h:=?_))|(refine pv2 (h:=?_);intro b)|(refine pvC (h:=?_);fail;(refine⟨?_,?_⟩;(exact rvsA)))|(refine pvC0 (h:=?_);fail;(refine⟨?_,?_⟩;(exact rvsA)))|(refine pv1 (h:=?_) (hr:=by fail))|(refine pvF (h:=?_);intro b)|(refine pvK (h:=?_))|(refine pvK0 (h:=?_))|(refine pv_nil ?_;intro a w F M;refine ql_open ?_)|(refine pv_nil ?_;intro a w F M;(try(replace F:=F.filt zk123 rfl))))|((fail_if_success(with_reducible show wpList _ _ _ _ _ _));(fail_if_success(with_reducible show PW _ _ _ _ _ _ _ _ _ _));(fail_if_success(with_reducible show Code.wp _ (Code.loop _) _ _ _));(first|((with_reducible show Code.wp _ (Code.region _ _ false) _ _ _);(refine sx_region ?_))|((with_reducible show Code.wp _ (Code.cond _ _ _) _ _ _);(first|(refine svT F (h:=?_))|(refine svF F (h:=?_))|((refine svB F (fun hc=>?_) (fun hc=>?_))<;>(try(exact no hc)))))|((with_reducible show Code.wp _ (Code.region _ _ true) _ _ _);(first|(refine zD zd124 F M ?_;clear F M a w)))|go_step))))
   (all_goals((first|(refine svEnd F M ?_)|(refine svRet F M ?_));refine⟨?_,M.perms permsA⟩))
   rw[h2,List.drop_of_length_le (by omega),List.drop_of_length_le (by omega)];rfl
 ·have hne:xs≠ys:=fun e=>hl (by rw[e])
  have hl':¬((xs.length:Int)=(ys.length:Int)):=by omega
  (repeat'(first|(first|(refine sx_nil ?_;(try(replace F:=F.filt zk123 rfl)))|(refine sv1 F M (h:=?_) (hr:=by(apply(rt_neqT (f:=pmL));(exact rfl);(exact rfl);(exact rfl);(exact inferInstance);(exact inferInstance)));clear F a;intro a F)|(refine sv1 F M (h:=?_);clear F a;intro a F)|(refine sv3 F M (h:=?_);clear M;intro w M)|(refine sv2 F M (h:=?_);clear F M a;intro b a w F M)|(refine svC F M (h:=?_);fail;(clear F M a;intro a w F M))|(refine svC0 F M (h:=?_);fail;(clear M;intro w M))|(refine sv1 F M (h:=?_) (hr:=by fail);clear F a;intro a F)|(refine svK F (h:=?_);clear F a;intro a F)|(refine svK0 F (h:=?_))|((refine sx_guardb F rfl (fun hg=>?_) (fun hg=>?_))<;>(rw[hg] at F;(try(exact no hg)))))|(first|(refine pv1 (h:=?_) (hr:=by(apply(rt_neqT (f:=pmL));(exact rfl);(exact rfl);(exact rfl);(exact inferInstance);(exact inferInstance))))|(refine pv1 (h:=?_))|(refine pv3 (h:=?_))|(refine pv2 (h:=?_);intro b)|(refine pvC (h:=?_);fail;(refine⟨?_,?_⟩;(exact rvsA)))|(refine pvC0 (h:=?_);fail;(refine⟨?_,?_⟩;(exact rvsA)))|(refine pv1 (h:=?_) (hr:=by fail))|(refine pvF (h:=?_);intro b)|(refine pvK (h:=?_))|(refine pvK0 (h:=?_))|(refine pv_nil ?_;intro a w F M;refine ql_open ?_)|(refine pv_nil ?_;intro a w F M;(try(replace F:=F.filt zk123 rfl))))|((fail_if_success(with_reducible show wpList _ _ _ _ _ _));(fail_if_success(with_reducible show PW _ _ _ _ _ _ _ _ _ _));(fail_if_success(with_reducible show Code.wp _ (Code.loop _) _ _ _));(first|((with_reducible show Code.wp _ (Code.region _ _ false) _ _ _);(refine sx_region ?_))|((with_reducible show Code.wp _ (Code.cond _ _ _) _ _ _);(first|(refine svT F (h:=?_))|(refine svF F (h:=?_))|((refine svB F (fun hc=>?_) (fun hc=>?_))<;>(try(exact no hc)))))|((with_reducible show Code.wp _ (Code.region _ _ true) _ _ _);(first|(refine zD zd124 F M ?_;clear F M a w)))|go_step))))
  (all_goals((first|(refine svEnd F M ?_)|(refine svRet F M ?_));refine⟨?_,M.perms permsA⟩))
  simp[tupOf,hne]
end
def zk125:List Nat:=[0,1,2,3,4,5,16,36,37,38,44]
section
open Go.RowKit
abbrev tkO:Opn:=⟨7,0,0,0⟩
def exO:List Opn:=[⟨1,0,0,32⟩,tkO,tkO,tkO,tkO]
def exS1:St:=(runM Cfg.deflt St.ini exO).2
def exR:Rc × St:=stepM Cfg.deflt exS1 ⟨2,0,0,0⟩
def tN (s:St):Nat→St
 | 0=>s
 | k+1=>(stepM Cfg.deflt (tN s k) tkO).2
theorem ex_c:exR.1.c=0:=by kernel_rfl
theorem ex_dl:exR.1.dl=8:=by kernel_rfl
theorem ex_no:((List.range 15).all fun k=>(stepM Cfg.deflt (tN exR.2 k) tkO).1.pms.isEmpty)=true:=by kernel_rfl
theorem ex_ep:(stepM Cfg.deflt (tN exR.2 15) tkO).1.ep=5:=by kernel_rfl
theorem ex_bk:(stepM Cfg.deflt (tN exR.2 15) tkO).1.bk=20:=by kernel_rfl
theorem ex_pm:(stepM Cfg.deflt (tN exR.2 15) tkO).1.pms=[⟨0,32,true⟩]:=by kernel_rfl
theorem ex_ck:checkF Cfg.deflt=0:=by kernel_rfl
theorem runM_inv {c:Cfg} (hc:CfOk c):∀ (l:List Opn) {s:St},Inv c s→s.bk+l.length<1000000000→(∀ o∈l,U64 o.am)→Inv c (runM c s l).2∧(runM c s l).2.bk≤s.bk+l.length
 | [],s,h,_,_=>⟨h,Nat.le_refl _⟩
 | o::r,s,h,hb,ho=>by
  rw[List.length_cons] at hb
  obtain ⟨h1,h2⟩:=stepM_inv hc h (by omega) o (ho o (by simp))
  obtain ⟨h3,h4⟩:=runM_inv hc r h1 (by omega) fun x hx=>ho x (by simp[hx])
  rw[runM_cons,List.length_cons]
  exact⟨h3,by simp only;omega⟩
theorem cfD:CfOk Cfg.deflt:=cfOk_of ex_ck (by decide) (by decide)
theorem exO_wf:∀ o∈exO,I64 o.k∧U64 o.am:=by
 intro o ho
 simp only[exO,List.mem_cons,List.not_mem_nil,or_false] at ho
 rcases ho with rfl|rfl|rfl|rfl|rfl<;>exact⟨⟨by decide,by decide⟩,⟨by decide,by decide⟩⟩
theorem exS1_inv:Inv Cfg.deflt exS1∧exS1.bk≤5:=by
 have:=runM_inv cfD exO (Inv.ini cfD) (by decide) fun o ho=>(exO_wf o ho).2
 exact⟨this.1,Nat.le_trans this.2 (by decide)⟩
theorem exR_inv:Inv Cfg.deflt exR.2∧exR.2.bk≤6:=by
 obtain ⟨h1,h2⟩:=exS1_inv
 have:=stepM_inv cfD h1 (by omega) ⟨2,0,0,0⟩ ⟨by decide,by decide⟩
 exact⟨this.1,by have:=this.2;unfold exR;omega⟩
theorem tN_inv {s:St} (h:Inv Cfg.deflt s) (hb:s.bk≤6):∀ k:Nat,k≤100→Inv Cfg.deflt (tN s k)∧(tN s k).bk≤6+k
 | 0,_=>⟨h,hb⟩
 | k+1,hk=>by
  obtain ⟨h1,h2⟩:=tN_inv h hb k (by omega)
  have:=stepM_inv cfD h1 (by omega) tkO ⟨by decide,by decide⟩
  exact⟨this.1,by have:=this.2;simp only[tN];omega⟩
theorem alive22_spec (R:List Asn):Spec 30 [] R fun u L'=>u=.bool true∧L'=R:=by
 have hdf:=fun R=>default_spec R
 have hnw:=fun R=>eng_new Cfg.deflt cfD ex_ck R
 have hrun:∀ (b:Nat) (H:EH) (v:Value) (R:List Asn),GS R 4 v 5 (exO.flatMap opL)→Spec 35 [ptr b,v] (engL b H Cfg.deflt St.ini R) fun u L'=>∃ hr H' xs,(u=sl hr∧xs.map (·.r)=(runM Cfg.deflt St.ini exO).1)∧L'=ownT 62 rsL 9 (sl hr) xs::rsA xs::engL b H' Cfg.deflt exS1 R:=fun b H v R hg=>run_spec b H Cfg.deflt St.ini R cfD (Inv.ini cfD) v exO hg (by decide) (by decide) exO_wf
 obtain ⟨i1,i2⟩:=exS1_inv
 obtain ⟨j1,j2⟩:=exR_inv
 have hex:∀ (b:Nat) (H:EH) (R:List Asn),Spec 31 [ptr b,opV ⟨2,0,0,0⟩] (engL b H Cfg.deflt exS1 R) fun u L'=>∃ ha hp H',u=rcV exR.1 ha hp∧L'=ownT 87 asgL 3 (sl ha) exR.1.asg::ownT 65 pmL 3 (sl hp) exR.1.pms::engL b H' Cfg.deflt exR.2 R:=fun b H R=>apply_spec b H Cfg.deflt exS1 R cfD i1 (by omega) ⟨2,0,0,0⟩ ⟨by decide,by decide⟩ ⟨by decide,by decide⟩
 have htk:∀ (k:Nat),k≤15→∀ (b:Nat) (H:EH) (R:List Asn),Spec 31 [ptr b,opV tkO] (engL b H Cfg.deflt (tN exR.2 k) R) fun u L'=>∃ ha hp H',u=rcV (stepM Cfg.deflt (tN exR.2 k) tkO).1 ha hp∧L'=ownT 87 asgL 3 (sl ha) (stepM Cfg.deflt (tN exR.2 k) tkO).1.asg::ownT 65 pmL 3 (sl hp) (stepM Cfg.deflt (tN exR.2 k) tkO).1.pms::engL b H' Cfg.deflt (tN exR.2 (k+1)) R:=fun k hk b H R=>by
  obtain ⟨t1,t2⟩:=tN_inv j1 j2 k (by omega)
  exact apply_spec b H Cfg.deflt (tN exR.2 k) R cfD t1 (by omega) tkO ⟨by decide,by decide⟩ ⟨by decide,by decide⟩
 have f1:=ex_c;have f2:=ex_dl;have f4:=ex_ep;have f5:=ex_bk;have f6:=ex_pm
 have f3:∀ k,k<15→(stepM Cfg.deflt (tN exR.2 k) tkO).1.pms=[]:=fun k hk=>by
  have:=List.all_eq_true.1 ex_no k (List.mem_range.2 hk)
  simpa using this
 clear i1 i2 j1 j2
 generalize exR=X at *
 obtain ⟨⟨x1,x2,x3,x4,x5,x6,x7,x8,x9⟩,s2⟩:=X
 simp only at hex htk f1 f2 f3 f4 f5 f6
 subst f1;subst f2
 obtain ⟨S,hS⟩:∃ S:Nat→St,S=tN s2:=⟨_,rfl⟩
 have hS0:s2=S 0:=by rw[hS];rfl
 simp only[← hS] at htk f3 f4 f5 f6
 rw[hS0] at hex
 obtain ⟨Y,hY⟩:∃ Y:Nat→Rc,Y=fun k=>(stepM Cfg.deflt (S k) tkO).1:=⟨_,rfl⟩
 have hYk:∀ k,(stepM Cfg.deflt (S k) tkO).1=Y k:=fun k=>by rw[hY]
 simp only[hYk] at htk f3 f4 f5 f6
 clear hY hYk hS hS0
 generalize exS1=s1 at *
 generalize Cfg.deflt=c0 at *
 (intro G w M;refine sx_enter (vs:=([]:List Value)) Tryz.func30 (n:=64) rfl rfl rfl rfl ?_;intro a F;(try simp only[zc,zn] at M))
 (repeat'(first|(first|refine sx_nil ?_|refine pv_nil ?_;intro a w F M);try replace F:=F.filt zk125 rfl|refine zn1 F M ?_;clear F M a;(try clear w);intro a w F M|refine sv2 F M ?_;clear F M a;intro nb a w F M|refine zp1 ?_|refine zp2 ?_;intro nb|((first|refine svC F M ?_|refine svC0 F M ?_|refine pvC ?_|refine pvC0 ?_);((first|((refine acW (k:=49) (hdf _) ?_);rintro u L' ⟨rfl,rfl⟩)|((refine acW (k:=28) (hnw _) ?_);rintro u L' ⟨eb,H,rfl,rfl⟩)|(refine acK (L1:=engL eb H c0 St.ini _) (k:=35) (hrun _ _ _ _ ?_) ?_;(apply gs_own;(focus ((repeat (first|exact Pull.here|apply Pull.there));done)));rintro u L' ⟨hr,H1,xs,⟨rfl,hxs⟩,rfl⟩)|(refine acK (L1:=engL eb H1 c0 s1 _) (k:=31) (hex _ _ _) ?_;rintro u L' ⟨ha,hp,H2,rfl,rfl⟩)));(first|refine⟨rvsA,?_⟩|clear F M a;intro a w F M|clear M;intro w M))|refine zh F ?_ ?_<;>(intro hg;rw[hg] at F;try exact no hg)|refine zT F ?_|((with_reducible refine isK ?_);refine svB F ?_ ?_<;>intro hc<;>try exact no hc)|refine zY ?_;go_step|fail))
 refine svLoop F M ((0,H2):Nat × EH) (fun z=>[(37,.int .i64 z.1)]) (fun z=>engL eb z.2 c0 (S z.1) []) (fun z=>z.1≤15) (fun z=>15 - z.1) [] (Nat.zero_le _) ?_ (hR:=by(repeat (first|exact Pulls.nil|(apply Pulls.cons;(focus ((repeat (first|exact Pull.here|apply Pull.there));done))))))
 (rintro⟨k,H3⟩ q1 a w F M;(try simp only[zc,zn] at F M q1 ⊢))
 by_cases hk:k<15
 ·have g3:=f3 k hk
  have ht:=fun b H R=>htk k (by omega) b H R
  generalize Y k=y at *
  obtain ⟨y1,y2,y3,y4,y5,y6,y7,y8,y9⟩:=y
  simp only at g3 ht
  subst g3
  (repeat'(first|((first|refine sv1 F M (h:=?_) (hr:=by((exact rt_fieldV (ft:=60) (off:=7) rfl rfl (by kernel_rfl) inferInstance rfl)))|refine pv1 (h:=?_) (hr:=by((exact rt_fieldV (ft:=60) (off:=7) rfl rfl (by kernel_rfl) inferInstance rfl))));(try(clear F a;intro a F)))|(first|refine sx_nil ?_|refine pv_nil ?_;intro a w F M);try replace F:=F.filt zk125 rfl|refine zn1 F M ?_;clear F M a;(try clear w);intro a w F M|refine sv2 F M ?_;clear F M a;intro nb a w F M|refine zp1 ?_|refine zp2 ?_;intro nb|((first|refine svC F M ?_|refine svC0 F M ?_|refine pvC ?_|refine pvC0 ?_);((refine acK (L1:=engL eb H3 c0 (S k) _) (k:=31) (ht _ _ _) ?_;rintro u L' ⟨ha2,hp2,H4,rfl,rfl⟩));(first|refine⟨rvsA,?_⟩|clear F M a;intro a w F M|clear M;intro w M))|refine zh F ?_ ?_<;>(intro hg;rw[hg] at F;try exact no hg)|refine zT F ?_|((with_reducible refine isK ?_);refine svB F ?_ ?_<;>intro hc<;>try exact no hc)|refine zY ?_;go_step|fail))
  exact sv_again F M (k+1,H4) kpA permsA (by simp only;omega) (by simp only;omega)
 obtain rfl:k=15:=by omega
 have ht:=fun b H R=>htk 15 (by omega) b H R
 generalize Y 15=y at *
 obtain ⟨y1,y2,y3,y4,y5,y6,y7,y8,y9⟩:=y
 simp only at f4 f5 f6 ht
 subst f4;subst f5;subst f6
 have hq:∀ {u v:Value} {L:List Asn},GS L 3 u 1 ([(⟨0,32,true⟩:Pm)].flatMap pmL)→GS L 3 v 1 ([(⟨0,32,true⟩:Pm)].flatMap pmL)→Reads 63 [u,v] (.bool true) L:=fun g1 g2=>by simpa using eqs_pm _ _ [(⟨0,32,true⟩:Pm)] [(⟨0,32,true⟩:Pm)] g1 g2
 (repeat'(first|(first|refine sx_nil ?_|refine pv_nil ?_;intro a w F M);try replace F:=F.filt zk125 rfl|refine zn1 F M ?_;clear F M a;(try clear w);intro a w F M|refine sv2 F M ?_;clear F M a;intro nb a w F M|refine zp1 ?_|refine zp2 ?_;intro nb|((first|refine svC F M ?_|refine svC0 F M ?_|refine pvC ?_|refine pvC0 ?_);((first|(refine acK (L1:=engL eb H3 c0 (S 15) _) (k:=31) (ht _ _ _) ?_;rintro u L' ⟨ha2,hp2,H4,rfl,rfl⟩)|((refine acCall (k:=63) ?_);(refine Spec.of_reads (hq (gs_own pullA) (gs_own pullA)) rfl ?_))));(first|refine⟨rvsA,?_⟩|clear F M a;intro a w F M|clear M;intro w M))|refine zh F ?_ ?_<;>(intro hg;rw[hg] at F;try exact no hg)|refine zT F ?_|((with_reducible refine isK ?_);refine svB F ?_ ?_<;>intro hc<;>try exact no hc)|refine zY ?_;go_step|fail))
 all_goals refine zE F M ?_
 exact⟨_,_,rfl,⟨rfl,rfl⟩,M.perms permsA⟩
end
def zk126:List Nat:=[0,1,2,4,37]
section
open Go.RowKit
structure Fit (c:Cfg) (n:Nat):Prop where
 ck:checkF c=0
 ca:c.capacity≤100
 vi:c.visits≤200
 py:c.payments≤200
 me:c.merges≤200
 qs:c.queueSize≤200
 n:n≤400
section
variable (c:Cfg) (v:Value) (l:List Opn) (R:List Asn) (hg:GS R 4 v l.length (l.flatMap opL))
include hg
theorem fits_yes (h:Fit c l.length):Spec 29 [cfgV c,v] R fun u L'=>u=.int .i64 1∧L'=R:=by
 obtain ⟨h1,h2,h3,h4,h5,h6,h7⟩:=h
 have hck:=fun R=>rcheck_spec c R
 rw[h1] at hck
 (intro G w M;refine sx_enter (vs:=([cfgV c,v]:List Value)) Tryz.func29 (n:=38) rfl rfl rfl rfl ?_;intro a F;(try simp only[zc,zn] at M))
 have hG:GS (R++G) 4 v l.length (l.flatMap opL):=Gives.app hg
 (repeat'(first|(first|refine sx_nil ?_|refine pv_nil ?_;intro a w F M);try replace F:=F.filt zk126 rfl|refine zn1 F M ?_;clear F M a;(try clear w);intro a w F M|refine sv2 F M ?_;clear F M a;intro nb a w F M|refine zp1 ?_|refine zp2 ?_;intro nb|((first|refine svC F M ?_|refine svC0 F M ?_|refine pvC ?_|refine pvC0 ?_);(((refine acW (k:=16) (hck _) ?_);rintro u L' ⟨rfl,rfl⟩));(first|refine⟨rvsA,?_⟩|clear F M a;intro a w F M|clear M;intro w M))|refine zh F ?_ ?_<;>(intro hg;rw[hg] at F;try exact no hg)|refine zT F ?_|((with_reducible refine isK ?_);refine svB F ?_ ?_<;>intro hc<;>try exact no hc)|refine zY ?_;go_step|fail))
 all_goals refine zE F M ?_
 exact⟨_,_,rfl,⟨rfl,rfl⟩,M.perms permsA⟩
theorem fits_no (h:¬Fit c l.length):Spec 29 [cfgV c,v] R fun u L'=>u=.int .i64 0∧L'=R:=by
 have hck:=fun R=>rcheck_spec c R
 obtain ⟨x,hx⟩:∃ x:Int,(checkF c:Int)=x:=⟨_,rfl⟩
 simp only[hx] at hck
 (intro G w M;refine sx_enter (vs:=([cfgV c,v]:List Value)) Tryz.func29 (n:=38) rfl rfl rfl rfl ?_;intro a F;(try simp only[zc,zn] at M))
 have hG:GS (R++G) 4 v l.length (l.flatMap opL):=Gives.app hg
 (repeat'(first|(first|refine sx_nil ?_|refine pv_nil ?_;intro a w F M);try replace F:=F.filt zk126 rfl|refine zn1 F M ?_;clear F M a;(try clear w);intro a w F M|refine sv2 F M ?_;clear F M a;intro nb a w F M|refine zp1 ?_|refine zp2 ?_;intro nb|((first|refine svC F M ?_|refine svC0 F M ?_|refine pvC ?_|refine pvC0 ?_);(((refine acW (k:=16) (hck _) ?_);rintro u L' ⟨rfl,rfl⟩));(first|refine⟨rvsA,?_⟩|clear F M a;intro a w F M|clear M;intro w M))|refine zh F ?_ ?_<;>(intro hg;rw[hg] at F;try exact no hg)|refine zT F ?_|((with_reducible refine isK ?_);refine svB F ?_ ?_<;>intro hc<;>try exact no hc)|refine zY ?_;go_step|fail))
 all_goals first
  | (refine zE F M ?_;exact⟨_,_,rfl,⟨rfl,rfl⟩,M.perms permsA⟩)
  | (exfalso;apply h;simp only[decide_eq_false_iff_not] at *;exact⟨by omega,by omega,by omega,by omega,by omega,by omega,by omega⟩)
  | trace_state
end
end
section
open Go.RowKit
instance eqfP:EQF prL [.int,.int]:=⟨fun x y=>by
 obtain ⟨a,b⟩:=x;obtain ⟨d,e⟩:=y
 simp only[prL,cellsEq,scEq,if_true,Bool.and_true,Prod.mk.injEq,Option.some.injEq]
 rw[Bool.eq_iff_iff];simp;try omega⟩
instance eqfQ:EQF rqL [.int,.int]:=⟨fun x y=>by
 obtain ⟨a,b⟩:=x;obtain ⟨d,e⟩:=y
 simp only[rqL,cellsEq,scEq,if_true,Bool.and_true,Prod.mk.injEq,Option.some.injEq]
 rw[Bool.eq_iff_iff];simp;try omega⟩
theorem eqs_nat (u v:Value) (xs ys:List Nat) {L:List Asn} (hu:GS L 1 u xs.length (xs.flatMap natL)) (hv:GS L 1 v ys.length (ys.flatMap natL)) :
  Reads 20 [u,v] (.bool (decide (xs=ys))) L:=by
 (intro K hK w M;refine sx_enter Tryz.func20 (n:=26) rfl rfl rfl rfl ?_;intro a F)
 replace hu:=hu.imp hK
 replace hv:=hv.imp hK
 have hlu:=hu.len_le M
 have hlv:=hv.len_le M
 by_cases hl:xs.length=ys.length
 ·have hR:decide (xs=ys)=decide (xs.drop 0=ys.drop 0):=by simp
  generalize decide (xs=ys)=R at *
  (repeat'(first|(first|(refine sx_nil ?_;(try(replace F:=F.filt zk123 rfl)))|(refine sv1 F M (h:=?_) (hr:=by(apply(rt_neqT (f:=natL));(exact rfl);(exact rfl);(exact rfl);(exact inferInstance);(exact inferInstance)));clear F a;intro a F)|(refine sv1 F M (h:=?_);clear F a;intro a F)|(refine sv3 F M (h:=?_);clear M;intro w M)|(refine sv2 F M (h:=?_);clear F M a;intro b a w F M)|(refine svC F M (h:=?_);fail;(clear F M a;intro a w F M))|(refine svC0 F M (h:=?_);fail;(clear M;intro w M))|(refine sv1 F M (h:=?_) (hr:=by fail);clear F a;intro a F)|(refine svK F (h:=?_);clear F a;intro a F)|(refine svK0 F (h:=?_))|((refine sx_guardb F rfl (fun hg=>?_) (fun hg=>?_))<;>(rw[hg] at F;(try(exact no hg)))))|(first|(refine pv1 (h:=?_) (hr:=by(apply(rt_neqT (f:=natL));(exact rfl);(exact rfl);(exact rfl);(exact inferInstance);(exact inferInstance))))|(refine pv1 (h:=?_))|(refine pv3 (h:=?_))|(refine pv2 (h:=?_);intro b)|(refine pvC (h:=?_);fail;(refine⟨?_,?_⟩;(exact rvsA)))|(refine pvC0 (h:=?_);fail;(refine⟨?_,?_⟩;(exact rvsA)))|(refine pv1 (h:=?_) (hr:=by fail))|(refine pvF (h:=?_);intro b)|(refine pvK (h:=?_))|(refine pvK0 (h:=?_))|(refine pv_nil ?_;intro a w F M;refine ql_open ?_)|(refine pv_nil ?_;intro a w F M;(try(replace F:=F.filt zk123 rfl))))|((fail_if_success(with_reducible show wpList _ _ _ _ _ _));(fail_if_success(with_reducible show PW _ _ _ _ _ _ _ _ _ _));(fail_if_success(with_reducible show Code.wp _ (Code.loop _) _ _ _));(first|((with_reducible show Code.wp _ (Code.region _ _ false) _ _ _);(refine sx_region ?_))|((with_reducible show Code.wp _ (Code.cond _ _ _) _ _ _);(first|(refine svT F (h:=?_))|(refine svF F (h:=?_))|((refine svB F (fun hc=>?_) (fun hc=>?_))<;>(try(exact no hc)))))|((with_reducible show Code.wp _ (Code.region _ _ true) _ _ _);(first|(refine zD zd124 F M ?_;clear F M a w)))|go_step))))
  refine sv_loop (σ:=Nat) (fun s=>[(0,u),(1,v),(12,.int .i64 xs.length),(13,.int .i64 s)]) (fun _=>K) (fun s=>s≤xs.length∧R=decide (xs.drop s=ys.drop s)) (fun s=>xs.length - s) F M 0 kpA permsA ⟨by omega,hR⟩ ?_
  rintro k ⟨h1,h2⟩ a w F M
  try simp only at h1 h2 F ⊢
  by_cases hlt:k<xs.length
  ·obtain ⟨x,hx⟩:∃ x,xs[k]? = some x:=⟨xs[k],by simp[hlt]⟩
   obtain ⟨y,hy⟩:∃ y,ys[k]? = some y:=⟨ys[k]'(by omega),by rw[List.getElem?_eq_getElem (by omega)]⟩
   rw[drop_cons hx,drop_cons hy] at h2
   by_cases he:x=y
   ·subst he
    (repeat'(first|(first|(refine sx_nil ?_;(try(replace F:=F.filt zk123 rfl)))|(refine sv1 F M (h:=?_) (hr:=by(apply(rt_neqT (f:=natL));(exact rfl);(exact rfl);(exact rfl);(exact inferInstance);(exact inferInstance)));clear F a;intro a F)|(refine sv1 F M (h:=?_);clear F a;intro a F)|(refine sv3 F M (h:=?_);clear M;intro w M)|(refine sv2 F M (h:=?_);clear F M a;intro b a w F M)|(refine svC F M (h:=?_);fail;(clear F M a;intro a w F M))|(refine svC0 F M (h:=?_);fail;(clear M;intro w M))|(refine sv1 F M (h:=?_) (hr:=by fail);clear F a;intro a F)|(refine svK F (h:=?_);clear F a;intro a F)|(refine svK0 F (h:=?_))|((refine sx_guardb F rfl (fun hg=>?_) (fun hg=>?_))<;>(rw[hg] at F;(try(exact no hg)))))|(first|(refine pv1 (h:=?_) (hr:=by(apply(rt_neqT (f:=natL));(exact rfl);(exact rfl);(exact rfl);(exact inferInstance);(exact inferInstance))))|(refine pv1 (h:=?_))|(refine pv3 (h:=?_))|(refine pv2 (h:=?_);intro b)|(refine pvC (h:=?_);fail;(refine⟨?_,?_⟩;(exact rvsA)))|(refine pvC0 (h:=?_);fail;(refine⟨?_,?_⟩;(exact rvsA)))|(refine pv1 (h:=?_) (hr:=by fail))|(refine pvF (h:=?_);intro b)|(refine pvK (h:=?_))|(refine pvK0 (h:=?_))|(refine pv_nil ?_;intro a w F M;refine ql_open ?_)|(refine pv_nil ?_;intro a w F M;(try(replace F:=F.filt zk123 rfl))))|((fail_if_success(with_reducible show wpList _ _ _ _ _ _));(fail_if_success(with_reducible show PW _ _ _ _ _ _ _ _ _ _));(fail_if_success(with_reducible show Code.wp _ (Code.loop _) _ _ _));(first|((with_reducible show Code.wp _ (Code.region _ _ false) _ _ _);(refine sx_region ?_))|((with_reducible show Code.wp _ (Code.cond _ _ _) _ _ _);(first|(refine svT F (h:=?_))|(refine svF F (h:=?_))|((refine svB F (fun hc=>?_) (fun hc=>?_))<;>(try(exact no hc)))))|((with_reducible show Code.wp _ (Code.region _ _ true) _ _ _);(first|(refine zD zd124 F M ?_;clear F M a w)))|go_step))))
    (refine sv_again F M (k+1) kpA permsA ?_ ?_)
    ·exact⟨by omega,by rw[h2];simp⟩
    ·omega
   ·(repeat'(first|(first|(refine sx_nil ?_;(try(replace F:=F.filt zk123 rfl)))|(refine sv1 F M (h:=?_) (hr:=by(apply(rt_neqT (f:=natL));(exact rfl);(exact rfl);(exact rfl);(exact inferInstance);(exact inferInstance)));clear F a;intro a F)|(refine sv1 F M (h:=?_);clear F a;intro a F)|(refine sv3 F M (h:=?_);clear M;intro w M)|(refine sv2 F M (h:=?_);clear F M a;intro b a w F M)|(refine svC F M (h:=?_);fail;(clear F M a;intro a w F M))|(refine svC0 F M (h:=?_);fail;(clear M;intro w M))|(refine sv1 F M (h:=?_) (hr:=by fail);clear F a;intro a F)|(refine svK F (h:=?_);clear F a;intro a F)|(refine svK0 F (h:=?_))|((refine sx_guardb F rfl (fun hg=>?_) (fun hg=>?_))<;>(rw[hg] at F;(try(exact no hg)))))|(first|(refine pv1 (h:=?_) (hr:=by(apply(rt_neqT (f:=natL));(exact rfl);(exact rfl);(exact rfl);(exact inferInstance);(exact inferInstance))))|(refine pv1 (h:=?_))|(refine pv3 (h:=?_))|(refine pv2 (h:=?_);intro b)|(refine pvC (h:=?_);fail;(refine⟨?_,?_⟩;(exact rvsA)))|(refine pvC0 (h:=?_);fail;(refine⟨?_,?_⟩;(exact rvsA)))|(refine pv1 (h:=?_) (hr:=by fail))|(refine pvF (h:=?_);intro b)|(refine pvK (h:=?_))|(refine pvK0 (h:=?_))|(refine pv_nil ?_;intro a w F M;refine ql_open ?_)|(refine pv_nil ?_;intro a w F M;(try(replace F:=F.filt zk123 rfl))))|((fail_if_success(with_reducible show wpList _ _ _ _ _ _));(fail_if_success(with_reducible show PW _ _ _ _ _ _ _ _ _ _));(fail_if_success(with_reducible show Code.wp _ (Code.loop _) _ _ _));(first|((with_reducible show Code.wp _ (Code.region _ _ false) _ _ _);(refine sx_region ?_))|((with_reducible show Code.wp _ (Code.cond _ _ _) _ _ _);(first|(refine svT F (h:=?_))|(refine svF F (h:=?_))|((refine svB F (fun hc=>?_) (fun hc=>?_))<;>(try(exact no hc)))))|((with_reducible show Code.wp _ (Code.region _ _ true) _ _ _);(first|(refine zD zd124 F M ?_;clear F M a w)))|go_step))))
    (all_goals((first|(refine svEnd F M ?_)|(refine svRet F M ?_));refine⟨?_,M.perms permsA⟩))
    rw[h2];simp[tupOf,he]
  ·(repeat'(first|(first|(refine sx_nil ?_;(try(replace F:=F.filt zk123 rfl)))|(refine sv1 F M (h:=?_) (hr:=by(apply(rt_neqT (f:=natL));(exact rfl);(exact rfl);(exact rfl);(exact inferInstance);(exact inferInstance)));clear F a;intro a F)|(refine sv1 F M (h:=?_);clear F a;intro a F)|(refine sv3 F M (h:=?_);clear M;intro w M)|(refine sv2 F M (h:=?_);clear F M a;intro b a w F M)|(refine svC F M (h:=?_);fail;(clear F M a;intro a w F M))|(refine svC0 F M (h:=?_);fail;(clear M;intro w M))|(refine sv1 F M (h:=?_) (hr:=by fail);clear F a;intro a F)|(refine svK F (h:=?_);clear F a;intro a F)|(refine svK0 F (h:=?_))|((refine sx_guardb F rfl (fun hg=>?_) (fun hg=>?_))<;>(rw[hg] at F;(try(exact no hg)))))|(first|(refine pv1 (h:=?_) (hr:=by(apply(rt_neqT (f:=natL));(exact rfl);(exact rfl);(exact rfl);(exact inferInstance);(exact inferInstance))))|(refine pv1 (h:=?_))|(refine pv3 (h:=?_))|(refine pv2 (h:=?_);intro b)|(refine pvC (h:=?_);fail;(refine⟨?_,?_⟩;(exact rvsA)))|(refine pvC0 (h:=?_);fail;(refine⟨?_,?_⟩;(exact rvsA)))|(refine pv1 (h:=?_) (hr:=by fail))|(refine pvF (h:=?_);intro b)|(refine pvK (h:=?_))|(refine pvK0 (h:=?_))|(refine pv_nil ?_;intro a w F M;refine ql_open ?_)|(refine pv_nil ?_;intro a w F M;(try(replace F:=F.filt zk123 rfl))))|((fail_if_success(with_reducible show wpList _ _ _ _ _ _));(fail_if_success(with_reducible show PW _ _ _ _ _ _ _ _ _ _));(fail_if_success(with_reducible show Code.wp _ (Code.loop _) _ _ _));(first|((with_reducible show Code.wp _ (Code.region _ _ false) _ _ _);(refine sx_region ?_))|((with_reducible show Code.wp _ (Code.cond _ _ _) _ _ _);(first|(refine svT F (h:=?_))|(refine svF F (h:=?_))|((refine svB F (fun hc=>?_) (fun hc=>?_))<;>(try(exact no hc)))))|((with_reducible show Code.wp _ (Code.region _ _ true) _ _ _);(first|(refine zD zd124 F M ?_;clear F M a w)))|go_step))))
   (all_goals((first|(refine svEnd F M ?_)|(refine svRet F M ?_));refine⟨?_,M.perms permsA⟩))
   rw[h2,List.drop_of_length_le (by omega),List.drop_of_length_le (by omega)];rfl
 ·have hne:xs≠ys:=fun e=>hl (by rw[e])
  have hl':¬((xs.length:Int)=(ys.length:Int)):=by omega
  (repeat'(first|(first|(refine sx_nil ?_;(try(replace F:=F.filt zk123 rfl)))|(refine sv1 F M (h:=?_) (hr:=by(apply(rt_neqT (f:=natL));(exact rfl);(exact rfl);(exact rfl);(exact inferInstance);(exact inferInstance)));clear F a;intro a F)|(refine sv1 F M (h:=?_);clear F a;intro a F)|(refine sv3 F M (h:=?_);clear M;intro w M)|(refine sv2 F M (h:=?_);clear F M a;intro b a w F M)|(refine svC F M (h:=?_);fail;(clear F M a;intro a w F M))|(refine svC0 F M (h:=?_);fail;(clear M;intro w M))|(refine sv1 F M (h:=?_) (hr:=by fail);clear F a;intro a F)|(refine svK F (h:=?_);clear F a;intro a F)|(refine svK0 F (h:=?_))|((refine sx_guardb F rfl (fun hg=>?_) (fun hg=>?_))<;>(rw[hg] at F;(try(exact no hg)))))|(first|(refine pv1 (h:=?_) (hr:=by(apply(rt_neqT (f:=natL));(exact rfl);(exact rfl);(exact rfl);(exact inferInstance);(exact inferInstance))))|(refine pv1 (h:=?_))|(refine pv3 (h:=?_))|(refine pv2 (h:=?_);intro b)|(refine pvC (h:=?_);fail;(refine⟨?_,?_⟩;(exact rvsA)))|(refine pvC0 (h:=?_);fail;(refine⟨?_,?_⟩;(exact rvsA)))|(refine pv1 (h:=?_) (hr:=by fail))|(refine pvF (h:=?_);intro b)|(refine pvK (h:=?_))|(refine pvK0 (h:=?_))|(refine pv_nil ?_;intro a w F M;refine ql_open ?_)|(refine pv_nil ?_;intro a w F M;(try(replace F:=F.filt zk123 rfl))))|((fail_if_success(with_reducible show wpList _ _ _ _ _ _));(fail_if_success(with_reducible show PW _ _ _ _ _ _ _ _ _ _));(fail_if_success(with_reducible show Code.wp _ (Code.loop _) _ _ _));(first|((with_reducible show Code.wp _ (Code.region _ _ false) _ _ _);(refine sx_region ?_))|((with_reducible show Code.wp _ (Code.cond _ _ _) _ _ _);(first|(refine svT F (h:=?_))|(refine svF F (h:=?_))|((refine svB F (fun hc=>?_) (fun hc=>?_))<;>(try(exact no hc)))))|((with_reducible show Code.wp _ (Code.region _ _ true) _ _ _);(first|(refine zD zd124 F M ?_;clear F M a w)))|go_step))))
  (all_goals((first|(refine svEnd F M ?_)|(refine svRet F M ?_));refine⟨?_,M.perms permsA⟩))
  simp[tupOf,hne]
theorem eqs_pr (u v:Value) (xs ys:List (Nat × Nat)) {L:List Asn} (hu:GS L 2 u xs.length (xs.flatMap prL)) (hv:GS L 2 v ys.length (ys.flatMap prL)) :
  Reads 87 [u,v] (.bool (decide (xs=ys))) L:=by
 (intro K hK w M;refine sx_enter Tryz.func87 (n:=26) rfl rfl rfl rfl ?_;intro a F)
 replace hu:=hu.imp hK
 replace hv:=hv.imp hK
 have hlu:=hu.len_le M
 have hlv:=hv.len_le M
 by_cases hl:xs.length=ys.length
 ·have hR:decide (xs=ys)=decide (xs.drop 0=ys.drop 0):=by simp
  generalize decide (xs=ys)=R at *
  (repeat'(first|(first|(refine sx_nil ?_;(try(replace F:=F.filt zk123 rfl)))|(refine sv1 F M (h:=?_) (hr:=by(apply(rt_neqT (f:=prL));(exact rfl);(exact rfl);(exact rfl);(exact inferInstance);(exact inferInstance)));clear F a;intro a F)|(refine sv1 F M (h:=?_);clear F a;intro a F)|(refine sv3 F M (h:=?_);clear M;intro w M)|(refine sv2 F M (h:=?_);clear F M a;intro b a w F M)|(refine svC F M (h:=?_);fail;(clear F M a;intro a w F M))|(refine svC0 F M (h:=?_);fail;(clear M;intro w M))|(refine sv1 F M (h:=?_) (hr:=by fail);clear F a;intro a F)|(refine svK F (h:=?_);clear F a;intro a F)|(refine svK0 F (h:=?_))|((refine sx_guardb F rfl (fun hg=>?_) (fun hg=>?_))<;>(rw[hg] at F;(try(exact no hg)))))|(first|(refine pv1 (h:=?_) (hr:=by(apply(rt_neqT (f:=prL));(exact rfl);(exact rfl);(exact rfl);(exact inferInstance);(exact inferInstance))))|(refine pv1 (h:=?_))|(refine pv3 (h:=?_))|(refine pv2 (h:=?_);intro b)|(refine pvC (h:=?_);fail;(refine⟨?_,?_⟩;(exact rvsA)))|(refine pvC0 (h:=?_);fail;(refine⟨?_,?_⟩;(exact rvsA)))|(refine pv1 (h:=?_) (hr:=by fail))|(refine pvF (h:=?_);intro b)|(refine pvK (h:=?_))|(refine pvK0 (h:=?_))|(refine pv_nil ?_;intro a w F M;refine ql_open ?_)|(refine pv_nil ?_;intro a w F M;(try(replace F:=F.filt zk123 rfl))))|((fail_if_success(with_reducible show wpList _ _ _ _ _ _));(fail_if_success(with_reducible show PW _ _ _ _ _ _ _ _ _ _));(fail_if_success(with_reducible show Code.wp _ (Code.loop _) _ _ _));(first|((with_reducible show Code.wp _ (Code.region _ _ false) _ _ _);(refine sx_region ?_))|((with_reducible show Code.wp _ (Code.cond _ _ _) _ _ _);(first|(refine svT F (h:=?_))|(refine svF F (h:=?_))|((refine svB F (fun hc=>?_) (fun hc=>?_))<;>(try(exact no hc)))))|((with_reducible show Code.wp _ (Code.region _ _ true) _ _ _);(first|(refine zD zd124 F M ?_;clear F M a w)))|go_step))))
  refine sv_loop (σ:=Nat) (fun s=>[(0,u),(1,v),(12,.int .i64 xs.length),(13,.int .i64 s)]) (fun _=>K) (fun s=>s≤xs.length∧R=decide (xs.drop s=ys.drop s)) (fun s=>xs.length - s) F M 0 kpA permsA ⟨by omega,hR⟩ ?_
  rintro k ⟨h1,h2⟩ a w F M
  try simp only at h1 h2 F ⊢
  by_cases hlt:k<xs.length
  ·obtain ⟨x,hx⟩:∃ x,xs[k]? = some x:=⟨xs[k],by simp[hlt]⟩
   obtain ⟨y,hy⟩:∃ y,ys[k]? = some y:=⟨ys[k]'(by omega),by rw[List.getElem?_eq_getElem (by omega)]⟩
   rw[drop_cons hx,drop_cons hy] at h2
   by_cases he:x=y
   ·subst he
    (repeat'(first|(first|(refine sx_nil ?_;(try(replace F:=F.filt zk123 rfl)))|(refine sv1 F M (h:=?_) (hr:=by(apply(rt_neqT (f:=prL));(exact rfl);(exact rfl);(exact rfl);(exact inferInstance);(exact inferInstance)));clear F a;intro a F)|(refine sv1 F M (h:=?_);clear F a;intro a F)|(refine sv3 F M (h:=?_);clear M;intro w M)|(refine sv2 F M (h:=?_);clear F M a;intro b a w F M)|(refine svC F M (h:=?_);fail;(clear F M a;intro a w F M))|(refine svC0 F M (h:=?_);fail;(clear M;intro w M))|(refine sv1 F M (h:=?_) (hr:=by fail);clear F a;intro a F)|(refine svK F (h:=?_);clear F a;intro a F)|(refine svK0 F (h:=?_))|((refine sx_guardb F rfl (fun hg=>?_) (fun hg=>?_))<;>(rw[hg] at F;(try(exact no hg)))))|(first|(refine pv1 (h:=?_) (hr:=by(apply(rt_neqT (f:=prL));(exact rfl);(exact rfl);(exact rfl);(exact inferInstance);(exact inferInstance))))|(refine pv1 (h:=?_))|(refine pv3 (h:=?_))|(refine pv2 (h:=?_);intro b)|(refine pvC (h:=?_);fail;(refine⟨?_,?_⟩;(exact rvsA)))|(refine pvC0 (h:=?_);fail;(refine⟨?_,?_⟩;(exact rvsA)))|(refine pv1 (h:=?_) (hr:=by fail))|(refine pvF (h:=?_);intro b)|(refine pvK (h:=?_))|(refine pvK0 (h:=?_))|(refine pv_nil ?_;intro a w F M;refine ql_open ?_)|(refine pv_nil ?_;intro a w F M;(try(replace F:=F.filt zk123 rfl))))|((fail_if_success(with_reducible show wpList _ _ _ _ _ _));(fail_if_success(with_reducible show PW _ _ _ _ _ _ _ _ _ _));(fail_if_success(with_reducible show Code.wp _ (Code.loop _) _ _ _));(first|((with_reducible show Code.wp _ (Code.region _ _ false) _ _ _);(refine sx_region ?_))|((with_reducible show Code.wp _ (Code.cond _ _ _) _ _ _);(first|(refine svT F (h:=?_))|(refine svF F (h:=?_))|((refine svB F (fun hc=>?_) (fun hc=>?_))<;>(try(exact no hc)))))|((with_reducible show Code.wp _ (Code.region _ _ true) _ _ _);(first|(refine zD zd124 F M ?_;clear F M a w)))|go_step))))
    (refine sv_again F M (k+1) kpA permsA ?_ ?_)
    ·exact⟨by omega,by rw[h2];simp⟩
    ·omega
   ·(repeat'(first|(first|(refine sx_nil ?_;(try(replace F:=F.filt zk123 rfl)))|(refine sv1 F M (h:=?_) (hr:=by(apply(rt_neqT (f:=prL));(exact rfl);(exact rfl);(exact rfl);(exact inferInstance);(exact inferInstance)));clear F a;intro a F)|(refine sv1 F M (h:=?_);clear F a;intro a F)|(refine sv3 F M (h:=?_);clear M;intro w M)|(refine sv2 F M (h:=?_);clear F M a;intro b a w F M)|(refine svC F M (h:=?_);fail;(clear F M a;intro a w F M))|(refine svC0 F M (h:=?_);fail;(clear M;intro w M))|(refine sv1 F M (h:=?_) (hr:=by fail);clear F a;intro a F)|(refine svK F (h:=?_);clear F a;intro a F)|(refine svK0 F (h:=?_))|((refine sx_guardb F rfl (fun hg=>?_) (fun hg=>?_))<;>(rw[hg] at F;(try(exact no hg)))))|(first|(refine pv1 (h:=?_) (hr:=by(apply(rt_neqT (f:=prL));(exact rfl);(exact rfl);(exact rfl);(exact inferInstance);(exact inferInstance))))|(refine pv1 (h:=?_))|(refine pv3 (h:=?_))|(refine pv2 (h:=?_);intro b)|(refine pvC (h:=?_);fail;(refine⟨?_,?_⟩;(exact rvsA)))|(refine pvC0 (h:=?_);fail;(refine⟨?_,?_⟩;(exact rvsA)))|(refine pv1 (h:=?_) (hr:=by fail))|(refine pvF (h:=?_);intro b)|(refine pvK (h:=?_))|(refine pvK0 (h:=?_))|(refine pv_nil ?_;intro a w F M;refine ql_open ?_)|(refine pv_nil ?_;intro a w F M;(try(replace F:=F.filt zk123 rfl))))|((fail_if_success(with_reducible show wpList _ _ _ _ _ _));(fail_if_success(with_reducible show PW _ _ _ _ _ _ _ _ _ _));(fail_if_success(with_reducible show Code.wp _ (Code.loop _) _ _ _));(first|((with_reducible show Code.wp _ (Code.region _ _ false) _ _ _);(refine sx_region ?_))|((with_reducible show Code.wp _ (Code.cond _ _ _) _ _ _);(first|(refine svT F (h:=?_))|(refine svF F (h:=?_))|((refine svB F (fun hc=>?_) (fun hc=>?_))<;>(try(exact no hc)))))|((with_reducible show Code.wp _ (Code.region _ _ true) _ _ _);(first|(refine zD zd124 F M ?_;clear F M a w)))|go_step))))
    (all_goals((first|(refine svEnd F M ?_)|(refine svRet F M ?_));refine⟨?_,M.perms permsA⟩))
    rw[h2];simp[tupOf,he]
  ·(repeat'(first|(first|(refine sx_nil ?_;(try(replace F:=F.filt zk123 rfl)))|(refine sv1 F M (h:=?_) (hr:=by(apply(rt_neqT (f:=prL));(exact rfl);(exact rfl);(exact rfl);(exact inferInstance);(exact inferInstance)));clear F a;intro a F)|(refine sv1 F M (h:=?_);clear F a;intro a F)|(refine sv3 F M (h:=?_);clear M;intro w M)|(refine sv2 F M (h:=?_);clear F M a;intro b a w F M)|(refine svC F M (h:=?_);fail;(clear F M a;intro a w F M))|(refine svC0 F M (h:=?_);fail;(clear M;intro w M))|(refine sv1 F M (h:=?_) (hr:=by fail);clear F a;intro a F)|(refine svK F (h:=?_);clear F a;intro a F)|(refine svK0 F (h:=?_))|((refine sx_guardb F rfl (fun hg=>?_) (fun hg=>?_))<;>(rw[hg] at F;(try(exact no hg)))))|(first|(refine pv1 (h:=?_) (hr:=by(apply(rt_neqT (f:=prL));(exact rfl);(exact rfl);(exact rfl);(exact inferInstance);(exact inferInstance))))|(refine pv1 (h:=?_))|(refine pv3 (h:=?_))|(refine pv2 (h:=?_);intro b)|(refine pvC (h:=?_);fail;(refine⟨?_,?_⟩;(exact rvsA)))|(refine pvC0 (h:=?_);fail;(refine⟨?_,?_⟩;(exact rvsA)))|(refine pv1 (h:=?_) (hr:=by fail))|(refine pvF (h:=?_);intro b)|(refine pvK (h:=?_))|(refine pvK0 (h:=?_))|(refine pv_nil ?_;intro a w F M;refine ql_open ?_)|(refine pv_nil ?_;intro a w F M;(try(replace F:=F.filt zk123 rfl))))|((fail_if_success(with_reducible show wpList _ _ _ _ _ _));(fail_if_success(with_reducible show PW _ _ _ _ _ _ _ _ _ _));(fail_if_success(with_reducible show Code.wp _ (Code.loop _) _ _ _));(first|((with_reducible show Code.wp _ (Code.region _ _ false) _ _ _);(refine sx_region ?_))|((with_reducible show Code.wp _ (Code.cond _ _ _) _ _ _);(first|(refine svT F (h:=?_))|(refine svF F (h:=?_))|((refine svB F (fun hc=>?_) (fun hc=>?_))<;>(try(exact no hc)))))|((with_reducible show Code.wp _ (Code.region _ _ true) _ _ _);(first|(refine zD zd124 F M ?_;clear F M a w)))|go_step))))
   (all_goals((first|(refine svEnd F M ?_)|(refine svRet F M ?_));refine⟨?_,M.perms permsA⟩))
   rw[h2,List.drop_of_length_le (by omega),List.drop_of_length_le (by omega)];rfl
 ·have hne:xs≠ys:=fun e=>hl (by rw[e])
  have hl':¬((xs.length:Int)=(ys.length:Int)):=by omega
  (repeat'(first|(first|(refine sx_nil ?_;(try(replace F:=F.filt zk123 rfl)))|(refine sv1 F M (h:=?_) (hr:=by(apply(rt_neqT (f:=prL));(exact rfl);(exact rfl);(exact rfl);(exact inferInstance);(exact inferInstance)));clear F a;intro a F)|(refine sv1 F M (h:=?_);clear F a;intro a F)|(refine sv3 F M (h:=?_);clear M;intro w M)|(refine sv2 F M (h:=?_);clear F M a;intro b a w F M)|(refine svC F M (h:=?_);fail;(clear F M a;intro a w F M))|(refine svC0 F M (h:=?_);fail;(clear M;intro w M))|(refine sv1 F M (h:=?_) (hr:=by fail);clear F a;intro a F)|(refine svK F (h:=?_);clear F a;intro a F)|(refine svK0 F (h:=?_))|((refine sx_guardb F rfl (fun hg=>?_) (fun hg=>?_))<;>(rw[hg] at F;(try(exact no hg)))))|(first|(refine pv1 (h:=?_) (hr:=by(apply(rt_neqT (f:=prL));(exact rfl);(exact rfl);(exact rfl);(exact inferInstance);(exact inferInstance))))|(refine pv1 (h:=?_))|(refine pv3 (h:=?_))|(refine pv2 (h:=?_);intro b)|(refine pvC (h:=?_);fail;(refine⟨?_,?_⟩;(exact rvsA)))|(refine pvC0 (h:=?_);fail;(refine⟨?_,?_⟩;(exact rvsA)))|(refine pv1 (h:=?_) (hr:=by fail))|(refine pvF (h:=?_);intro b)|(refine pvK (h:=?_))|(refine pvK0 (h:=?_))|(refine pv_nil ?_;intro a w F M;refine ql_open ?_)|(refine pv_nil ?_;intro a w F M;(try(replace F:=F.filt zk123 rfl))))|((fail_if_success(with_reducible show wpList _ _ _ _ _ _));(fail_if_success(with_reducible show PW _ _ _ _ _ _ _ _ _ _));(fail_if_success(with_reducible show Code.wp _ (Code.loop _) _ _ _));(first|((with_reducible show Code.wp _ (Code.region _ _ false) _ _ _);(refine sx_region ?_))|((with_reducible show Code.wp _ (Code.cond _ _ _) _ _ _);(first|(refine svT F (h:=?_))|(refine svF F (h:=?_))|((refine svB F (fun hc=>?_) (fun hc=>?_))<;>(try(exact no hc)))))|((with_reducible show Code.wp _ (Code.region _ _ true) _ _ _);(first|(refine zD zd124 F M ?_;clear F M a w)))|go_step))))
  (all_goals((first|(refine svEnd F M ?_)|(refine svRet F M ?_));refine⟨?_,M.perms permsA⟩))
  simp[tupOf,hne]
theorem eqs_rq (u v:Value) (xs ys:List (Nat × Int)) {L:List Asn} (hu:GS L 2 u xs.length (xs.flatMap rqL)) (hv:GS L 2 v ys.length (ys.flatMap rqL)) :
  Reads 88 [u,v] (.bool (decide (xs=ys))) L:=by
 (intro K hK w M;refine sx_enter Tryz.func88 (n:=26) rfl rfl rfl rfl ?_;intro a F)
 replace hu:=hu.imp hK
 replace hv:=hv.imp hK
 have hlu:=hu.len_le M
 have hlv:=hv.len_le M
 by_cases hl:xs.length=ys.length
 ·have hR:decide (xs=ys)=decide (xs.drop 0=ys.drop 0):=by simp
  generalize decide (xs=ys)=R at *
  (repeat'(first|(first|(refine sx_nil ?_;(try(replace F:=F.filt zk123 rfl)))|(refine sv1 F M (h:=?_) (hr:=by(apply(rt_neqT (f:=rqL));(exact rfl);(exact rfl);(exact rfl);(exact inferInstance);(exact inferInstance)));clear F a;intro a F)|(refine sv1 F M (h:=?_);clear F a;intro a F)|(refine sv3 F M (h:=?_);clear M;intro w M)|(refine sv2 F M (h:=?_);clear F M a;intro b a w F M)|(refine svC F M (h:=?_);fail;(clear F M a;intro a w F M))|(refine svC0 F M (h:=?_);fail;(clear M;intro w M))|(refine sv1 F M (h:=?_) (hr:=by fail);clear F a;intro a F)|(refine svK F (h:=?_);clear F a;intro a F)|(refine svK0 F (h:=?_))|((refine sx_guardb F rfl (fun hg=>?_) (fun hg=>?_))<;>(rw[hg] at F;(try(exact no hg)))))|(first|(refine pv1 (h:=?_) (hr:=by(apply(rt_neqT (f:=rqL));(exact rfl);(exact rfl);(exact rfl);(exact inferInstance);(exact inferInstance))))|(refine pv1 (h:=?_))|(refine pv3 (h:=?_))|(refine pv2 (h:=?_);intro b)|(refine pvC (h:=?_);fail;(refine⟨?_,?_⟩;(exact rvsA)))|(refine pvC0 (h:=?_);fail;(refine⟨?_,?_⟩;(exact rvsA)))|(refine pv1 (h:=?_) (hr:=by fail))|(refine pvF (h:=?_);intro b)|(refine pvK (h:=?_))|(refine pvK0 (h:=?_))|(refine pv_nil ?_;intro a w F M;refine ql_open ?_)|(refine pv_nil ?_;intro a w F M;(try(replace F:=F.filt zk123 rfl))))|((fail_if_success(with_reducible show wpList _ _ _ _ _ _));(fail_if_success(with_reducible show PW _ _ _ _ _ _ _ _ _ _));(fail_if_success(with_reducible show Code.wp _ (Code.loop _) _ _ _));(first|((with_reducible show Code.wp _ (Code.region _ _ false) _ _ _);(refine sx_region ?_))|((with_reducible show Code.wp _ (Code.cond _ _ _) _ _ _);(first|(refine svT F (h:=?_))|(refine svF F (h:=?_))|((refine svB F (fun hc=>?_) (fun hc=>?_))<;>(try(exact no hc)))))|((with_reducible show Code.wp _ (Code.region _ _ true) _ _ _);(first|(refine zD zd124 F M ?_;clear F M a w)))|go_step))))
  refine sv_loop (σ:=Nat) (fun s=>[(0,u),(1,v),(12,.int .i64 xs.length),(13,.int .i64 s)]) (fun _=>K) (fun s=>s≤xs.length∧R=decide (xs.drop s=ys.drop s)) (fun s=>xs.length - s) F M 0 kpA permsA ⟨by omega,hR⟩ ?_
  rintro k ⟨h1,h2⟩ a w F M
  try simp only at h1 h2 F ⊢
  by_cases hlt:k<xs.length
  ·obtain ⟨x,hx⟩:∃ x,xs[k]? = some x:=⟨xs[k],by simp[hlt]⟩
   obtain ⟨y,hy⟩:∃ y,ys[k]? = some y:=⟨ys[k]'(by omega),by rw[List.getElem?_eq_getElem (by omega)]⟩
   rw[drop_cons hx,drop_cons hy] at h2
   by_cases he:x=y
   ·subst he
    (repeat'(first|(first|(refine sx_nil ?_;(try(replace F:=F.filt zk123 rfl)))|(refine sv1 F M (h:=?_) (hr:=by(apply(rt_neqT (f:=rqL));(exact rfl);(exact rfl);(exact rfl);(exact inferInstance);(exact inferInstance)));clear F a;intro a F)|(refine sv1 F M (h:=?_);clear F a;intro a F)|(refine sv3 F M (h:=?_);clear M;intro w M)|(refine sv2 F M (h:=?_);clear F M a;intro b a w F M)|(refine svC F M (h:=?_);fail;(clear F M a;intro a w F M))|(refine svC0 F M (h:=?_);fail;(clear M;intro w M))|(refine sv1 F M (h:=?_) (hr:=by fail);clear F a;intro a F)|(refine svK F (h:=?_);clear F a;intro a F)|(refine svK0 F (h:=?_))|((refine sx_guardb F rfl (fun hg=>?_) (fun hg=>?_))<;>(rw[hg] at F;(try(exact no hg)))))|(first|(refine pv1 (h:=?_) (hr:=by(apply(rt_neqT (f:=rqL));(exact rfl);(exact rfl);(exact rfl);(exact inferInstance);(exact inferInstance))))|(refine pv1 (h:=?_))|(refine pv3 (h:=?_))|(refine pv2 (h:=?_);intro b)|(refine pvC (h:=?_);fail;(refine⟨?_,?_⟩;(exact rvsA)))|(refine pvC0 (h:=?_);fail;(refine⟨?_,?_⟩;(exact rvsA)))|(refine pv1 (h:=?_) (hr:=by fail))|(refine pvF (h:=?_);intro b)|(refine pvK (h:=?_))|(refine pvK0 (h:=?_))|(refine pv_nil ?_;intro a w F M;refine ql_open ?_)|(refine pv_nil ?_;intro a w F M;(try(replace F:=F.filt zk123 rfl))))|((fail_if_success(with_reducible show wpList _ _ _ _ _ _));(fail_if_success(with_reducible show PW _ _ _ _ _ _ _ _ _ _));(fail_if_success(with_reducible show Code.wp _ (Code.loop _) _ _ _));(first|((with_reducible show Code.wp _ (Code.region _ _ false) _ _ _);(refine sx_region ?_))|((with_reducible show Code.wp _ (Code.cond _ _ _) _ _ _);(first|(refine svT F (h:=?_))|(refine svF F (h:=?_))|((refine svB F (fun hc=>?_) (fun hc=>?_))<;>(try(exact no hc)))))|((with_reducible show Code.wp _ (Code.region _ _ true) _ _ _);(first|(refine zD zd124 F M ?_;clear F M a w)))|go_step))))
    (refine sv_again F M (k+1) kpA permsA ?_ ?_)
    ·exact⟨by omega,by rw[h2];simp⟩
    ·omega
   ·(repeat'(first|(first|(refine sx_nil ?_;(try(replace F:=F.filt zk123 rfl)))|(refine sv1 F M (h:=?_) (hr:=by(apply(rt_neqT (f:=rqL));(exact rfl);(exact rfl);(exact rfl);(exact inferInstance);(exact inferInstance)));clear F a;intro a F)|(refine sv1 F M (h:=?_);clear F a;intro a F)|(refine sv3 F M (h:=?_);clear M;intro w M)|(refine sv2 F M (h:=?_);clear F M a;intro b a w F M)|(refine svC F M (h:=?_);fail;(clear F M a;intro a w F M))|(refine svC0 F M (h:=?_);fail;(clear M;intro w M))|(refine sv1 F M (h:=?_) (hr:=by fail);clear F a;intro a F)|(refine svK F (h:=?_);clear F a;intro a F)|(refine svK0 F (h:=?_))|((refine sx_guardb F rfl (fun hg=>?_) (fun hg=>?_))<;>(rw[hg] at F;(try(exact no hg)))))|(first|(refine pv1 (h:=?_) (hr:=by(apply(rt_neqT (f:=rqL));(exact rfl);(exact rfl);(exact rfl);(exact inferInstance);(exact inferInstance))))|(refine pv1 (h:=?_))|(refine pv3 (h:=?_))|(refine pv2 (h:=?_);intro b)|(refine pvC (h:=?_);fail;(refine⟨?_,?_⟩;(exact rvsA)))|(refine pvC0 (h:=?_);fail;(refine⟨?_,?_⟩;(exact rvsA)))|(refine pv1 (h:=?_) (hr:=by fail))|(refine pvF (h:=?_);intro b)|(refine pvK (h:=?_))|(refine pvK0 (h:=?_))|(refine pv_nil ?_;intro a w F M;refine ql_open ?_)|(refine pv_nil ?_;intro a w F M;(try(replace F:=F.filt zk123 rfl))))|((fail_if_success(with_reducible show wpList _ _ _ _ _ _));(fail_if_success(with_reducible show PW _ _ _ _ _ _ _ _ _ _));(fail_if_success(with_reducible show Code.wp _ (Code.loop _) _ _ _));(first|((with_reducible show Code.wp _ (Code.region _ _ false) _ _ _);(refine sx_region ?_))|((with_reducible show Code.wp _ (Code.cond _ _ _) _ _ _);(first|(refine svT F (h:=?_))|(refine svF F (h:=?_))|((refine svB F (fun hc=>?_) (fun hc=>?_))<;>(try(exact no hc)))))|((with_reducible show Code.wp _ (Code.region _ _ true) _ _ _);(first|(refine zD zd124 F M ?_;clear F M a w)))|go_step))))
    (all_goals((first|(refine svEnd F M ?_)|(refine svRet F M ?_));refine⟨?_,M.perms permsA⟩))
    rw[h2];simp[tupOf,he]
  ·(repeat'(first|(first|(refine sx_nil ?_;(try(replace F:=F.filt zk123 rfl)))|(refine sv1 F M (h:=?_) (hr:=by(apply(rt_neqT (f:=rqL));(exact rfl);(exact rfl);(exact rfl);(exact inferInstance);(exact inferInstance)));clear F a;intro a F)|(refine sv1 F M (h:=?_);clear F a;intro a F)|(refine sv3 F M (h:=?_);clear M;intro w M)|(refine sv2 F M (h:=?_);clear F M a;intro b a w F M)|(refine svC F M (h:=?_);fail;(clear F M a;intro a w F M))|(refine svC0 F M (h:=?_);fail;(clear M;intro w M))|(refine sv1 F M (h:=?_) (hr:=by fail);clear F a;intro a F)|(refine svK F (h:=?_);clear F a;intro a F)|(refine svK0 F (h:=?_))|((refine sx_guardb F rfl (fun hg=>?_) (fun hg=>?_))<;>(rw[hg] at F;(try(exact no hg)))))|(first|(refine pv1 (h:=?_) (hr:=by(apply(rt_neqT (f:=rqL));(exact rfl);(exact rfl);(exact rfl);(exact inferInstance);(exact inferInstance))))|(refine pv1 (h:=?_))|(refine pv3 (h:=?_))|(refine pv2 (h:=?_);intro b)|(refine pvC (h:=?_);fail;(refine⟨?_,?_⟩;(exact rvsA)))|(refine pvC0 (h:=?_);fail;(refine⟨?_,?_⟩;(exact rvsA)))|(refine pv1 (h:=?_) (hr:=by fail))|(refine pvF (h:=?_);intro b)|(refine pvK (h:=?_))|(refine pvK0 (h:=?_))|(refine pv_nil ?_;intro a w F M;refine ql_open ?_)|(refine pv_nil ?_;intro a w F M;(try(replace F:=F.filt zk123 rfl))))|((fail_if_success(with_reducible show wpList _ _ _ _ _ _));(fail_if_success(with_reducible show PW _ _ _ _ _ _ _ _ _ _));(fail_if_success(with_reducible show Code.wp _ (Code.loop _) _ _ _));(first|((with_reducible show Code.wp _ (Code.region _ _ false) _ _ _);(refine sx_region ?_))|((with_reducible show Code.wp _ (Code.cond _ _ _) _ _ _);(first|(refine svT F (h:=?_))|(refine svF F (h:=?_))|((refine svB F (fun hc=>?_) (fun hc=>?_))<;>(try(exact no hc)))))|((with_reducible show Code.wp _ (Code.region _ _ true) _ _ _);(first|(refine zD zd124 F M ?_;clear F M a w)))|go_step))))
   (all_goals((first|(refine svEnd F M ?_)|(refine svRet F M ?_));refine⟨?_,M.perms permsA⟩))
   rw[h2,List.drop_of_length_le (by omega),List.drop_of_length_le (by omega)];rfl
 ·have hne:xs≠ys:=fun e=>hl (by rw[e])
  have hl':¬((xs.length:Int)=(ys.length:Int)):=by omega
  (repeat'(first|(first|(refine sx_nil ?_;(try(replace F:=F.filt zk123 rfl)))|(refine sv1 F M (h:=?_) (hr:=by(apply(rt_neqT (f:=rqL));(exact rfl);(exact rfl);(exact rfl);(exact inferInstance);(exact inferInstance)));clear F a;intro a F)|(refine sv1 F M (h:=?_);clear F a;intro a F)|(refine sv3 F M (h:=?_);clear M;intro w M)|(refine sv2 F M (h:=?_);clear F M a;intro b a w F M)|(refine svC F M (h:=?_);fail;(clear F M a;intro a w F M))|(refine svC0 F M (h:=?_);fail;(clear M;intro w M))|(refine sv1 F M (h:=?_) (hr:=by fail);clear F a;intro a F)|(refine svK F (h:=?_);clear F a;intro a F)|(refine svK0 F (h:=?_))|((refine sx_guardb F rfl (fun hg=>?_) (fun hg=>?_))<;>(rw[hg] at F;(try(exact no hg)))))|(first|(refine pv1 (h:=?_) (hr:=by(apply(rt_neqT (f:=rqL));(exact rfl);(exact rfl);(exact rfl);(exact inferInstance);(exact inferInstance))))|(refine pv1 (h:=?_))|(refine pv3 (h:=?_))|(refine pv2 (h:=?_);intro b)|(refine pvC (h:=?_);fail;(refine⟨?_,?_⟩;(exact rvsA)))|(refine pvC0 (h:=?_);fail;(refine⟨?_,?_⟩;(exact rvsA)))|(refine pv1 (h:=?_) (hr:=by fail))|(refine pvF (h:=?_);intro b)|(refine pvK (h:=?_))|(refine pvK0 (h:=?_))|(refine pv_nil ?_;intro a w F M;refine ql_open ?_)|(refine pv_nil ?_;intro a w F M;(try(replace F:=F.filt zk123 rfl))))|((fail_if_success(with_reducible show wpList _ _ _ _ _ _));(fail_if_success(with_reducible show PW _ _ _ _ _ _ _ _ _ _));(fail_if_success(with_reducible show Code.wp _ (Code.loop _) _ _ _));(first|((with_reducible show Code.wp _ (Code.region _ _ false) _ _ _);(refine sx_region ?_))|((with_reducible show Code.wp _ (Code.cond _ _ _) _ _ _);(first|(refine svT F (h:=?_))|(refine svF F (h:=?_))|((refine svB F (fun hc=>?_) (fun hc=>?_))<;>(try(exact no hc)))))|((with_reducible show Code.wp _ (Code.region _ _ true) _ _ _);(first|(refine zD zd124 F M ?_;clear F M a w)))|go_step))))
  (all_goals((first|(refine svEnd F M ?_)|(refine svRet F M ?_));refine⟨?_,M.perms permsA⟩))
  simp[tupOf,hne]
end
section
open Go.RowKit
section
variable (c:Cfg) (s:St) (a1 a2 a3 a4 a5 a6 b1 b2 b3 b4 b5 b6:SlH) (R:List Asn)
 (ga1:GS R 7 (sl a1) s.V.length (s.V.flatMap valL)) (ga2:GS R 1 (sl a2) s.pe.length (s.pe.flatMap natL)) (ga3:GS R 1 (sl a3) s.fo.length (s.fo.flatMap natL)) (ga4:GS R 1 (sl a4) s.vo.length (s.vo.flatMap natL)) (ga5:GS R 2 (sl a5) s.me.length (s.me.flatMap prL)) (ga6:GS R 2 (sl a6) s.pa.length (s.pa.flatMap rqL))
 (gb1:GS R 7 (sl b1) s.V.length (s.V.flatMap valL)) (gb2:GS R 1 (sl b2) s.pe.length (s.pe.flatMap natL)) (gb3:GS R 1 (sl b3) s.fo.length (s.fo.flatMap natL)) (gb4:GS R 1 (sl b4) s.vo.length (s.vo.flatMap natL)) (gb5:GS R 2 (sl b5) s.me.length (s.me.flatMap prL)) (gb6:GS R 2 (sl b6) s.pa.length (s.pa.flatMap rqL))
include ga1 ga2 ga3 ga4 ga5 ga6 gb1 gb2 gb3 gb4 gb5 gb6
theorem equal_spec:Spec 34 [snV (snOf c s a1 a2 a3 a4 a5 a6),snV (snOf c s b1 b2 b3 b4 b5 b6)] R fun u L'=>u=.bool true∧L'=R:=by
 have e1:∀ {L:List Asn},GS L 7 (sl a1) s.V.length (s.V.flatMap valL)→GS L 7 (sl b1) s.V.length (s.V.flatMap valL)→Reads 27 [sl a1,sl b1] (.bool true) L:=fun g1 g2=>by simpa using eqs_val (sl a1) (sl b1) s.V s.V g1 g2
 have en:∀ (x y:SlH) (l:List Nat) {L:List Asn},GS L 1 (sl x) l.length (l.flatMap natL)→GS L 1 (sl y) l.length (l.flatMap natL)→Reads 20 [sl x,sl y] (.bool true) L:=fun x y l _ g1 g2=>by simpa using eqs_nat (sl x) (sl y) l l g1 g2
 have e5:∀ {L:List Asn},GS L 2 (sl a5) s.me.length (s.me.flatMap prL)→GS L 2 (sl b5) s.me.length (s.me.flatMap prL)→Reads 87 [sl a5,sl b5] (.bool true) L:=fun g1 g2=>by simpa using eqs_pr (sl a5) (sl b5) s.me s.me g1 g2
 have e6:∀ {L:List Asn},GS L 2 (sl a6) s.pa.length (s.pa.flatMap rqL)→GS L 2 (sl b6) s.pa.length (s.pa.flatMap rqL)→Reads 88 [sl a6,sl b6] (.bool true) L:=fun g1 g2=>by simpa using eqs_rq (sl a6) (sl b6) s.pa s.pa g1 g2
 (intro G w M;refine sx_enter (vs:=([snV (snOf c s a1 a2 a3 a4 a5 a6),snV (snOf c s b1 b2 b3 b4 b5 b6)]:List Value)) Tryz.func34 (n:=108) rfl rfl rfl rfl ?_;intro a F;(try simp only[zc,zn] at M))
 replace ga1:GS (R++G) 7 (sl a1) s.V.length (s.V.flatMap valL):=Gives.app ga1
 replace ga2:GS (R++G) 1 (sl a2) s.pe.length (s.pe.flatMap natL):=Gives.app ga2
 replace ga3:GS (R++G) 1 (sl a3) s.fo.length (s.fo.flatMap natL):=Gives.app ga3
 replace ga4:GS (R++G) 1 (sl a4) s.vo.length (s.vo.flatMap natL):=Gives.app ga4
 replace ga5:GS (R++G) 2 (sl a5) s.me.length (s.me.flatMap prL):=Gives.app ga5
 replace ga6:GS (R++G) 2 (sl a6) s.pa.length (s.pa.flatMap rqL):=Gives.app ga6
 replace gb1:GS (R++G) 7 (sl b1) s.V.length (s.V.flatMap valL):=Gives.app gb1
 replace gb2:GS (R++G) 1 (sl b2) s.pe.length (s.pe.flatMap natL):=Gives.app gb2
 replace gb3:GS (R++G) 1 (sl b3) s.fo.length (s.fo.flatMap natL):=Gives.app gb3
 replace gb4:GS (R++G) 1 (sl b4) s.vo.length (s.vo.flatMap natL):=Gives.app gb4
 replace gb5:GS (R++G) 2 (sl b5) s.me.length (s.me.flatMap prL):=Gives.app gb5
 replace gb6:GS (R++G) 2 (sl b6) s.pa.length (s.pa.flatMap rqL):=Gives.app gb6
 (repeat'(first|(first|refine sx_nil ?_|refine pv_nil ?_;intro a w F M);try replace F:=F.filt zk93 rfl|refine zn1 F M ?_;clear F M a;(try clear w);intro a w F M|refine sv2 F M ?_;clear F M a;intro nb a w F M|refine zp1 ?_|refine zp2 ?_;intro nb|((first|refine svC F M ?_|refine svC0 F M ?_|refine pvC ?_|refine pvC0 ?_);((first|((refine acCall (k:=27) ?_);(refine Spec.of_reads (e1 gsA gsA) rfl ?_))|((refine acCall (k:=20) ?_);(first|(refine Spec.of_reads (en a2 b2 s.pe gsA gsA) rfl ?_)|(refine Spec.of_reads (en a3 b3 s.fo gsA gsA) rfl ?_)|(refine Spec.of_reads (en a4 b4 s.vo gsA gsA) rfl ?_)))|((refine acCall (k:=87) ?_);(refine Spec.of_reads (e5 gsA gsA) rfl ?_))|((refine acCall (k:=88) ?_);(refine Spec.of_reads (e6 gsA gsA) rfl ?_))));(first|refine⟨rvsA,?_⟩|clear F M a;intro a w F M|clear M;intro w M))|refine zh F ?_ ?_<;>(intro hg;rw[hg] at F;try exact no hg)|refine zT F ?_|((with_reducible refine isK ?_);refine svB F ?_ ?_<;>intro hc<;>try exact no hc)|refine zY ?_;go_step|fail))
 all_goals refine zE F M ?_
 exact⟨_,_,rfl,⟨congrArg Value.bool (decide_eq_true rfl),rfl⟩,M.perms permsA⟩
end
end
section
open Go.RowKit
def QL (ops:Array Oper) (o:Oper) (Q:Exit→Act→World→Prop):Exit→Act→World→Prop:=fun e a w=>match e with
 | .normal=>wpList Tryz.prog ops Q [o] a w
 | e=>Q e a w
section
variable {ops:Array Oper} {Q:Exit→Act→World→Prop} {o:Oper} {a:Act} {w:World} {n:Nat} {l:List (Nat × Value)} {L:List Asn}
theorem ql_open (h:wpList Tryz.prog ops Q [o] a w):QL ops o Q .normal a w:=h
end
end
section
open Go.RowKit
section
variable {o:Oper} {n:Nat} {l:List (Nat × Value)} {L:List Asn} {C:Value→List Asn→Prop}
theorem ac_appendE {α:Type} {f:α→List Value} {x y:Operand} {t:TypeId} {ats:Array TypeId} (ho:o.op=.call {callee:=.builtin .append,args:=#[x,y],argTypes:=ats}) (hat:ats = #[t,t]) {e:TypeId} {z:Value} {k bytes:Nat} (ht:ST t e z k bytes) {v:Value} (hx:evl l x=some v) {u:Value} (hy:evl l y=some u)
  {ys:List α} {L':List Asn} (hp:Pull L (own e k v 0 []) L') (he:EL f k) {m:Nat} {cs:List Value} (hg:GS L k u m cs) (hm:m=ys.length) (hcs:cs=ys.flatMap f) (hb:ys.length*(bytes+1)≤140737488355328)
  (h:∀ v',C (sl v') (ownT e f k (sl v') ys::L')):AC o l L n C :=
 ac_appendH (f:=f) (xs:=[]) (ys:=ys) ho hat ht hx hy hp he hg hm hcs (by simpa using hb) fun v'=>h v'
end
section
variable (b:Nat) (R:List Asn)
section
variable (cap dep pd bu:Int) (h:0≤pd∧0≤bu∧pd+bu≤dep∧dep≤18446744073709551615∧0≤cap∧cap≤1152921504606846976)
include h
end
section
variable (size:Nat) (fo vo:List Nat)
end
end
end
section
open Go.RowKit
theorem Ix.lt {V:List Val} {p:Val→Prop} {l:List Nat} (h:Ix V p l):∀ i∈l,i<V.length:=fun i hi=>by
 obtain ⟨v,hv,_⟩:=(h.mem i).1 hi
 exact(List.getElem?_eq_some_iff.1 hv).1
end
section
open Go.RowKit
abbrev cfgSh:Sh:=.agg [.int .i64,.int .i64,.int .u64,.int .u64,.int .u64,.int .u64,.int .u64,.int .u64,.int .u64,.int .u64,.int .i64,.int .i64,.int .i64,.int .i64,.int .i64,.int .i64,.int .i64,.int .i64,.int .u64,.int .u64]
theorem cfg_of_sh {w:World} {l:List Value} (h:HasSh w cfgSh l):∃ c:Cfg,l=cfgL c∧c.wf:=by
 obtain ⟨c0,r0,rfl,h0,h⟩:=shb_cons h
 obtain ⟨c1,r1,rfl,h1,h⟩:=shb_cons h
 obtain ⟨c2,r2,rfl,h2,h⟩:=shb_cons h
 obtain ⟨c3,r3,rfl,h3,h⟩:=shb_cons h
 obtain ⟨c4,r4,rfl,h4,h⟩:=shb_cons h
 obtain ⟨c5,r5,rfl,h5,h⟩:=shb_cons h
 obtain ⟨c6,r6,rfl,h6,h⟩:=shb_cons h
 obtain ⟨c7,r7,rfl,h7,h⟩:=shb_cons h
 obtain ⟨c8,r8,rfl,h8,h⟩:=shb_cons h
 obtain ⟨c9,r9,rfl,h9,h⟩:=shb_cons h
 obtain ⟨c10,r10,rfl,h10,h⟩:=shb_cons h
 obtain ⟨c11,r11,rfl,h11,h⟩:=shb_cons h
 obtain ⟨c12,r12,rfl,h12,h⟩:=shb_cons h
 obtain ⟨c13,r13,rfl,h13,h⟩:=shb_cons h
 obtain ⟨c14,r14,rfl,h14,h⟩:=shb_cons h
 obtain ⟨c15,r15,rfl,h15,h⟩:=shb_cons h
 obtain ⟨c16,r16,rfl,h16,h⟩:=shb_cons h
 obtain ⟨c17,r17,rfl,h17,h⟩:=shb_cons h
 obtain ⟨c18,r18,rfl,h18,h⟩:=shb_cons h
 obtain ⟨c19,r19,rfl,h19,h⟩:=shb_cons h
 obtain rfl:=shb_nil h
 obtain ⟨n0,rfl,w0⟩:=shb_int h0
 obtain ⟨n1,rfl,w1⟩:=shb_int h1
 obtain ⟨n2,rfl,w2⟩:=shb_int h2
 obtain ⟨n3,rfl,w3⟩:=shb_int h3
 obtain ⟨n4,rfl,w4⟩:=shb_int h4
 obtain ⟨n5,rfl,w5⟩:=shb_int h5
 obtain ⟨n6,rfl,w6⟩:=shb_int h6
 obtain ⟨n7,rfl,w7⟩:=shb_int h7
 obtain ⟨n8,rfl,w8⟩:=shb_int h8
 obtain ⟨n9,rfl,w9⟩:=shb_int h9
 obtain ⟨n10,rfl,w10⟩:=shb_int h10
 obtain ⟨n11,rfl,w11⟩:=shb_int h11
 obtain ⟨n12,rfl,w12⟩:=shb_int h12
 obtain ⟨n13,rfl,w13⟩:=shb_int h13
 obtain ⟨n14,rfl,w14⟩:=shb_int h14
 obtain ⟨n15,rfl,w15⟩:=shb_int h15
 obtain ⟨n16,rfl,w16⟩:=shb_int h16
 obtain ⟨n17,rfl,w17⟩:=shb_int h17
 obtain ⟨n18,rfl,w18⟩:=shb_int h18
 obtain ⟨n19,rfl,w19⟩:=shb_int h19
 refine⟨⟨n0,n1,n2,n3,n4,n5,n6,n7,n8,n9,n10,n11,n12,n13,n14,n15,n16,n17,n18,n19⟩,rfl,?_,?_⟩
 ·simp only[Cfg.ints,List.mem_cons,List.not_mem_nil,or_false]
  rintro x (rfl|rfl|rfl|rfl|rfl|rfl|rfl|rfl|rfl|rfl)<;>assumption
 ·simp only[Cfg.amounts,List.mem_cons,List.not_mem_nil,or_false]
  rintro x (rfl|rfl|rfl|rfl|rfl|rfl|rfl|rfl|rfl|rfl)<;>exact u64_wf (by assumption)
theorem law_old {k:FuncId} {us:List Value} {w:World} (h:Spec k us [Old w] fun u L'=>u=.bool true∧L'=[Old w]):Calls Tryz.prog k us.toArray w fun e w'=>e=.returned (.bool true)∧Below w.heap.size w w':=by
 refine(h [] w (Mem.old w)).mono ?_
 rintro e w' ⟨u,L',rfl,⟨rfl,rfl⟩,M⟩
 exact⟨rfl,M.below .here⟩
end
section
open Go.RowKit
abbrev oprSh:Sh:=.agg [.int .i64,.int .i64,.int .i64,.int .u64]
theorem cfg_ops {w:World} {ks:Array Value} (hk:HasSh w cfgSh ks.toList):∃ c:Cfg,ks=(cfgL c).toArray∧0≤c.forcedCap∧0≤c.penNum:=by
 obtain ⟨c,e2,hc⟩:=cfg_of_sh hk
 obtain rfl:=arr_eq e2
 exact⟨c,rfl,(hc.2 c.forcedCap (by simp[Cfg.amounts])).1,(hc.2 c.penNum (by simp[Cfg.amounts])).1⟩
theorem ops_sh {w:World} {v:Value} (hv:HasSh w (.slice 4 oprSh) [v]):∃ l:List Opn,GS [Old w] 4 v l.length (l.flatMap opL)∧∀ o∈l,I64 o.k∧U64 o.am:=by
 obtain ⟨l,gl,hl⟩:=slice_of_sh (f:=opL) (fun cs h=>op_of_sh h) hv
 exact⟨l,gs_oldT gl .here,fun o ho=>⟨(hl o ho).1,(hl o ho).2.2.2⟩⟩
end
section
open Go.RowKit
def engB (b:Nat) (c:Cfg) (s:St):Asn:=exA fun H:EH=>engL b H c s []
def snA (s:St) (h1 h2 h3 h4 h5 h6:SlH):Asn:=exA fun _:Unit=>[ownT 48 valL 7 (sl h1) s.V,ownT 3 natL 1 (sl h2) s.pe,ownT 3 natL 1 (sl h3) s.fo,ownT 3 natL 1 (sl h4) s.vo,ownT 89 prL 2 (sl h5) s.me,ownT 91 rqL 2 (sl h6) s.pa]
theorem Spec.conv {α:Type} {k:FuncId} {us:List Value} {L:List Asn} {C:Value→List Asn→Prop} {L1:α→List Asn} {D:α→Value→List Asn→Prop} (hs:∀ x,Spec k us (L1 x) (D x)) (hp:∀ G w,Mem w (L++G)→∃ x,Mem w (L1 x++G)) (hc:∀ x v L',D x v L'→∃ L2,C v L2∧∀ G w,Mem w (L'++G)→Mem w (L2++G)):Spec k us L C:=fun G w M=>by
 obtain ⟨x,M1⟩:=hp G w M
 exact(hs x G w M1).mono fun e w' ⟨v,L',he,hd,hm⟩=>by
  obtain ⟨L2,h1,h2⟩:=hc x v L' hd
  exact⟨v,L2,he,h1,h2 G w' hm⟩
section
variable (b:Nat) (c:Cfg) (s:St) (R:List Asn)
theorem newB (hc:CfOk c) (hk:checkF c=0):Spec 28 [cfgV c] R fun u L'=>∃ b,u=.tuple [ptr b,.int .i64 0].toArray∧L'=engB b c St.ini::R :=
 Spec.conv (α:=Unit) (fun _=>eng_new c hc hk R) (fun G w M=>⟨(),M⟩) fun _ v L' ⟨b,H,e,e2⟩=>⟨_,⟨b,e,rfl⟩,fun G w M=>by subst e2;exact Mem.exc (f:=fun H:EH=>engL b H c St.ini []) H M⟩
theorem runB (hc:CfOk c) (h:Inv c s) (v:Value) (l:List Opn) (hg:GS R 4 v l.length (l.flatMap opL)) (hl:l.length≤100000) (hb:s.bk+l.length<1000000000) (hwf:∀ o∈l,I64 o.k∧U64 o.am) :
  Spec 35 [ptr b,v] (engB b c s::R) fun u L'=>∃ hr xs,(u=sl hr∧xs.map (·.r)=(runM c s l).1)∧L'=ownT 62 rsL 9 (sl hr) xs::rsA xs::engB b c (runM c s l).2::R :=
 Spec.conv (fun H=>run_spec b H c s R hc h v l hg hl hb hwf) (fun G w M=>Mem.exo (f:=fun H:EH=>engL b H c s []) M) fun _ v L' ⟨hr,H',xs,e,e2⟩=>⟨_,⟨hr,xs,e,rfl⟩,fun G w M=>by
  subst e2
  have M2:Mem w (engL b H' c (runM c s l).2 []++(ownT 62 rsL 9 (sl hr) xs::rsA xs::(R++G))):=M.perms permsA
  exact(Mem.exc (f:=fun H:EH=>engL b H c (runM c s l).2 []) H' M2).perms permsA⟩
theorem snapB (hc:CfOk c) (hi:Inv c s):Spec 33 [ptr b] (engB b c s::R) fun u L'=>∃ h1 h2 h3 h4 h5 h6,u=snV (snOf c s h1 h2 h3 h4 h5 h6)∧L'=snA s h1 h2 h3 h4 h5 h6::engB b c s::R :=
 Spec.conv (fun H=>snap_spec b H c s hc hi R) (fun G w M=>Mem.exo (f:=fun H:EH=>engL b H c s []) M) fun H v L' ⟨h1,h2,h3,h4,h5,h6,e,e2⟩=>⟨_,⟨h1,h2,h3,h4,h5,h6,e,rfl⟩,fun G w M=>by
  subst e2
  have M2:Mem w (engL b H c s []++(ownT 48 valL 7 (sl h1) s.V::ownT 3 natL 1 (sl h2) s.pe::ownT 3 natL 1 (sl h3) s.fo::ownT 3 natL 1 (sl h4) s.vo::ownT 89 prL 2 (sl h5) s.me::ownT 91 rqL 2 (sl h6) s.pa::(R++G))):=M.perms permsA
  have M3:=(Mem.exc (f:=fun H:EH=>engL b H c s []) H M2).perms (permsA:Perms _ ([ownT 48 valL 7 (sl h1) s.V,ownT 3 natL 1 (sl h2) s.pe,ownT 3 natL 1 (sl h3) s.fo,ownT 3 natL 1 (sl h4) s.vo,ownT 89 prL 2 (sl h5) s.me,ownT 91 rqL 2 (sl h6) s.pa]++(engB b c s::(R++G))))
  exact Mem.exc (f:=fun _:Unit=>[ownT 48 valL 7 (sl h1) s.V,ownT 3 natL 1 (sl h2) s.pe,ownT 3 natL 1 (sl h3) s.fo,ownT 3 natL 1 (sl h4) s.vo,ownT 89 prL 2 (sl h5) s.me,ownT 91 rqL 2 (sl h6) s.pa]) () M3⟩
theorem equalB (a1 a2 a3 a4 a5 a6 b1 b2 b3 b4 b5 b6:SlH):Spec 34 [snV (snOf c s a1 a2 a3 a4 a5 a6),snV (snOf c s b1 b2 b3 b4 b5 b6)] (snA s a1 a2 a3 a4 a5 a6::snA s b1 b2 b3 b4 b5 b6::R) fun u L'=>u=.bool true∧L'=R :=
 Spec.conv (α:=Unit) (D:=fun _ u L'=>u=.bool true∧L'=ownT 48 valL 7 (sl b1) s.V::ownT 3 natL 1 (sl b2) s.pe::ownT 3 natL 1 (sl b3) s.fo::ownT 3 natL 1 (sl b4) s.vo::ownT 89 prL 2 (sl b5) s.me::ownT 91 rqL 2 (sl b6) s.pa::ownT 48 valL 7 (sl a1) s.V::ownT 3 natL 1 (sl a2) s.pe::ownT 3 natL 1 (sl a3) s.fo::ownT 3 natL 1 (sl a4) s.vo::ownT 89 prL 2 (sl a5) s.me::ownT 91 rqL 2 (sl a6) s.pa::R) (fun _=>equal_spec c s a1 a2 a3 a4 a5 a6 b1 b2 b3 b4 b5 b6 _ gsA gsA gsA gsA gsA gsA gsA gsA gsA gsA gsA gsA) (fun G w M=>by
  obtain ⟨_,M1⟩:=Mem.exo M
  have M2:Mem w (snA s b1 b2 b3 b4 b5 b6::ownT 48 valL 7 (sl a1) s.V::ownT 3 natL 1 (sl a2) s.pe::ownT 3 natL 1 (sl a3) s.fo::ownT 3 natL 1 (sl a4) s.vo::ownT 89 prL 2 (sl a5) s.me::ownT 91 rqL 2 (sl a6) s.pa::(R++G)):=M1.perms permsA
  obtain ⟨_,M3⟩:=Mem.exo M2
  exact⟨(),M3⟩) fun _ v L' ⟨e,e2⟩=>⟨_,⟨e,rfl⟩,fun G w M=>by subst e2;exact M.perms permsA⟩
end
end
end Go.Proofs.YtopbohbkhljjgaaGreat
