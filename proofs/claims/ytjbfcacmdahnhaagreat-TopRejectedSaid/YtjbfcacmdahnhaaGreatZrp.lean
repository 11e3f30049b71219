import Derived.Test.YtjbfcacmdahnhaaGreatZro
set_option linter.unusedVariables false
set_option linter.unusedSimpArgs false
set_option linter.unusedSectionVars false
set_option maxRecDepth 100000
set_option maxHeartbeats 8000000
namespace Go.Proofs.YtjbfcacmdahnhaaGreat
section
open Go.RowKit
def rqI (i x:Int):List Value:=[.int .i64 i,.int .u64 x]
abbrev rqW (i x:Int):Value:=.agg (rqI i x).toArray
section
variable (V:List Val) (v:Value) (R:List Asn) (hg:GS R 7 v V.length (V.flatMap valL)) (hl:V.length≤1000000)
include hg hl
theorem pcheck_spec (i x:Int):Spec 139 [v,rqW i x] R fun u L'=>u=.int .i64 (parC V i x)∧L'=R:=by
 have hX:(i<0∨(V.length:Int)≤i→parC V i x=7)∧(0≤i→i<V.length→∃ y,V[i.toNat]? = some y∧parC V i x=if x=0 then 3 else if y.st≠2 then 8 else 0):=by
  refine⟨fun h=>?_,fun h1 h2=>?_⟩
  ·unfold parC
   by_cases h0:i<0
   ·rw[if_pos h0]
   ·rw[if_neg h0,List.getElem?_eq_none (by omega)]
  ·have h5:i.toNat<V.length:=by omega
   refine⟨V[i.toNat],by simp[h5],?_⟩
   unfold parC
   rw[if_neg (by omega)]
   simp[h5]
 obtain ⟨hX1,hX2⟩:=hX
 generalize parC V i x=X at *
 by_cases h0:i<0∨(V.length:Int)≤i
 ·have e:=hX1 h0
  refine zGo Tryz.func139 ?_;intro G w M a F
  have hG:GS (R++G) 7 v V.length (V.flatMap valL):=Gives.app hg
  rcases h0 with h0|h0
  ·(try refine zI zk139 F M ?_;clear F M a;try clear w);(repeat'(first|refine zA ?_;repeat intro nb|refine zB ?_ ?_<;>intro hc<;>try exact no hc|refine zH ?_ ?_<;>(intro hg;rw[hg];try exact no hg)));all_goals try refine zO fun a w F M=>?_
   (all_goals(refine zE F M ?_;exact⟨_,_,rfl,⟨by rw[e];rfl,rfl⟩,M.perms permsA⟩))
  ·by_cases h1:i<0
   ·(try refine zI zk139 F M ?_;clear F M a;try clear w);(repeat'(first|refine zA ?_;repeat intro nb|refine zB ?_ ?_<;>intro hc<;>try exact no hc|refine zH ?_ ?_<;>(intro hg;rw[hg];try exact no hg)));all_goals try refine zO fun a w F M=>?_
    (all_goals(refine zE F M ?_;exact⟨_,_,rfl,⟨by rw[e];rfl,rfl⟩,M.perms permsA⟩))
   ·(try refine zI zk139 F M ?_;clear F M a;try clear w);(repeat'(first|refine zA ?_;repeat intro nb|refine zB ?_ ?_<;>intro hc<;>try exact no hc|refine zH ?_ ?_<;>(intro hg;rw[hg];try exact no hg)));all_goals try refine zO fun a w F M=>?_
    (all_goals(refine zE F M ?_;exact⟨_,_,rfl,⟨by rw[e];rfl,rfl⟩,M.perms permsA⟩))
 ·have h1:¬i<0:=by omega
  have h2:¬(V.length:Int)≤i:=by omega
  obtain ⟨y,hy,e⟩:=hX2 (by omega) (by omega)
  by_cases hx:x=0
  ·subst hx
   rw[if_pos rfl] at e
   refine zGo Tryz.func139 ?_;intro G w M a F
   have hG:GS (R++G) 7 v V.length (V.flatMap valL):=Gives.app hg
   (try refine zI zk139 F M ?_;clear F M a;try clear w);(repeat'(first|refine zA ?_;repeat intro nb|refine zB ?_ ?_<;>intro hc<;>try exact no hc|refine zH ?_ ?_<;>(intro hg;rw[hg];try exact no hg)));all_goals try refine zO fun a w F M=>?_
   (all_goals(refine zE F M ?_;exact⟨_,_,rfl,⟨by rw[e];rfl,rfl⟩,M.perms permsA⟩))
  ·rw[if_neg hx] at e
   have hdx:decide (x=0)=false:=by simpa using hx
   refine zGo Tryz.func139 ?_;intro G w M a F
   have hG:GS (R++G) 7 v V.length (V.flatMap valL):=Gives.app hg
   by_cases hs:y.st=2
   ·rw[if_neg (by omega)] at e
    (try refine zI zk139 F M ?_;clear F M a;try clear w);(repeat'(first|refine zA ?_;repeat intro nb|refine zB ?_ ?_<;>intro hc<;>try exact no hc|refine zH ?_ ?_<;>(intro hg;rw[hg];try exact no hg)));all_goals try refine zO fun a w F M=>?_
    all_goals first
     | (refine zE F M ?_;exact⟨_,_,rfl,⟨by rw[e];rfl,rfl⟩,M.perms permsA⟩)
     | (exfalso;simp_all;done)
   ·rw[if_pos hs] at e
    (try refine zI zk139 F M ?_;clear F M a;try clear w);(repeat'(first|refine zA ?_;repeat intro nb|refine zB ?_ ?_<;>intro hc<;>try exact no hc|refine zH ?_ ?_<;>(intro hg;rw[hg];try exact no hg)));all_goals try refine zO fun a w F M=>?_
    all_goals first
     | (refine zE F M ?_;exact⟨_,_,rfl,⟨by rw[e];rfl,rfl⟩,M.perms permsA⟩)
     | (exfalso;simp_all;done)
end
section
variable (R:List Asn) (c:Cfg) (hc:CfOk c) (y:Val) (hy:U64 y.bal)
include hc hy
theorem pavail_spec:Spec 323 [valV y,cfgV c] R fun u L'=>u=.int .u64 (availV c y)∧L'=R:=by
 have h1:=hc.mb
 have h2:=hc.md;have h3:=hc.sc
 have hs:=fun R=>gsub_spec R y.bal c.minBalance hy ⟨by omega,by omega⟩
 have hX:availV c y=if y.st≠2∨y.sl=true then 0 else if y.bal<c.minBalance then 0 else y.bal - c.minBalance:=by
  unfold availV
  by_cases k1:y.st≠2∨y.sl=true
  ·rw[if_pos k1,if_pos (by rcases k1 with h|h;exact .inl h;exact .inr (.inl h))]
  ·rw[if_neg k1]
   by_cases k2:y.bal≤c.minBalance
   ·rw[if_pos (.inr (.inr k2))]
    split<;>omega
   ·rw[if_neg (by rintro(h|h|h);exact k1 (.inl h);exact k1 (.inr h);exact k2 h),if_neg (by omega)]
 generalize availV c y=X at *
 obtain ⟨bal,st,s,rq,ex,wd,dl⟩:=y
 simp only at hX hs
 cases s
 ·by_cases k1:st=2
  ·subst k1
   simp only[ne_eq,not_true_eq_false,Bool.false_eq_true,or_self,if_false] at hX
   rw[← hX] at hs
   refine zGz zk323 Tryz.func323 ?_;intro G;(repeat'(first|refine zA ?_;repeat intro nb|refine zC ?_;refine kpW (k:=349) (hs _) ?_|refine zB ?_ ?_<;>intro hc<;>try exact no hc|refine zH ?_ ?_<;>(intro hg;rw[hg];try exact no hg)));all_goals exact zXz
  ·rw[if_pos (.inl k1)] at hX
   refine zGz zk323 Tryz.func323 ?_;intro G;(repeat'(first|refine zA ?_;repeat intro nb|refine zC ?_;refine kpW (k:=349) (hs _) ?_|refine zB ?_ ?_<;>intro hc<;>try exact no hc|refine zH ?_ ?_<;>(intro hg;rw[hg];try exact no hg)));all_goals try refine zO fun a w F M=>?_
   (all_goals(refine zE F M ?_;exact⟨_,_,rfl,⟨by rw[hX];rfl,rfl⟩,M.perms permsA⟩))
 ·rw[if_pos (.inr rfl)] at hX
  refine zGz zk323 Tryz.func323 ?_;intro G;(repeat'(first|refine zA ?_;repeat intro nb|refine zC ?_;refine kpW (k:=349) (hs _) ?_|refine zB ?_ ?_<;>intro hc<;>try exact no hc|refine zH ?_ ?_<;>(intro hg;rw[hg];try exact no hg)));all_goals try refine zO fun a w F M=>?_
  (all_goals(refine zE F M ?_;exact⟨_,_,rfl,⟨by rw[hX];rfl,rfl⟩,M.perms permsA⟩))
def parVal (v:Val) (x:Int):Val:={v with bal:=v.bal - x}
theorem avail_le:0≤availV c y∧availV c y≤y.bal:=by
 have h1:=hc.mb
 have h2:=hy.1
 unfold availV
 split<;>omega
theorem papply_spec (x:Int) (hx:U64 x):Spec 272 [valV y,.int .u64 x,cfgV c] R fun u L'=>u=.tuple [valV (parVal y (min x (availV c y))),.int .u64 (min x (availV c y))].toArray∧L'=R:=by
 have hs:=fun R=>pavail_spec R c hc y hy
 obtain ⟨k1,k2⟩:=avail_le c hc y hy
 have k3:=hx.1;have k4:=hx.2
 have k5:=hy.1;have k6:=hy.2
 generalize availV c y=av at *
 obtain ⟨m,hm⟩:∃ m,min x av=m:=⟨_,rfl⟩
 have hmin:(if av<x then av else x)=m:=by split<;>omega
 have m1:0≤m:=by omega
 have m2:m≤y.bal:=by omega
 rw[hm]
 obtain ⟨bal,st,s,rq,ex,wd,dl⟩:=y
 simp only at k5 k6 m2
 refine zGz zk272 Tryz.func272 ?_;intro G;(repeat'(first|refine zV (h:=⟨_,by((apply rt_min2;(exact rfl);(exact rfl);(exact hmin))),?_⟩)|refine zA1 ?_;repeat intro(nb:Nat)|refine zC ?_;refine kpW (k:=323) (hs _) ?_|refine zB ?_ ?_<;>intro hc<;>try exact no hc|refine zH ?_ ?_<;>(intro hg;rw[hg];try exact no hg)));all_goals exact zXz
end
theorem ppos1_spec (p:Pm) (R:List Asn):Spec 325 [pmV p] R fun u L'=>u=.bool (decide (p.am=0))∧L'=R:=by
 refine zGz zk325 Tryz.func325 ?_;intro G;(repeat'(first|refine zA ?_;repeat intro nb|refine zB ?_ ?_<;>intro hc<;>try exact no hc|refine zH ?_ ?_<;>(intro hg;rw[hg];try exact no hg)));all_goals exact zXz
theorem ppos_spec (h:SlH) (P:List Pm) (R:List Asn):Spec 273 [sl h] (ownT 57 pmL 3 (sl h) P::R) fun u L'=>∃ h',u=sl h'∧L'=ownT 57 pmL 3 (sl h') (P.filter fun p=>!decide (p.am=0))::R:=by
 have hd:=fun Lc=>dpm_del 325 #[] h P (fun p=>decide (p.am=0)) Lc (fun x _=>ppos1_spec x Lc)
 refine zGz zk273 Tryz.func273 ?_;intro G;(repeat'(first|refine zA ?_;repeat intro nb|refine zC ?_;refine acK (k:=324) (hd _) ?_;rintro u L' ⟨h',rfl,rfl⟩|refine zB ?_ ?_<;>intro hc<;>try exact no hc|refine zH ?_ ?_<;>(intro hg;rw[hg];try exact no hg)));all_goals try refine zO fun a w F M=>?_
 (all_goals(refine zE F M ?_;exact⟨_,_,rfl,⟨h',rfl,rfl⟩,M.perms permsA⟩))
end
section
open Go.RowKit
section
variable (R:List Asn) (c:Cfg) (hc:CfOk c) (ep a x:Int)
theorem dbounds_spec:Spec 282 [.int .i64 ep,.int .u64 a,.int .u64 x,cfgV c] R fun u L'=>∃ b4 b5 b6 b7,u=.func (.func 327) #[] #[ptr b5,ptr b6,ptr b7,ptr b4]∧L'=pt b4 [.int .i64 ep] 3::pt b5 [.int .u64 a] 22::pt b6 [.int .u64 x] 22::pt b7 (cfgL c) 24::R:=by
 refine zGz zk282 Tryz.func282 ?_;intro G;(repeat'(first|refine zA ?_;repeat intro nb|refine zB ?_ ?_<;>intro hc<;>try exact no hc|refine zH ?_ ?_<;>(intro hg;rw[hg];try exact no hg)));all_goals try refine zO fun a w F M=>?_
 all_goals refine zE F M ?_
 all_goals exact⟨_,_,rfl,⟨_,_,_,_,rfl,rfl⟩,M.perms permsA⟩
def payG (c:Cfg) (ep a x m1 m2:Int):Value:=match bndD c a x with
 | none=>.tuple [.int .i64 0,.bool false].toArray
 | some k=>if 1099511627776<ep+k+1+m1+m2 then .tuple [.int .i64 0,.bool false].toArray else .tuple [.int .i64 (ep+k+1+m1+m2),.bool true].toArray
include hc
theorem dbounds1_spec (b4 b5 b6 b7:Nat) (v:Value) (m1 m2:Int) (h1:0≤m1∧m1≤1000000000000) (h2:0≤m2∧m2≤1000000000000) (hep:0≤ep∧ep≤1099511627776) (ha:U64 a) (hx:U64 x) (hv:GS R 1 v 2 ([m1,m2].flatMap intL)) :
  Spec 327 [v,ptr b5,ptr b6,ptr b7,ptr b4] (pt b4 [.int .i64 ep] 3::pt b5 [.int .u64 a] 22::pt b6 [.int .u64 x] 22::pt b7 (cfgL c) 24::R) fun u L'=>u=payG c ep a x m1 m2∧L'=R:=by
 have hb:=fun R=>bounds_spec R c hc a x ha hx
 have hr:∀ k,bndD c a x=some k→0≤k∧k≤1099511627776:=fun k hk=>by
  unfold bndD at hk
  split at hk
  ·cases hk
  ·split at hk
   ·cases hk
   ·have:=Option.some.inj hk;omega
 unfold payG
 cases hd:bndD c a x with
 | none =>
  rw[hd] at hb
  simp only at hb
  refine zGz zk327 Tryz.func327 ?_;intro G;(repeat'(first|refine zA ?_;repeat intro nb|refine zC ?_;refine kpW (k:=328) (hb _) ?_|refine zB ?_ ?_<;>intro hc<;>try exact no hc|refine zH ?_ ?_<;>(intro hg;rw[hg];try exact no hg)));all_goals exact zXz
 | some k =>
  obtain ⟨k1,k2⟩:=hr k hd
  rw[hd] at hb
  simp only at hb
  have hl:=fun (R:List Asn) (v:Value) hg=>later_spec R ep v [k,1,m1,m2] hg (by simp) ⟨by omega,by omega⟩ (by simp only[List.mem_cons,List.not_mem_nil,or_false];rintro z (rfl|rfl|rfl|rfl)<;>exact⟨by omega,by omega⟩)
  have hs:laterGo 0 [ep,k,1,m1,m2]=if 1099511627776<ep+k+1+m1+m2 then (0,false) else (ep+k+1+m1+m2,true):=by
   rw[laterGo_sum _ _ (by omega) (by simp only[List.mem_cons,List.not_mem_nil,or_false];rintro z (rfl|rfl|rfl|rfl|rfl)<;>omega)]
   rw[show 0 + [ep,k,1,m1,m2].sum=ep+k+1+m1+m2 by simp;omega]
  simp only[laterF,laterB,hs] at hl
  by_cases hk:1099511627776<ep+k+1+m1+m2
  all_goals simp only[hk,if_true,if_false] at hl ⊢
  all_goals(refine zGo Tryz.func327 ?_;intro G w M a F)
  all_goals have hV:GS (R++G) 1 v 2 ([m1,m2].flatMap intL):=Gives.app hv
  all_goals((try refine zI zk327 F M ?_;clear F M a;try clear w);(repeat'(first|refine zA ?_;repeat intro nb|refine zC ?_;(first|refine kpW (k:=328) (hb _) ?_|refine ac_appendH (f:=intL) (xs:=[k,1]) rfl rfl inferInstance rfl rfl pullA inferInstance (ys:=[m1,m2]) gsA rfl rfl (by simp) ?_;intro nv|refine acW (k:=280) (hl _ _ ?_) ?_;exact gs_own pullA;rintro u L' ⟨rfl,rfl⟩)|refine zB ?_ ?_<;>intro hc<;>try exact no hc|refine zH ?_ ?_<;>(intro hg;rw[hg];try exact no hg)));all_goals try refine zO fun a w F M=>?_)
  all_goals refine zE F M ?_
  all_goals exact⟨_,_,rfl,⟨rfl,rfl⟩,M.perms permsA⟩
theorem swpB_range:0≤swpB c∧swpB c≤4096:=by
 have h1:=hc.vi;have h2:=hc.py;have h3:=hc.pa;have h4:=hc.ca;have h5:=hc.el
 unfold swpB
 obtain ⟨m,hm⟩:∃ m,min (c.visits - c.partials) (c.payments - c.partials)=m:=⟨_,rfl⟩
 rw[hm]
 have hd0:0≤(c.capacity - 1) / m:=Int.ediv_nonneg (by omega) (by omega)
 have hd1:(c.capacity - 1) / m≤c.capacity - 1:=Int.ediv_le_self _ (by omega)
 have hd2:0≤(c.capacity - 1) / m / c.epochLen:=Int.ediv_nonneg (by omega) (by omega)
 have hd3:(c.capacity - 1) / m / c.epochLen≤(c.capacity - 1) / m:=Int.ediv_le_self _ (by omega)
 omega
theorem payG_payD:payG c ep a x c.unbonding (swpB c)=match payD c ep a x with
  | none=>.tuple [.int .i64 0,.bool false].toArray
  | some t=>.tuple [.int .i64 t,.bool true].toArray:=by
 have _u1:=hc
 unfold payG payD bndD
 split<;>rename_i hk<;>split at hk
 ·rename_i q1;rw[if_pos q1]
 ·rename_i q1
  split at hk
  ·rename_i q2;rw[if_neg q1,if_pos q2]
  ·cases hk
 ·cases hk
 ·rename_i q1
  split at hk
  ·cases hk
  ·rename_i q2
   obtain rfl:=Option.some.inj hk
   rw[if_neg q1,if_neg q2]
   simp only
   split
   ·rfl
   ·rfl
theorem dpay_spec (hep:0≤ep∧ep≤1099511627776) (ha:U64 a) (hx:U64 x):Spec 191 [.int .i64 ep,.int .u64 a,.int .u64 x,cfgV c] R fun u L'=>u=(match payD c ep a x with
  | none=>.tuple [.int .i64 0,.bool false].toArray
  | some t=>.tuple [.int .i64 t,.bool true].toArray)∧L'=R:=by
 rw[← payG_payD c hc ep a x]
 have h4:=hc.un
 have h5:=swpB_range c hc
 have hsw:=fun R=>dsweep_spec R c hc
 have h1:=fun (R:List Asn) b4 b5 b6 b7 (v:Value) hv=>dbounds1_spec R c hc ep a x b4 b5 b6 b7 v c.unbonding (swpB c) (by omega) (by omega) hep ha hx hv
 have hcase:∃ t f,payG c ep a x c.unbonding (swpB c)=.tuple [.int .i64 t,.bool f].toArray:=by
  unfold payG
  split
  ·exact⟨_,_,rfl⟩
  ·split<;>exact⟨_,_,rfl⟩
 obtain ⟨t,f,ht⟩:=hcase
 rw[ht] at h1 ⊢
 generalize swpB c=m2 at *
 refine zGz zk191 Tryz.func191 ?_;intro G;(repeat'(first|refine zA ?_;repeat intro nb|refine zC ?_;(first|refine acW (k:=282) (dbounds_spec _ c ep a x) ?_;rintro u L' ⟨b4,b5,b6,b7,rfl,rfl⟩|refine kpW (k:=283) (hsw _) ?_|refine acK (k:=327) (h1 _ b4 b5 b6 b7 _ ?_) ?_;exact gsA;rintro u L' ⟨rfl,rfl⟩)|refine zB ?_ ?_<;>intro hc<;>try exact no hc|refine zH ?_ ?_<;>(intro hg;rw[hg];try exact no hg)));all_goals exact zXz
end
end
section
open Go.RowKit
def mixGo (g:Bool):List Val→List Val→Nat→List Val
 | x::l,v::V,j+1=>(if decide (v.bal<x.bal)=g then x else v)::mixGo g l V j
 | _,V,_=>V
theorem mixGo_zero (g:Bool) (l V:List Val):mixGo g l V 0=V:=by cases l<;>cases V<;>rfl
theorem mixGo_len (g:Bool):∀ (l V:List Val) (j:Nat),(mixGo g l V j).length=V.length
 | [],V,j=>by cases V<;>rfl
 | x::l,[],j=>by cases j<;>rfl
 | x::l,v::V,0=>by rfl
 | x::l,v::V,j+1=>by simp[mixGo,mixGo_len g l V j]
theorem mixGo_step (g:Bool):∀ (l V:List Val) (j:Nat) (x v:Val),l[j]? = some x→V[j]? = some v→(mixGo g l V j)[j]? = some v∧mixGo g l V (j+1)=if decide (v.bal<x.bal)=g then (mixGo g l V j).set j x else mixGo g l V j
 | [],V,j,x,v,h,_=>by simp at h
 | y::l,[],j,x,v,_,h=>by simp at h
 | y::l,w::V,0,x,v,h1,h2=>by
  simp at h1 h2
  subst h1;subst h2
  rw[mixGo_zero]
  refine⟨rfl,?_⟩
  rw[mixGo,mixGo_zero]
  split<;>rfl
 | y::l,w::V,j+1,x,v,h1,h2=>by
  obtain ⟨k1,k2⟩:=mixGo_step g l V j x v (by simpa using h1) (by simpa using h2)
  refine⟨by rw[mixGo];simpa using k1,?_⟩
  rw[mixGo,k2,mixGo]
  by_cases hc:decide (v.bal<x.bal)=g
  ·rw[if_pos hc,if_pos hc];rfl
  ·rw[if_neg hc,if_neg hc]
theorem mixGo_two:∀ (l V:List Val),l.length=V.length→mixGo true l (mixGo false l V V.length) V.length=l
 | [],[],_=>rfl
 | [],v::V,h=>by simp at h
 | x::l,[],h=>by simp at h
 | x::l,v::V,h=>by
  rw[List.length_cons,mixGo,mixGo,mixGo_two l V (by simpa using h)]
  congr 1
  by_cases h1:v.bal<x.bal
  ·simp[h1]
  ·simp[h1]
def LeB (V l:List Val):Prop:=V.length=l.length∧∀ (i:Nat) (v x:Val),V[i]? = some v→l[i]? = some x→v.bal≤x.bal
theorem LeB.sum:∀ {V l:List Val},LeB V l→(bals V).sum≤(bals l).sum
 | [],[],_=>Int.le_refl _
 | [],x::l,h=>by have:=h.1;simp at this
 | v::V,[],h=>by have:=h.1;simp at this
 | v::V,x::l,h=>by
  have h1:=h.2 0 v x rfl rfl
  have h2:LeB V l:=⟨by have:=h.1;simpa using this,fun i v x hv hx=>h.2 (i+1) v x (by simpa using hv) (by simpa using hx)⟩
  have h3:=LeB.sum h2
  simp only[bals,List.map_cons,List.sum_cons] at h3 ⊢
  omega
theorem mix_leB:∀ (l V:List Val),l.length=V.length→LeB (mixGo false l V V.length) l
 | [],[],_=>⟨rfl,by simp⟩
 | [],v::V,h=>by simp at h
 | x::l,[],h=>by simp at h
 | x::l,v::V,h=>by
  have ih:=mix_leB l V (by simpa using h)
  refine⟨by rw[mixGo_len];exact h.symm,fun i=>?_⟩
  rw[List.length_cons,mixGo]
  cases i with
  | zero =>
   intro u z hu hz
   simp at hu hz
   subst hz
   by_cases h1:v.bal<x.bal
   ·rw[if_neg (by omega)] at hu;subst hu;omega
   ·rw[if_pos (by omega)] at hu;subst hu;exact Int.le_refl _
  | succ i =>
   intro u z hu hz
   exact ih.2 i u z (by simpa using hu) (by simpa using hz)
theorem LeB.set {V l:List Val} (h:LeB V l) {i:Nat} {x:Val} (hx:l[i]? = some x):LeB (V.set i x) l:=by
 refine⟨by rw[List.length_set];exact h.1,fun j v z hv hz=>?_⟩
 rcases getE_set hv with⟨rfl,rfl⟩|⟨_,hv⟩
 ·rw[hx] at hz;obtain rfl:=Option.some.inj hz;exact Int.le_refl _
 ·exact h.2 j v z hv hz
def StOk (V:List Val):Prop:=∀ x∈V,0≤x.bal∧I64 x.st
theorem StOk.set {V:List Val} (h:StOk V) {i:Nat} {x:Val} (hx:0≤x.bal∧I64 x.st):StOk (V.set i x):=fun y hy=>by
 rcases List.mem_or_eq_of_mem_set hy with hy|rfl
 ·exact h y hy
 ·exact hx
theorem StOk.bal0 {V:List Val} (h:StOk V):∀ x∈bals V,0≤x:=fun x hx=>by
 obtain ⟨v,hv,rfl⟩:=List.mem_map.1 hx
 exact(h v hv).1
section
variable (b:Nat) (H:EH) (c:Cfg) (V l:List Val) (h:SlH) (R:List Asn) (hg:GS R 7 (sl h) l.length (l.flatMap valL)) (hlen:l.length=V.length) (hl:V.length≤4096) (hV:StOk V) (hL:StOk l) (hsV:(bals V).sum≤18446744073709551615) (hsl:(bals l).sum≤18446744073709551615)
include hg hlen hl hV hL hsV hsl
theorem store_spec:Spec 178 [ptr b,sl h] (pt b (engC H c) 122::regA H.rg c.capacity V::R) fun u L'=>u=.tuple #[]∧L'=pt b (engC H c) 122::regA H.rg c.capacity l::R:=by
 have hm2:=mixGo_two l V hlen
 have hle:=mix_leB l V hlen
 obtain ⟨gg,hgg⟩:∃ gg:Nat→Bool,gg=fun k=>decide (k=1):=⟨_,rfl⟩
 obtain ⟨St,hSt⟩:∃ St:Nat→List Val,St=fun k=>if k=0 then V else if k=1 then mixGo false l V V.length else l:=⟨_,rfl⟩
 have s0:St 0=V:=by rw[hSt];rfl
 have s2:St 2=l:=by rw[hSt];rfl
 have hstep:∀ k,k<2→mixGo (gg k) l (St k) V.length=St (k+1):=fun k hk=>by
  rcases (by omega:k=0∨k=1) with rfl|rfl
  ·rw[hSt,hgg];rfl
  ·rw[hSt,hgg];exact hm2
 have hlenS:∀ k,(St k).length=V.length:=fun k=>by
  rw[hSt]
  by_cases k0:k=0
  ·simp[k0]
  ·by_cases k1:k=1
   ·simp[k1,mixGo_len]
   ·simp[k0,k1,hlen]
 have hcur:∀ k,k<2→(k=1→LeB (St k) l):=fun k hk h1=>by subst h1;rw[hSt];exact hle
 refine zGo Tryz.func178 ?_;intro G w M a F
 have hG:GS (R++G) 7 (sl h) l.length (l.flatMap valL):=Gives.app hg
 (try refine zI zk178 F M ?_;clear F M a;try clear w);(repeat'(first|refine zA ?_;repeat intro nb|refine zB ?_ ?_<;>intro hc<;>try exact no hc|refine zH ?_ ?_<;>(intro hg;rw[hg];try exact no hg)));all_goals try refine zO fun a w F M=>?_
 refine svLoop F M (0:Nat) (fun k=>[(11,.int .i64 k)]) (fun k=>[regA H.rg c.capacity (St k)]) (fun k=>k≤2∧StOk (St k)∧(bals (St k)).sum≤18446744073709551615) (fun k=>2 - k) [5,14,15,16,6,7,8,9] ⟨by omega,by rw[s0];exact hV,by rw[s0];exact hsV⟩ ?_ (hR:=by rw[s0];(repeat (first|exact Pulls.nil|(apply Pulls.cons;(focus ((repeat (first|exact Pull.here|apply Pull.there));done))))))
 (rintro k ⟨q1,q2,q3⟩ a w F M;(try simp only[zc,zn] at F M q1 q2 q3 ⊢))
 by_cases hk:k<2
 ·have hd:[Value.bool false,.bool true][((k:Int)).toNat*1]? = some (.bool (gg k)):=by
   rcases (by omega:k=0∨k=1) with rfl|rfl<;>rw[hgg]<;>rfl
  have hst:=hstep k hk
  have hlS:=hlenS k
  have hle1:=hcur k hk
  obtain ⟨g,hg0⟩:∃ g,gg k=g:=⟨_,rfl⟩
  have hgk:g=true→k=1:=fun e=>by rw[e,hgg] at hg0;simpa using hg0
  rw[hg0] at hd hst
  obtain ⟨W2,hW2⟩:∃ W2,St (k+1)=W2:=⟨_,rfl⟩
  rw[hW2] at hst
  generalize St k=W at *
  (try refine zI zk178 F M ?_;clear F M a;try clear w);(repeat'(first|refine zV (h:=⟨_,by((apply rt_idx1;(exact rfl);(exact rfl);(exact rfl);(exact inferInstance);(exact inferInstance);omega;omega;(exact hd))),?_⟩)|refine zA1 ?_;repeat intro(nb:Nat)|refine zB ?_ ?_<;>intro hc<;>try exact no hc|refine zH ?_ ?_<;>(intro hg;rw[hg];try exact no hg)));all_goals try refine zO fun a w F M=>?_
  refine svLoop F M (0:Nat) (fun j=>[(16,.int .i64 j)]) (fun j=>[regA H.rg c.capacity (mixGo g l W j)]) (fun j=>j≤V.length∧StOk (mixGo g l W j)∧(bals (mixGo g l W j)).sum≤18446744073709551615∧(g=true→LeB (mixGo g l W j) l)) (fun j=>V.length - j) [6,7,8,9] ⟨Nat.zero_le _,by rw[mixGo_zero];exact q2,by rw[mixGo_zero];exact q3,by rw[mixGo_zero];exact fun e=>hle1 (hgk e)⟩ ?_ (hR:=by rw[mixGo_zero];(repeat (first|exact Pulls.nil|(apply Pulls.cons;(focus ((repeat (first|exact Pull.here|apply Pull.there));done))))))
  (rintro j ⟨p1,p2,p3,p4⟩ a w F M;(try simp only[zc,zn] at F M p1 p2 p3 p4 ⊢))
  by_cases hj:j<V.length
  ·obtain ⟨x,hx⟩:∃ x,l[j]? = some x:=⟨l[j]'(by omega),by rw[List.getElem?_eq_getElem]⟩
   obtain ⟨v,hv⟩:∃ v,W[j]? = some v:=⟨W[j]'(by omega),by rw[List.getElem?_eq_getElem]⟩
   obtain ⟨k1,k2⟩:=mixGo_step g l W j x v hx hv
   have hlm:=mixGo_len g l W j
   have hxo:=hL x (List.mem_of_getElem? hx)
   generalize mixGo g l W j=Y at *
   have hvo:=p2 v (List.mem_of_getElem? k1)
   have hsum:=sum_set (bals Y) j v.bal x.bal (bals_get k1)
   rw[← bals_set] at hsum
   have hle2:=sum_mem_le (bals Y) p2.bal0 _ (List.mem_of_getElem? (bals_get k1))
   have hget:=fun R=>reg_get H.rg c.capacity Y R j v k1 (by omega)
   by_cases hcd:decide (v.bal<x.bal)=g
   ·rw[if_pos hcd] at k2
    have hs3:(bals Y).sum - v.bal+x.bal≤18446744073709551615:=by
     by_cases hlt:v.bal<x.bal
     ·have hgt:g=true:=by rw[← hcd];simpa using hlt
      have:=(p4 hgt).set hx
      have:=this.sum
      omega
     ·omega
    have hch:=fun R=>tchange_spec H.rg c.capacity Y R j v x k1 (by omega) ⟨hxo.2,hvo.2⟩ hvo.1 hxo.1 ⟨hle2,p3,hs3⟩
    have hb2:(decide (v.bal<x.bal) == g)=true:=by rw[hcd];simp
    (try refine zI zk178 F M ?_;clear F M a;try clear w);(repeat'(first|refine zA ?_;repeat intro nb|refine zC ?_;(first|refine kp (k:=58) (hget _) ?_|refine kp (k:=133) (hch _) ?_)|refine zB ?_ ?_<;>intro hc<;>try exact no hc|refine zH ?_ ?_<;>(intro hg;rw[hg];try exact no hg)));all_goals try refine zO fun a w F M=>?_
    exact sv_again F M (j+1) kpA (by simp only[k2];exact permsA) ⟨by omega,by rw[k2];exact p2.set hxo,by rw[k2,hsum];exact hs3,fun e=>by rw[k2];exact(p4 e).set hx⟩ (by omega)
   ·rw[if_neg hcd] at k2
    have hb2:(decide (v.bal<x.bal) == g)=false:=by simpa using hcd
    (try refine zI zk178 F M ?_;clear F M a;try clear w);(repeat'(first|refine zA ?_;repeat intro nb|refine zC ?_;(first|refine kp (k:=58) (hget _) ?_|refine kp (k:=133) (hch _) ?_)|refine zB ?_ ?_<;>intro hc<;>try exact no hc|refine zH ?_ ?_<;>(intro hg;rw[hg];try exact no hg)));all_goals try refine zO fun a w F M=>?_
    exact sv_again F M (j+1) kpA (by simp only[k2];exact permsA) ⟨by omega,by rw[k2];exact p2,by rw[k2];exact p3,fun e=>by rw[k2];exact p4 e⟩ (by omega)
  ·obtain rfl:j=V.length:=by omega
   rw[hst] at M p2 p3
   (try refine zI zk178 F M ?_;clear F M a;try clear w);(repeat'(first|refine zA ?_;repeat intro nb|refine zB ?_ ?_<;>intro hc<;>try exact no hc|refine zH ?_ ?_<;>(intro hg;rw[hg];try exact no hg)));all_goals try refine zO fun a w F M=>?_
   exact sv_again F M (k+1) kpA (by rw[hW2];exact permsA) ⟨by omega,by rw[hW2];exact p2,by rw[hW2];exact p3⟩ (by omega)
 ·obtain rfl:k=2:=by omega
  rw[s2] at M
  (try refine zI zk178 F M ?_;clear F M a;try clear w);(repeat'(first|refine zA ?_;repeat intro nb|refine zB ?_ ?_<;>intro hc<;>try exact no hc|refine zH ?_ ?_<;>(intro hg;rw[hg];try exact no hg)));all_goals exact zXz
end
end
section
open Go.RowKit
theorem accept_reads (o:Opn) (ix dl bk ep:Int) {L:List Asn}:Reads 87 [.agg (opL o).toArray,.int .i64 ix,.int .i64 dl,.int .i64 bk,.int .i64 ep] (rcV ⟨o.k,0,ix,bk,ep,dl,0,[],[]⟩ nilH nilH) L:=by
 (intro K hK w M;refine sx_enter (vs:=[.agg (opL o).toArray,.int .i64 ix,.int .i64 dl,.int .i64 bk,.int .i64 ep]) Tryz.func87 (n:=18) rfl rfl rfl rfl ?_;intro a F)
 (try refine zI zk87 F M ?_;clear F M a;try clear w);(repeat'(first|refine zA ?_;repeat intro b|refine zB ?_ ?_<;>intro hc<;>try exact no hc|refine zH ?_ ?_<;>(intro hg;rw[hg];try exact no hg)));all_goals try refine zO fun a w F M=>?_
 (all_goals((first|(refine svEnd F M ?_)|(refine svRet F M ?_));refine⟨?_,M.perms permsA⟩))
 rfl
end
section
open Go.RowKit
abbrev opV (o:Opn):Value:=.agg (opL o).toArray
def rsI (r:Rs):List Value:=if r.c=0 then [.int .i64 0,.int .i64 r.ix,.int .i64 r.dl] else [.int .i64 r.c,.int .i64 0,.int .i64 0]
abbrev rsV (r:Rs):Value:=.agg (rsI r).toArray
theorem efail_spec (e:Int) (R:List Asn):Spec 86 [.int .i64 e] R fun u L'=>u=.agg [.int .i64 e,.int .i64 0,.int .i64 0].toArray∧L'=R:=by
 refine zGz zk86 Tryz.func86 ?_;intro G;(repeat'(first|refine zA ?_;repeat intro nb|refine zB ?_ ?_<;>intro hc<;>try exact no hc|refine zH ?_ ?_<;>(intro hg;rw[hg];try exact no hg)));all_goals exact zXz
theorem edone_spec (i d:Int) (R:List Asn):Spec 129 [.int .i64 i,.int .i64 d] R fun u L'=>u=.agg [.int .i64 0,.int .i64 i,.int .i64 d].toArray∧L'=R:=by
 refine zGz zk129 Tryz.func129 ?_;intro G;(repeat'(first|refine zA ?_;repeat intro nb|refine zB ?_ ?_<;>intro hc<;>try exact no hc|refine zH ?_ ?_<;>(intro hg;rw[hg];try exact no hg)));all_goals exact zXz
section
variable (b:Nat) (H:EH) (c:Cfg) (s:St) (hc:CfOk c) (hi:Inv c s) (R:List Asn)
include hc hi
theorem inv_sum:0≤(bals s.V).sum∧(bals s.V).sum≤1152921504606846976∧(s.V.length:Int)≤4096∧(qS c:Int)=c.queueSize∧1≤qS c∧qS c≤4096:=by
 have h1:=hi.sup;have h2:=hc.sc;have h3:=hi.cap;have h4:=hc.ca;have h5:=hc.qs
 exact⟨sum_nonneg _ hi.bal0,by omega,by omega,by unfold qS;omega,by unfold qS;omega,by unfold qS;omega⟩
theorem dep_spec (o:Opn) (ho:U64 o.am):Spec 80 [ptr b,opV o] (engL b H c s R) fun u L'=>u=rsV (opDep c s o.am)∧L'=engL b H c (opDep c s o.am).s R:=by
 obtain ⟨k1,k2,k3,k4,k5,k6⟩:=inv_sum c s hc hi
 have hl3:s.V.length≤4096:=by omega
 obtain ⟨t1,t2,t3⟩:=hi.tot
 have hsum:=hi.sum
 have o1:=ho.1;have o2:=ho.2
 have q1:=hi.ql.1
 have hcap:=hi.cap
 have hmd:=hc.md;have hsc:=hc.sc;have hca:=hc.ca
 have hsz:qS c≤4096:=k6
 have hld:=fun R=>led_dep H.ld s.dep s.pd s.bu c.supplyCap ⟨t1,t2,by omega,t3⟩ R o.am ho ⟨by have:=hi.sup;omega,by omega⟩
 obtain ⟨ok,oi,ot,x⟩:=o
 simp only at o1 o2 hld ⊢
 unfold opDep
 by_cases h1:x<c.minDeposit
 ·rw[if_pos (.inl h1)]
  have d1:decide (x<c.minDeposit)=true:=by simpa using h1
  ((refine zGo Tryz.func80 ?_;intro G w M a F))
  (try refine zI zk80 F M ?_;clear F M a;try clear w);(repeat'(first|refine zA ?_;repeat intro nb|refine zC ?_;(first|refine kp (k:=119) (reg_len H.rg c.capacity s.V _) ?_|refine kp (k:=125) (rgn_free H.pe (qS c) s.pe _) ?_|refine kpW (k:=86) (efail_spec _ _) ?_|refine kpW (k:=129) (edone_spec _ _ _) ?_)|refine zB ?_ ?_<;>intro hc<;>try exact no hc|refine zH ?_ ?_<;>(intro hg;rw[hg];try exact no hg)));all_goals try refine zO fun a w F M=>?_
  try rw[d1]
  (try refine zI zk80 F M ?_;clear F M a;try clear w);(repeat'(first|refine zA ?_;repeat intro nb|refine zC ?_;(first|refine kp (k:=119) (reg_len H.rg c.capacity s.V _) ?_|refine kp (k:=125) (rgn_free H.pe (qS c) s.pe _) ?_|refine kpW (k:=86) (efail_spec _ _) ?_|refine kpW (k:=129) (edone_spec _ _ _) ?_)|refine zB ?_ ?_<;>intro hc<;>try exact no hc|refine zH ?_ ?_<;>(intro hg;rw[hg];try exact no hg)));all_goals exact zXz
 have d1:decide (x<c.minDeposit)=false:=by simpa using h1
 by_cases h2:c.maxDeposit<x
 ·rw[if_pos (.inr h2)]
  ((refine zGo Tryz.func80 ?_;intro G w M a F))
  (try refine zI zk80 F M ?_;clear F M a;try clear w);(repeat'(first|refine zA ?_;repeat intro nb|refine zC ?_;(first|refine kp (k:=119) (reg_len H.rg c.capacity s.V _) ?_|refine kp (k:=125) (rgn_free H.pe (qS c) s.pe _) ?_|refine kpW (k:=86) (efail_spec _ _) ?_|refine kpW (k:=129) (edone_spec _ _ _) ?_)|refine zB ?_ ?_<;>intro hc<;>try exact no hc|refine zH ?_ ?_<;>(intro hg;rw[hg];try exact no hg)));all_goals try refine zO fun a w F M=>?_
  try rw[d1]
  (try refine zI zk80 F M ?_;clear F M a;try clear w);(repeat'(first|refine zA ?_;repeat intro nb|refine zC ?_;(first|refine kp (k:=119) (reg_len H.rg c.capacity s.V _) ?_|refine kp (k:=125) (rgn_free H.pe (qS c) s.pe _) ?_|refine kpW (k:=86) (efail_spec _ _) ?_|refine kpW (k:=129) (edone_spec _ _ _) ?_)|refine zB ?_ ?_<;>intro hc<;>try exact no hc|refine zH ?_ ?_<;>(intro hg;rw[hg];try exact no hg)));all_goals exact zXz
 rw[if_neg (by omega)]
 by_cases h3:c.capacity≤s.V.length
 ·rw[if_pos h3]
  ((refine zGo Tryz.func80 ?_;intro G w M a F))
  (try refine zI zk80 F M ?_;clear F M a;try clear w);(repeat'(first|refine zA ?_;repeat intro nb|refine zC ?_;(first|refine kp (k:=119) (reg_len H.rg c.capacity s.V _) ?_|refine kp (k:=125) (rgn_free H.pe (qS c) s.pe _) ?_|refine kpW (k:=86) (efail_spec _ _) ?_|refine kpW (k:=129) (edone_spec _ _ _) ?_)|refine zB ?_ ?_<;>intro hc<;>try exact no hc|refine zH ?_ ?_<;>(intro hg;rw[hg];try exact no hg)));all_goals try refine zO fun a w F M=>?_
  try rw[d1]
  (try refine zI zk80 F M ?_;clear F M a;try clear w);(repeat'(first|refine zA ?_;repeat intro nb|refine zC ?_;(first|refine kp (k:=119) (reg_len H.rg c.capacity s.V _) ?_|refine kp (k:=125) (rgn_free H.pe (qS c) s.pe _) ?_|refine kpW (k:=86) (efail_spec _ _) ?_|refine kpW (k:=129) (edone_spec _ _ _) ?_)|refine zB ?_ ?_<;>intro hc<;>try exact no hc|refine zH ?_ ?_<;>(intro hg;rw[hg];try exact no hg)));all_goals exact zXz
 rw[if_neg h3]
 by_cases h4:c.queueSize≤s.pe.length
 ·rw[if_pos h4]
  have h4':(qS c:Int) - s.pe.length=0:=by omega
  ((refine zGo Tryz.func80 ?_;intro G w M a F))
  (try refine zI zk80 F M ?_;clear F M a;try clear w);(repeat'(first|refine zA ?_;repeat intro nb|refine zC ?_;(first|refine kp (k:=119) (reg_len H.rg c.capacity s.V _) ?_|refine kp (k:=125) (rgn_free H.pe (qS c) s.pe _) ?_|refine kpW (k:=86) (efail_spec _ _) ?_|refine kpW (k:=129) (edone_spec _ _ _) ?_)|refine zB ?_ ?_<;>intro hc<;>try exact no hc|refine zH ?_ ?_<;>(intro hg;rw[hg];try exact no hg)));all_goals try refine zO fun a w F M=>?_
  try rw[d1]
  (try refine zI zk80 F M ?_;clear F M a;try clear w);(repeat'(first|refine zA ?_;repeat intro nb|refine zC ?_;(first|refine kp (k:=119) (reg_len H.rg c.capacity s.V _) ?_|refine kp (k:=125) (rgn_free H.pe (qS c) s.pe _) ?_|refine kpW (k:=86) (efail_spec _ _) ?_|refine kpW (k:=129) (edone_spec _ _ _) ?_)|refine zB ?_ ?_<;>intro hc<;>try exact no hc|refine zH ?_ ?_<;>(intro hg;rw[hg];try exact no hg)));all_goals exact zXz
 rw[if_neg h4]
 have h4':¬(qS c:Int) - s.pe.length=0:=by omega
 by_cases h5:c.supplyCap<x+(s.dep - s.pd - s.bu)
 ·rw[if_pos h5]
  simp only[h5,if_true] at hld
  ((refine zGo Tryz.func80 ?_;intro G w M a F))
  (try refine zI zk80 F M ?_;clear F M a;try clear w);(repeat'(first|refine zA ?_;repeat intro nb|refine zC ?_;(first|refine kp (k:=119) (reg_len H.rg c.capacity s.V _) ?_|refine kp (k:=125) (rgn_free H.pe (qS c) s.pe _) ?_|refine kpW (k:=86) (efail_spec _ _) ?_|refine kpW (k:=129) (edone_spec _ _ _) ?_|refine kp (k:=126) (hld _) ?_)|refine zB ?_ ?_<;>intro hc<;>try exact no hc|refine zH ?_ ?_<;>(intro hg;rw[hg];try exact no hg)));all_goals try refine zO fun a w F M=>?_
  try rw[d1]
  (try refine zI zk80 F M ?_;clear F M a;try clear w);(repeat'(first|refine zA ?_;repeat intro nb|refine zC ?_;(first|refine kp (k:=119) (reg_len H.rg c.capacity s.V _) ?_|refine kp (k:=125) (rgn_free H.pe (qS c) s.pe _) ?_|refine kpW (k:=86) (efail_spec _ _) ?_|refine kpW (k:=129) (edone_spec _ _ _) ?_|refine kp (k:=126) (hld _) ?_)|refine zB ?_ ?_<;>intro hc<;>try exact no hc|refine zH ?_ ?_<;>(intro hg;rw[hg];try exact no hg)));all_goals exact zXz
 rw[if_neg h5]
 simp only[h5,if_false] at hld
 by_cases h6:18446744073709551615<s.dep+x
 ·rw[if_pos h6]
  simp only[h6,if_true] at hld
  ((refine zGo Tryz.func80 ?_;intro G w M a F))
  (try refine zI zk80 F M ?_;clear F M a;try clear w);(repeat'(first|refine zA ?_;repeat intro nb|refine zC ?_;(first|refine kp (k:=119) (reg_len H.rg c.capacity s.V _) ?_|refine kp (k:=125) (rgn_free H.pe (qS c) s.pe _) ?_|refine kpW (k:=86) (efail_spec _ _) ?_|refine kpW (k:=129) (edone_spec _ _ _) ?_|refine kp (k:=126) (hld _) ?_)|refine zB ?_ ?_<;>intro hc<;>try exact no hc|refine zH ?_ ?_<;>(intro hg;rw[hg];try exact no hg)));all_goals try refine zO fun a w F M=>?_
  try rw[d1]
  (try refine zI zk80 F M ?_;clear F M a;try clear w);(repeat'(first|refine zA ?_;repeat intro nb|refine zC ?_;(first|refine kp (k:=119) (reg_len H.rg c.capacity s.V _) ?_|refine kp (k:=125) (rgn_free H.pe (qS c) s.pe _) ?_|refine kpW (k:=86) (efail_spec _ _) ?_|refine kpW (k:=129) (edone_spec _ _ _) ?_|refine kp (k:=126) (hld _) ?_)|refine zB ?_ ?_<;>intro hc<;>try exact no hc|refine zH ?_ ?_<;>(intro hg;rw[hg];try exact no hg)));all_goals exact zXz
 rw[if_neg h6]
 simp only[h6,if_false] at hld
 have hqq:s.pe.length<qS c:=by omega
 have had:=fun R=>reg_add H.rg c.capacity s.V R (newV x) (by omega) (by omega) ⟨by simp[newV],by simp[newV]⟩ (by simp only[newV];omega) ⟨k1,by simp only[newV];omega⟩
 ((refine zGo Tryz.func80 ?_;intro G w M a F))
 (try refine zI zk80 F M ?_;clear F M a;try clear w);(repeat'(first|refine zA ?_;repeat intro nb|refine zC ?_;(first|refine kp (k:=119) (reg_len H.rg c.capacity s.V _) ?_|refine kp (k:=125) (rgn_free H.pe (qS c) s.pe _) ?_|refine kpW (k:=86) (efail_spec _ _) ?_|refine kpW (k:=129) (edone_spec _ _ _) ?_|refine kp (k:=126) (hld _) ?_|refine kp (k:=127) (had _) ?_|refine acCall (k:=128) ?_;refine Spec.pre (L':=rgnA H.pe (qS c) s.pe::_) ?_ permsA;refine Spec.mono (rgn_push H.pe (qS c) s.pe s.V.length ⟨some ⟨nb,0,none⟩,1,1⟩ _ (by(apply gs_own;(focus ((repeat (first|exact Pull.here|apply Pull.there));done)))) ⟨rfl,Nat.le_refl 1⟩ hqq hsz) ?_;rintro u L' ⟨rfl,rfl⟩)|refine zB ?_ ?_<;>intro hc<;>try exact no hc|refine zH ?_ ?_<;>(intro hg;rw[hg];try exact no hg)));all_goals try refine zO fun a w F M=>?_
 try rw[d1]
 (try refine zI zk80 F M ?_;clear F M a;try clear w);(repeat'(first|refine zA ?_;repeat intro nb|refine zC ?_;(first|refine kp (k:=119) (reg_len H.rg c.capacity s.V _) ?_|refine kp (k:=125) (rgn_free H.pe (qS c) s.pe _) ?_|refine kpW (k:=86) (efail_spec _ _) ?_|refine kpW (k:=129) (edone_spec _ _ _) ?_|refine kp (k:=126) (hld _) ?_|refine kp (k:=127) (had _) ?_|refine acCall (k:=128) ?_;refine Spec.pre (L':=rgnA H.pe (qS c) s.pe::_) ?_ permsA;refine Spec.mono (rgn_push H.pe (qS c) s.pe s.V.length ⟨some ⟨nb,0,none⟩,1,1⟩ _ (by(apply gs_own;(focus ((repeat (first|exact Pull.here|apply Pull.there));done)))) ⟨rfl,Nat.le_refl 1⟩ hqq hsz) ?_;rintro u L' ⟨rfl,rfl⟩)|refine zB ?_ ?_<;>intro hc<;>try exact no hc|refine zH ?_ ?_<;>(intro hg;rw[hg];try exact no hg)));all_goals exact zXz
end
end
section
open Go.RowKit
section
variable (b:Nat) (H:EH) (c:Cfg) (s:St) (hc:CfOk c) (hi:Inv c s) (R:List Asn)
include hc hi
theorem wt_spec (W:List Int) (hW:∀ x∈W,U64 x) (l:List Nat) (hn:(l.map (wAt W)).sum≤18446744073709551615):addR (l.map (wAt W))=((l.map (wAt W)).sum,true):=by
 have _u1:=hc
 have _u2:=hi
 rw[addR_sum _ fun z hz=>?_,if_neg (by omega)]
 obtain ⟨i,_,rfl⟩:=List.mem_map.1 hz
 unfold wAt
 rw[List.getD_eq_getElem?_getD]
 cases hx:W[i]? with
 | none=>exact Int.le_refl _
 | some x=>exact(hW x (List.mem_of_getElem? hx)).1
theorem vwf {i:Nat} {v:Val} (hv:s.V[i]? = some v):v.wf∧0≤v.bal∧v.bal≤(bals s.V).sum∧VOk c (epo c s) v:=by
 have h:=hi.val i v hv
 obtain ⟨k1,k2,_⟩:=inv_sum c s hc hi
 have h2:=sum_mem_le _ hi.bal0 _ (List.mem_of_getElem? (bals_get hv))
 have h3:=h.b
 have he:=epo_range hc (s:=s) (by have:=hi.bk;omega)
 have hst:=h.st;have hrq:=h.rq;have hwd:=h.wd;have hdl:=h.dl
 refine⟨⟨⟨h3,by omega⟩,WalkArith.wf_i64 (by omega),WalkArith.wf_i64 (by omega),WalkArith.wf_i64 ?_,WalkArith.wf_i64 (by omega),WalkArith.wf_i64 (by omega)⟩,h3,h2,h⟩
 rcases h.ex with h|h<;>omega
theorem leave_spec (cl:Nat) (hcl:cl≤1) (ix:Int):Spec 130 [ptr b,.int .i64 cl,.int .i64 ix] (engL b H c s R) fun u L'=>u=rsV (opLeave c s cl ix)∧L'=engL b H c (opLeave c s cl ix).s R:=by
 obtain ⟨k1,k2,k3,k4,k5,k6⟩:=inv_sum c s hc hi
 have hl3:s.V.length≤4096:=by omega
 have hsz:qS c≤4096:=k6
 obtain ⟨l1,l2,l3,l4,l5⟩:=hi.ql
 have hbk:=hi.bk
 have hep:=epo_range hc (s:=s) (by omega)
 have hepo:epo c s=(s.bk:Int) / c.epochLen:=rfl
 have hck:=fun R=>clk_epoch H.ck s.bk c.epochLen hc.el (by omega) R
 rw[← hepo] at hck
 by_cases hix:ix<0∨(s.V.length:Int)≤ix
 ·have e:opLeave c s cl ix=no' s 7:=by
   unfold opLeave
   by_cases h0:ix<0
   ·rw[if_pos h0]
   ·rw[if_neg h0,List.getElem?_eq_none (by omega)]
  rw[e]
  have hg:=fun R=>reg_getN H.rg c.capacity s.V R ix hix
  ((refine zGo Tryz.func130 ?_;intro G w M a F))
  (try refine zI zk130 F M ?_;clear F M a;try clear w);(repeat'(first|refine zA ?_;repeat intro nb|refine zC ?_;(first|refine kp (k:=43) (hck _) ?_|refine kpW (k:=86) (efail_spec _ _) ?_|refine kpW (k:=129) (edone_spec _ _ _) ?_|refine kp (k:=58) (hg _) ?_)|refine zB ?_ ?_<;>intro hc<;>try exact no hc|refine zH ?_ ?_<;>(intro hg;rw[hg];try exact no hg)));all_goals exact zXz
 obtain ⟨i,rfl⟩:∃ i:Nat,ix=i:=⟨ix.toNat,by omega⟩
 obtain ⟨v,hv⟩:∃ v,s.V[i]? = some v:=⟨s.V[i]'(by omega),by rw[List.getElem?_eq_getElem]⟩
 obtain ⟨hwf,hb0,hble,hvo⟩:=vwf c s hc hi hv
 have hg:=fun R=>reg_get H.rg c.capacity s.V R i v hv hl3
 have hwfe:(Lit.int .i64 (epo c s)).wf=true:=WalkArith.wf_i64 (by omega)
 have hac:=fun R=>pnAcc_spec v (epo c s) hep.1 hwf.2.1 R (by omega)
 have hX:opLeave c s cl i=if (accR v (epo c s)).1≠0 then no' s (accR v (epo c s)).1 else if c.queueSize≤(if cl=0 then s.fo else s.vo).length then no' s 6 else match payD c (epo c s) (aheadW s cl) v.bal with
   | none=>no' s 10
   | some t=>⟨0,i,t,if cl=0 then {s with V:=s.V.set i {(accR v (epo c s)).2.1 with dl:=t},fo:=s.fo++[i]} else {s with V:=s.V.set i {(accR v (epo c s)).2.1 with dl:=t},vo:=s.vo++[i]}⟩:=by
  unfold opLeave
  rw[if_neg (by omega)]
  rcases (by omega:cl=0∨cl=1) with rfl|rfl
  ·simp only[Int.toNat_natCast,hv];rfl
  ·simp only[Int.toNat_natCast,hv];rfl
 have hacc:=accR_eq v hep.1 (by omega)
 rw[hX]
 clear hX
 by_cases hs:v.st=2
 ·rw[if_pos hs] at hacc
  rw[hacc] at hac ⊢
  simp only[ne_eq,not_true_eq_false,if_false] at hac ⊢
  have hfr:∀ R,Spec 132 [ptr H.ln,.int .i64 cl] (lnP H.ln H.r0 H.r1 (qS c) s.fo s.vo R) fun u L'=>u=.int .i64 ((qS c:Int) - (if cl=0 then s.fo else s.vo).length)∧L'=lnP H.ln H.r0 H.r1 (qS c) s.fo s.vo R:=fun R=>by
   rcases (by omega:cl=0∨cl=1) with rfl|rfl
   ·exact lfree0 H.ln H.r0 H.r1 (qS c) s.fo s.vo R
   ·exact lfree1 H.ln H.r0 H.r1 (qS c) s.fo s.vo R
  have hQl:((if cl=0 then s.fo else s.vo).length:Int)≤c.queueSize:=by split<;>omega
  by_cases hq:c.queueSize≤(if cl=0 then s.fo else s.vo).length
  ·rw[if_pos hq]
   generalize (if cl=0 then s.fo else s.vo).length=Q at *
   have hq':(qS c:Int) - (Q:Int)=0:=by omega
   ((refine zGo Tryz.func130 ?_;intro G w M a F))
   (try refine zI zk130 F M ?_;clear F M a;try clear w);(repeat'(first|refine zA ?_;repeat intro nb|refine zC ?_;(first|refine kp (k:=43) (hck _) ?_|refine kpW (k:=86) (efail_spec _ _) ?_|refine kpW (k:=129) (edone_spec _ _ _) ?_|refine kp (k:=58) (hg _) ?_|refine kpW (k:=188) (hac _) ?_|refine kp (k:=132) (hfr _) ?_)|refine zB ?_ ?_<;>intro hc<;>try exact no hc|refine zH ?_ ?_<;>(intro hg;rw[hg];try exact no hg)));all_goals exact zXz
  ·rw[if_neg hq]
   have hahead:aheadW s cl=((if cl=0 then s.fo else s.fo++s.vo).map (wAt (bals s.V))).sum:=by
    unfold aheadW
    simp only[Int.natCast_eq_zero]
   have hnd:(if cl=0 then s.fo else s.fo++s.vo).Nodup:=by
    split
    ·exact(List.nodup_append.1 hi.ex.nd).1
    ·exact hi.ex.nd
   have hah:=sum_sub _ (bals s.V) hnd hi.bal0
   rw[← hahead] at hah
   have hW:∀ x∈bals s.V,U64 x:=fun x hx=>⟨hi.bal0 x hx,by have:=sum_mem_le _ hi.bal0 x hx;omega⟩
   have hah0:0≤aheadW s cl:=by
    rw[hahead]
    refine sum_nonneg _ fun z hz=>?_
    obtain ⟨j,_,rfl⟩:=List.mem_map.1 hz
    unfold wAt
    rw[List.getD_eq_getElem?_getD]
    cases hx:(bals s.V)[j]? with
    | none=>exact Int.le_refl _
    | some x=>exact hi.bal0 x (List.mem_of_getElem? hx)
   have hll:(if cl=0 then s.fo else s.fo++s.vo).length≤100000:=by
    split
    ·omega
    ·rw[List.length_append];omega
   have haR:=wt_spec c s hc hi (bals s.V) hW (if cl=0 then s.fo else s.fo++s.vo) (by rw[← hahead];omega)
   have hws:=fun (R:List Asn) (v vi:Value) hg hgi=>weights_spec (bals s.V) v R hg hW (if cl=0 then s.fo else s.fo++s.vo) vi hgi hll
   rw[haR,← hahead] at hws
   have hla:=fun R=>lahead H.ln H.r0 H.r1 (qS c) s.fo s.vo R cl hcl (by omega) (by omega)
   have hdp:=fun R=>dpay_spec R c hc (epo c s) (aheadW s cl) v.bal ⟨hep.1,by omega⟩ ⟨hah0,by omega⟩ ⟨hb0,by omega⟩
   have hprg:∀ t,payD c (epo c s) (aheadW s cl) v.bal=some t→0≤t∧t≤1099511627776:=fun t ht=>payD_range hc ht hep.1 hah0 hb0
   have htb:=fun R=>tbals_spec H.rg c.capacity s.V R hl3
   generalize aheadW s cl=A at *
   generalize hPD:payD c (epo c s) A v.bal=PD at *
   have hq':¬(qS c:Int) - ((if cl=0 then s.fo else s.vo).length:Int)=0:=by omega
   have hqq:(if cl=0 then s.fo else s.vo).length<qS c:=by omega
   generalize (if cl=0 then s.fo else s.fo++s.vo)=AH at *
   cases PD with
   | none =>
    simp only at hdp ⊢
    obtain ⟨bal,st,slz,rq,ex,wd,dl⟩:=v
    simp only at hdp hac hb0 hble
    ((refine zGo Tryz.func130 ?_;intro G w M a F))
    (try refine zI zk130 F M ?_;clear F M a;try clear w);(repeat'(first|refine zA ?_;repeat intro nb|refine zC ?_;(first|refine kp (k:=43) (hck _) ?_|refine kpW (k:=86) (efail_spec _ _) ?_|refine kpW (k:=129) (edone_spec _ _ _) ?_|refine kp (k:=58) (hg _) ?_|refine kpW (k:=188) (hac _) ?_|refine kp (k:=132) (hfr _) ?_|refine acK (k:=175) (htb _) ?_;rintro u L' ⟨hw,rfl,rfl⟩|refine acK (k:=190) (hla _) ?_;rintro u L' ⟨hd,rfl,rfl⟩|refine acW (k:=189) (hws _ _ _ ?_ ?_) ?_;exact gs_own pullA;exact gs_own pullA;rintro u L' ⟨rfl,rfl⟩|refine kpW (k:=191) (hdp _) ?_)|refine zB ?_ ?_<;>intro hc<;>try exact no hc|refine zH ?_ ?_<;>(intro hg;rw[hg];try exact no hg)));all_goals exact zXz
   | some t =>
    have ht:=hprg t rfl
    simp only at hdp ⊢
    have hch:=fun R=>tchange_spec H.rg c.capacity s.V R i v {v with rq:=epo c s,st:=3,dl:=t} hv hl3 ⟨⟨by simp,by simp⟩,⟨by omega,by omega⟩⟩ hb0 hb0 ⟨hble,by omega,by simp only;omega⟩
    have hpu:∀ R,Spec 135 [ptr H.ln,.int .i64 cl,.int .i64 i] (lnP H.ln H.r0 H.r1 (qS c) s.fo s.vo R) fun u L'=>u=.int .i64 0∧L'=lnP H.ln H.r0 H.r1 (qS c) (if cl=0 then s.fo++[i] else s.fo) (if cl=0 then s.vo else s.vo++[i]) R:=fun R=>by
     rcases (by omega:cl=0∨cl=1) with rfl|rfl
     ·exact lpush0 H.ln H.r0 H.r1 (qS c) s.fo s.vo R i hqq hsz
     ·exact lpush1 H.ln H.r0 H.r1 (qS c) s.fo s.vo R i hqq hsz
    obtain ⟨bal,st,slz,rq,ex,wd,dl⟩:=v
    simp only at hdp hac hb0 hble hch
    ((refine zGo Tryz.func130 ?_;intro G w M a F))
    (try refine zI zk130 F M ?_;clear F M a;try clear w);(repeat'(first|refine zA ?_;repeat intro nb|refine zC ?_;(first|refine kp (k:=43) (hck _) ?_|refine kpW (k:=86) (efail_spec _ _) ?_|refine kpW (k:=129) (edone_spec _ _ _) ?_|refine kp (k:=58) (hg _) ?_|refine kpW (k:=188) (hac _) ?_|refine kp (k:=132) (hfr _) ?_|refine acK (k:=175) (htb _) ?_;rintro u L' ⟨hw,rfl,rfl⟩|refine acK (k:=190) (hla _) ?_;rintro u L' ⟨hd,rfl,rfl⟩|refine acW (k:=189) (hws _ _ _ ?_ ?_) ?_;exact gs_own pullA;exact gs_own pullA;rintro u L' ⟨rfl,rfl⟩|refine kpW (k:=191) (hdp _) ?_|refine kp (k:=133) (hch _) ?_|refine kp (k:=135) (hpu _) ?_)|refine zB ?_ ?_<;>intro hc<;>try exact no hc|refine zH ?_ ?_<;>(intro hg;rw[hg];try exact no hg)));all_goals try refine zO fun a w F M=>?_
    all_goals refine zE F M ?_
    have e:engL b H c (if cl=0 then {s with V:=s.V.set i ⟨bal,3,slz,epo c s,ex,wd,t⟩,fo:=s.fo++[i]} else {s with V:=s.V.set i ⟨bal,3,slz,epo c s,ex,wd,t⟩,vo:=s.vo++[i]}) R=engL b H c {s with V:=s.V.set i ⟨bal,3,slz,epo c s,ex,wd,t⟩,fo:=if cl=0 then s.fo++[i] else s.fo,vo:=if cl=0 then s.vo else s.vo++[i]} R:=by
     rcases (by omega:cl=0∨cl=1) with rfl|rfl<;>rfl
    refine⟨_,_,rfl,⟨rfl,rfl⟩,?_⟩
    rw[e]
    exact M.perms permsA
 ·rw[if_neg hs] at hacc
  rw[hacc] at hac ⊢
  simp only[ne_eq,show ¬((8:Int)=0) by decide,not_false_eq_true,if_true] at hac ⊢
  ((refine zGo Tryz.func130 ?_;intro G w M a F))
  (try refine zI zk130 F M ?_;clear F M a;try clear w);(repeat'(first|refine zA ?_;repeat intro nb|refine zC ?_;(first|refine kp (k:=43) (hck _) ?_|refine kpW (k:=86) (efail_spec _ _) ?_|refine kpW (k:=129) (edone_spec _ _ _) ?_|refine kp (k:=58) (hg _) ?_|refine kpW (k:=188) (hac _) ?_)|refine zB ?_ ?_<;>intro hc<;>try exact no hc|refine zH ?_ ?_<;>(intro hg;rw[hg];try exact no hg)));all_goals exact zXz
end
end
section
open Go.RowKit
section
variable {o:Oper} {n:Nat} {l:List (Nat × Value)} {L:List Asn} {C:Value→List Asn→Prop}
theorem ac_callF {f:Operand} {xs:Array Operand} {ats:Array TypeId} (ho:o.op=.call {callee:=.value f,args:=xs,argTypes:=ats}) {k:FuncId} {fs caps:Array Value} (hf:evl l f=some (.func (.func k) fs caps)) (hfk:FK k)
  {vs us:List Value} (hx:evls l xs.toList=some vs) (hu:fs.toList++vs++caps.toList=us) (hs:Spec k us L C):AC o l L n C:=fun G a w F M=>by
 have e1:xs.map a.eval=vs.toArray:=by have:=F.evals hx;apply Array.toList_inj.1;simpa using this
 have hrun:(execOp a.eval o).run Tryz.prog w=.ok (.enter k us.toArray) w:=by
  unfold execOp
  rw[ho]
  rw[Sem.run_bind]
  simp only[resolve,F.eval hf,Deferred.ofValue,Sem.run_pure,Result.andThen_ok,invoke,e1]
  have:fs++vs.toArray++caps=us.toArray:=by rw[← hu];apply Array.toList_inj.1;simp
  rw[this]
  exact @run_callFunc k hfk _ w
 rw[hrun]
 exact(hs G w M).mono fun e w' ⟨v,L',he,hc,hm⟩=>⟨v,he,L',hc,hm⟩
theorem acF {f:Operand} {xs:Array Operand} {ats:Array TypeId} {k:FuncId} {fs caps:Array Value} {vs us:List Value} {L1:List Asn} {D:Value→List Asn→Prop} (hs:Spec k us L1 D) (hi:∀ v L',D v L'→C v L')
  (ho:o.op=.call {callee:=.value f,args:=xs,argTypes:=ats}:=by exact rfl) (hf:evl l f=some (.func (.func k) fs caps):=by exact rfl) (hfk:FK k:=by exact inferInstance) (hx:evls l xs.toList=some vs:=by exact rfl) (hu:fs.toList++vs++caps.toList=us:=by exact rfl) (hp:Perms L L1:=by exact permsA):AC o l L n C :=
 ac_callF ho hf hfk hx hu ((hs.mono hi).pre hp)
end
def hd1:List Nat→List Nat→Int
 | i::_,_=>i
 | [],i::_=>i
 | [],[]=>0
def hd2:List Nat→List Nat→Int
 | _::_,_=>0
 | [],_::_=>1
 | [],[]=>0
def hd3:List Nat→List Nat→Bool
 | _::_,_=>true
 | [],_::_=>true
 | [],[]=>false
theorem headL_eq (fo vo:List Nat):headL fo vo=[.int .i64 (hd1 fo vo),.int .i64 (hd2 fo vo),.bool (hd3 fo vo)]:=by
 cases fo with
 | cons i fo=>rfl
 | nil=>cases vo<;>rfl
theorem asgs_f (e:Int) (i:Nat) (f v:List Nat) (n:Nat):asgs e (i::f) v (n+1)=⟨i,0,e⟩::asgs e f v n:=by
 simp[asgs,Nat.add_sub_add_right]
theorem asgs_v (e:Int) (i:Nat) (v:List Nat) (n:Nat):asgs e [] (i::v) (n+1)=⟨i,1,e⟩::asgs e [] v n:=by
 simp[asgs]
theorem asgs_z (e:Int) (f v:List Nat):asgs e f v 0=[]:=by simp[asgs]
structure AsI (W:List Int) (e:Int) (fo vo:List Nat) (t:Nat × Int) (fo' vo':List Nat) (ca:Int) (out:List Asg):Prop where
 o:out++asgs e fo' vo' (takeW W ca (fo'++vo')).1=asgs e fo vo t.1
 f:fo'.drop (takeW W ca (fo'++vo')).1=fo.drop t.1
 v:vo'.drop ((takeW W ca (fo'++vo')).1 - fo'.length)=vo.drop (t.1 - fo.length)
 r:(takeW W ca (fo'++vo')).2=t.2
 e:(takeW W ca (fo'++vo')).1=(fo'++vo').length↔t.1=(fo++vo).length
theorem wAt_u64 {W:List Int} (hW:∀ x∈W,U64 x) (i:Nat):U64 (wAt W i):=by
 unfold wAt
 rw[List.getD_eq_getElem?_getD]
 cases hx:W[i]? with
 | none=>exact⟨by decide,by decide⟩
 | some x=>exact hW x (List.mem_of_getElem? hx)
section
variable (ln r0 r1 mt size:Nat) (W:List Int) (v:Value) (R:List Asn) (hg:GS R 1 v W.length (W.flatMap u64L)) (hW:∀ x∈W,U64 x) (fo vo:List Nat) (hf:fo.length≤4096) (hv:vo.length≤4096) (ca x ep:Int) (hca:U64 ca) (hx:0≤x) (hep:0≤ep∧ep≤1099511627776)
include hg hW hf hv hca hx hep
theorem astep_spec:Spec 265 [.int .i64 ep,ptr ln,ptr mt,.int .u64 x,v] (mtA mt ca::lnP ln r0 r1 size fo vo R) fun u L'=>∃ h,u=sl h∧L'=ownT 75 asgL 3 (sl h) (asgs (ep+1) fo vo (takeW W (granted ca x) (fo++vo)).1)::mtA mt (if (takeW W (granted ca x) (fo++vo)).1=(fo++vo).length then 0 else (takeW W (granted ca x) (fo++vo)).2)::lnP ln r0 r1 size (fo.drop (takeW W (granted ca x) (fo++vo)).1) (vo.drop ((takeW W (granted ca x) (fo++vo)).1 - fo.length)) R:=by
 have hgr:=fun R=>mt_grant mt ca R x hca hx
 rw[show ca+min x (18446744073709551615 - ca)=granted ca x from rfl] at hgr
 have hG1:U64 (granted ca x):=by have:=hca.1;have:=hca.2;unfold granted;exact⟨by omega,by omega⟩
 have hI:AsI W (ep+1) fo vo (takeW W (granted ca x) (fo++vo)) fo vo (granted ca x) []:=⟨by simp,rfl,rfl,rfl,Iff.rfl⟩
 generalize takeW W (granted ca x) (fo++vo)=T at *
 generalize granted ca x=g at *
 have hlh:=fun (f v:List Nat) R=>lhead ln r0 r1 size f v R
 simp only[headL_eq] at hlh
 refine zGo Tryz.func265 ?_;intro G w M a F
 have hG:GS (R++G) 1 v W.length (W.flatMap u64L):=Gives.app hg
 have M:=M.own_nil 75 3
 (try refine zI zk265 F M ?_;clear F M a;try clear w);(repeat'(first|refine zA ?_;repeat intro nb|refine zC ?_;(first|refine kp (k:=315) (hgr _) ?_|refine kp (k:=317) (hlh fo vo _) ?_)|refine zB ?_ ?_<;>intro hc<;>try exact no hc|refine zH ?_ ?_<;>(intro hg;rw[hg];try exact no hg)));all_goals try refine zO fun a w F M=>?_
 refine svLoop F M ((fo,vo,g,nilH,[]):List Nat × List Nat × Int × SlH × List Asg) (fun s=>[(13,.int .i64 (hd1 s.1 s.2.1)),(14,.int .i64 (hd2 s.1 s.2.1)),(15,.bool (hd3 s.1 s.2.1)),(12,sl s.2.2.2.1)]) (fun s=>[ownT 75 asgL 3 (sl s.2.2.2.1) s.2.2.2.2,mtA mt s.2.2.1,lnC ln r0 r1,rgnA r0 size s.1,rgnA r1 size s.2.1]) (fun s=>s.1.length+s.2.1.length+s.2.2.2.2.length≤8192∧U64 s.2.2.1∧AsI W (ep+1) fo vo T s.1 s.2.1 s.2.2.1 s.2.2.2.2) (fun s=>s.1.length+s.2.1.length) [] ⟨by simp;omega,hG1,hI⟩ ?_ (hR:=by(repeat (first|exact Pulls.nil|(apply Pulls.cons;(focus ((repeat (first|exact Pull.here|apply Pull.there));done))))))
 (rintro⟨f,vv,m,h,out⟩ ⟨q1,q2,q3⟩ a w F M;(try simp only[zc,zn] at F M q1 q2 q3 ⊢))
 obtain ⟨o1,o2,o3,o4,o5⟩:=q3
 have fin:∀ {w:World} {z:Int} {f2 v2:List Nat},f2=fo.drop T.1→v2=vo.drop (T.1 - fo.length)→out=asgs (ep+1) fo vo T.1→z=(if T.1=(fo++vo).length then 0 else T.2)→Mem w (ownT 75 asgL 3 (sl h) out::mtA mt z::lnP ln r0 r1 size f2 v2 (R++G))→Mem w (ownT 75 asgL 3 (sl h) (asgs (ep+1) fo vo T.1)::mtA mt (if T.1=(fo++vo).length then 0 else T.2)::lnP ln r0 r1 size (fo.drop T.1) (vo.drop (T.1 - fo.length)) (R++G)):=by
  intro w z f2 v2 e1 e2 e3 e4 M
  subst e1;subst e2;rw[← e3,← e4];exact M
 have wsp:=fun (i:Nat) (R:List Asn) hg=>weight_spec W v R hg i
 have tsp:=fun (y:Int) (hy:U64 y) R=>mt_take mt m R y q2 hy
 cases f with
 | cons i f =>
  have hwu:=wAt_u64 hW i
  have ts:=fun R=>tsp _ hwu R
  have ws:=fun R hg=>wsp i R hg
  have hlf:=fun R=>hlh f vv R
  have e1:hd1 (i::f) vv=i:=rfl
  have e2:hd2 (i::f) vv=0:=rfl
  have e3:hd3 (i::f) vv=true:=rfl
  simp only[e1,e2,e3] at F
  rw[zc,takeW] at o1 o2 o3 o4 o5
  by_cases hle:wAt W i≤m
  ·simp only[hle,if_true,decide_true] at ts o1 o2 o3 o4 o5
   generalize wAt W i=z at *
   (try refine zI zk265 F M ?_;clear F M a;try clear w);(repeat'(first|refine zA ?_;repeat intro nb|refine zC ?_;(first|refine acW (k:=281) (ws _ ?_) ?_;exact gsA;rintro u L' ⟨rfl,rfl⟩|refine acF (k:=316) (ts _) ?_;rintro u L' ⟨rfl,rfl⟩|refine kp (k:=318) (lpop0 ln r0 r1 size f vv _ i) ?_|refine kp (k:=317) (hlf _) ?_|refine ac_appendH (f:=asgL) (xs:=out) (ys:=[⟨(i:Int),0,ep+1⟩]) rfl rfl inferInstance rfl rfl pullA inferInstance gsA rfl rfl (by simp;omega) ?_;intro nv)|refine zB ?_ ?_<;>intro hc<;>try exact no hc|refine zH ?_ ?_<;>(intro hg;rw[hg];try exact no hg)));all_goals try refine zO fun a w F M=>?_
   refine sv_again F M (f,vv,m - z,nv,_) kpA permsA ⟨by simp at q1 ⊢;omega,⟨by simp only;omega,by have:=q2.2;have:=hwu.1;simp only;omega⟩,?_⟩ (by simp)
   exact⟨by rw[asgs_f] at o1;simpa using o1,by simpa using o2,by simpa using o3,o4,by simpa using o5⟩
  ·simp only[hle,if_false,decide_false] at ts o1 o2 o3 o4 o5
   (try refine zI zk265 F M ?_;clear F M a;try clear w);(repeat'(first|refine zA ?_;repeat intro nb|refine zC ?_;(first|refine acW (k:=281) (ws _ ?_) ?_;exact gsA;rintro u L' ⟨rfl,rfl⟩|refine acF (k:=316) (ts _) ?_;rintro u L' ⟨rfl,rfl⟩)|refine zB ?_ ?_<;>intro hc<;>try exact no hc|refine zH ?_ ?_<;>(intro hg;rw[hg];try exact no hg)));all_goals try refine zO fun a w F M=>?_
   all_goals refine zE F M ?_
   refine⟨_,_,rfl,⟨h,rfl,rfl⟩,fin ?_ ?_ ?_ ?_ (M.perms permsA)⟩
   ·simpa using o2
   ·simpa using o3
   ·simpa[asgs_z] using o1
   ·rw[if_neg (by intro e;have:=o5.2 e;simp at this)];exact o4
 | nil =>
  cases vv with
  | cons i vv =>
   have hwu:=wAt_u64 hW i
   have ts:=fun R=>tsp _ hwu R
   have ws:=fun R hg=>wsp i R hg
   have hlf:=fun R=>hlh [] vv R
   have e1:hd1 [] (i::vv)=i:=rfl
   have e2:hd2 [] (i::vv)=1:=rfl
   have e3:hd3 [] (i::vv)=true:=rfl
   simp only[e1,e2,e3] at F
   rw[zn,takeW] at o1 o2 o3 o4 o5
   by_cases hle:wAt W i≤m
   ·simp only[hle,if_true,decide_true] at ts o1 o2 o3 o4 o5
    generalize wAt W i=z at *
    (try refine zI zk265 F M ?_;clear F M a;try clear w);(repeat'(first|refine zA ?_;repeat intro nb|refine zC ?_;(first|refine acW (k:=281) (ws _ ?_) ?_;exact gsA;rintro u L' ⟨rfl,rfl⟩|refine acF (k:=316) (ts _) ?_;rintro u L' ⟨rfl,rfl⟩|refine kp (k:=318) (lpop1 ln r0 r1 size vv _ i) ?_|refine kp (k:=317) (hlf _) ?_|refine ac_appendH (f:=asgL) (xs:=out) (ys:=[⟨(i:Int),1,ep+1⟩]) rfl rfl inferInstance rfl rfl pullA inferInstance gsA rfl rfl (by simp;omega) ?_;intro nv)|refine zB ?_ ?_<;>intro hc<;>try exact no hc|refine zH ?_ ?_<;>(intro hg;rw[hg];try exact no hg)));all_goals try refine zO fun a w F M=>?_
    refine sv_again F M ([],vv,m - z,nv,_) kpA permsA ⟨by simp at q1 ⊢;omega,⟨by simp only;omega,by have:=q2.2;have:=hwu.1;simp only;omega⟩,?_⟩ (by simp)
    exact⟨by rw[asgs_v] at o1;simpa using o1,by simpa using o2,by simpa using o3,o4,by simpa using o5⟩
   ·simp only[hle,if_false,decide_false] at ts o1 o2 o3 o4 o5
    (try refine zI zk265 F M ?_;clear F M a;try clear w);(repeat'(first|refine zA ?_;repeat intro nb|refine zC ?_;(first|refine acW (k:=281) (ws _ ?_) ?_;exact gsA;rintro u L' ⟨rfl,rfl⟩|refine acF (k:=316) (ts _) ?_;rintro u L' ⟨rfl,rfl⟩)|refine zB ?_ ?_<;>intro hc<;>try exact no hc|refine zH ?_ ?_<;>(intro hg;rw[hg];try exact no hg)));all_goals try refine zO fun a w F M=>?_
    all_goals refine zE F M ?_
    refine⟨_,_,rfl,⟨h,rfl,rfl⟩,fin ?_ ?_ ?_ ?_ (M.perms permsA)⟩
    ·simpa using o2
    ·simpa using o3
    ·simpa[asgs_z] using o1
    ·rw[if_neg (by intro e;have:=o5.2 e;simp at this)];exact o4
  | nil =>
   have e3:hd3 [] []=false:=rfl
   simp only[e3] at F
   rw[zn,takeW] at o1 o2 o3 o4 o5
   (try refine zI zk265 F M ?_;clear F M a;try clear w);(repeat'(first|refine zA ?_;repeat intro nb|refine zC ?_;refine kp (k:=319) (mt_drop mt m _ q2) ?_|refine zB ?_ ?_<;>intro hc<;>try exact no hc|refine zH ?_ ?_<;>(intro hg;rw[hg];try exact no hg)));all_goals try refine zO fun a w F M=>?_
   all_goals refine zE F M ?_
   refine⟨_,_,rfl,⟨h,rfl,rfl⟩,fin ?_ ?_ ?_ ?_ (M.perms permsA)⟩
   ·simpa using o2
   ·simpa using o3
   ·simpa[asgs_z] using o1
   ·rw[if_pos (o5.1 rfl)]
end
end
end Go.Proofs.YtjbfcacmdahnhaaGreat
