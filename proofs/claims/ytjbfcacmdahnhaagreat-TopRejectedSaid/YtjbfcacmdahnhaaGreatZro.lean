import Derived.Test.YtjbfcacmdahnhaaGreatZrn
set_option linter.unusedVariables false
set_option linter.unusedSimpArgs false
set_option linter.unusedSectionVars false
set_option maxRecDepth 100000
set_option maxHeartbeats 8000000
namespace Go.Proofs.YtjbfcacmdahnhaaGreat
section
open Go.RowKit
theorem satGo_sum:∀ (l:List Int) (n:Int),n≤18446744073709551615→(∀ z∈l,0≤z)→satGo n l=if 18446744073709551615<n+l.sum then (18446744073709551615,true) else (n+l.sum,false)
 | [],n,h,_=>by rw[satGo,List.sum_nil,Int.add_zero,if_neg (by omega)]
 | x::r,n,h,hl=>by
  have hs:=sum_nonneg r fun z hz=>hl z (by simp[hz])
  rw[satGo,List.sum_cons]
  by_cases h1:18446744073709551615<n+x
  ·rw[if_pos h1,if_pos (by omega)]
  ·rw[if_neg h1,satGo_sum r _ (by omega) (fun z hz=>hl z (by simp[hz])),Int.add_assoc]
theorem addR_sum (l:List Int) (h:∀ z∈l,0≤z):addR l=if 18446744073709551615<l.sum then (0,false) else (l.sum,true):=by
 rw[addR,satGo_sum l 0 (by omega) h,Int.zero_add]
 split<;>simp
section
variable (R:List Asn)
theorem next_spec (s e:Int) (hs:(Lit.int .i64 s).wf=true) (he:(Lit.int .i64 e).wf=true):Spec 263 [.int .i64 s,.int .i64 e] R fun u L'=>u=.tuple [.int .i64 (nextF s e),.bool (nextF s e != 0)].toArray∧L'=R:=Spec.of_below (fun w=>next_status s e hs he w) ⟨rfl,rfl⟩
theorem ceilD_one {a d:Int} (h:1≤a) (hd:1≤d):(a - 1) / d+1=ceilD a d:=by
 unfold ceilD
 rw[show a+d - 1=(a - 1)+1*d by omega,Int.add_mul_ediv_right _ _ (by omega)]
theorem ceilD_range {a d:Int} (h:0≤a) (hd:1≤d):0≤ceilD a d∧ceilD a d≤a:=by
 by_cases h1:a=0
 ·subst h1
  unfold ceilD
  rw[Int.ediv_eq_zero_of_lt (by omega) (by omega)];omega
 ·rw[← ceilD_one (by omega) hd]
  have h2:0≤(a - 1) / d:=Int.ediv_nonneg (by omega) (by omega)
  have h3:(a - 1) / d≤a - 1:=Int.ediv_le_self _ (by omega)
  omega
theorem gceil_spec (a d:Int) (ha:U64 a) (hd:1≤d):Spec 357 [.int .u64 a,.int .u64 d] R fun u L'=>u=.tuple [.int .u64 (ceilD a d),.bool true].toArray∧L'=R:=by
 have h1:=ha.1;have h2:=ha.2
 have hr:=ceilD_range h1 hd
 by_cases h0:a=0
 ·subst h0
  have e0:ceilD 0 d=0:=by omega
  refine zGz zk357 Tryz.func357 ?_;intro G;(repeat'(first|refine zA ?_;repeat intro nb|refine zB ?_ ?_<;>intro hc<;>try exact no hc|refine zH ?_ ?_<;>(intro hg;rw[hg];try exact no hg)));all_goals try refine zO fun a w F M=>?_
  all_goals refine zE F M ?_
  all_goals exact⟨_,_,rfl,⟨by rw[e0];rfl,rfl⟩,M.perms permsA⟩
 ·have e1:=ceilD_one (show 1≤a by omega) hd
  have h3:0≤(a - 1) / d:=Int.ediv_nonneg (by omega) (by omega)
  have hw:IntKind.u64.wrap ((a - 1) / d)=(a - 1) / d:=u64_wrap_id ⟨h3,by omega⟩
  refine zGz zk357 Tryz.func357 ?_;intro G;(repeat'(first|refine zA ?_;repeat intro nb|refine zB ?_ ?_<;>intro hc<;>try exact no hc|refine zH ?_ ?_<;>(intro hg;rw[hg];try exact no hg)));all_goals try refine zO fun a w F M=>?_
  all_goals refine zE F M ?_
  all_goals exact⟨_,_,rfl,⟨by rw[← e1];rfl,rfl⟩,M.perms permsA⟩
theorem epochs_spec (x d:Int) (hx:U64 x) (hd:1≤d):Spec 352 [.int .u64 x,.int .u64 d] R fun u L'=>u=(if 1099511627776<ceilD x d then .tuple [.int .i64 0,.bool false].toArray else .tuple [.int .i64 (ceilD x d),.bool true].toArray)∧L'=R:=by
 have hr:=ceilD_range hx.1 hd
 by_cases h:1099511627776<ceilD x d
 ·rw[if_pos h]
  refine zGz zk352 Tryz.func352 ?_;intro G;(repeat'(first|refine zA ?_;repeat intro nb|refine zC ?_;refine kpW (k:=357) (gceil_spec _ x d hx hd) ?_|refine zB ?_ ?_<;>intro hc<;>try exact no hc|refine zH ?_ ?_<;>(intro hg;rw[hg];try exact no hg)));all_goals exact zXz
 ·rw[if_neg h]
  have hw:IntKind.i64.wrap (ceilD x d)=ceilD x d:=IntWalk.i64_in _ ⟨by omega,by omega⟩
  refine zGz zk352 Tryz.func352 ?_;intro G;(repeat'(first|refine zA ?_;repeat intro nb|refine zC ?_;refine kpW (k:=357) (gceil_spec _ x d hx hd) ?_|refine zB ?_ ?_<;>intro hc<;>try exact no hc|refine zH ?_ ?_<;>(intro hg;rw[hg];try exact no hg)));all_goals exact zXz
theorem churn_spec (x m q:Int) (hx:U64 x) (hq:1≤q):Spec 172 [.int .u64 x,.int .u64 m,.int .u64 q] R fun u L'=>u=.int .u64 (max m (x / q))∧L'=R:=by
 have h3:0≤x / q:=Int.ediv_nonneg hx.1 (by omega)
 have h4:x / q≤x:=Int.ediv_le_self _ hx.1
 have hx2:=hx.2
 have hw:IntKind.u64.wrap (x / q)=x / q:=u64_wrap_id ⟨h3,by omega⟩
 refine zGz zk172 Tryz.func172 ?_;intro G;(repeat'(first|refine zV (h:=⟨_,by((apply rt_max2;(exact rfl);(exact rfl);((show _=max m (x / q);split<;>omega)))),?_⟩)|refine zA1 ?_;repeat intro(nb:Nat)|refine zB ?_ ?_<;>intro hc<;>try exact no hc|refine zH ?_ ?_<;>(intro hg;rw[hg];try exact no hg)));all_goals try refine zO fun a w F M=>?_
 all_goals refine zE F M ?_
 all_goals exact⟨_,_,rfl,⟨rfl,rfl⟩,M.perms permsA⟩
end
end
section
open Go.RowKit
section
variable {o:Oper} {n:Nat} {l:List (Nat × Value)} {L:List Asn}
end
def pBond (v:Val):Bool:=decide (v.st=4) || decide (v.st=3) && decide (v.ex≠-1)
theorem filter_succ (f:Nat→Bool) (n:Nat):((List.range (n+1)).filter f).length=(if f 0=true then 1 else 0)+((List.range n).filter fun i=>f (i+1)).length:=by
 rw[List.range_succ_eq_map,List.filter_cons,List.filter_map]
 split
 ·rw[List.length_cons,List.length_map];exact Nat.add_comm _ _
 ·rw[List.length_map,Nat.zero_add];rfl
theorem filter_idx (p:Val→Bool):∀ (V:List Val),(V.filter p).length=((List.range V.length).filter fun i=>match V[i]? with|some v=>p v|none=>false).length
 | []=>rfl
 | v::V=>by
  rw[List.length_cons,filter_succ,List.filter_cons]
  have ih:=filter_idx p V
  have e:(fun i=>match (v::V)[i+1]? with|some v=>p v|none=>false)=fun i=>match V[i]? with|some v=>p v|none=>false:=by
   funext i;simp
  rw[e,← ih]
  cases hp:p v<;>simp[hp];omega
theorem ix_count {p:Val→Bool} {P:Val→Prop} {V:List Val} {l:List Nat} (h:Ix V P l) (hp:∀ v,p v=true↔P v):(V.filter p).length=l.length:=by
 rw[filter_idx]
 refine List.Perm.length_eq ?_
 refine(List.perm_ext_iff_of_nodup (List.nodup_range.sublist List.filter_sublist) h.nd).2 fun i=>?_
 rw[List.mem_filter,List.mem_range,h.mem]
 constructor
 ·rintro⟨h1,h2⟩
  rw[List.getElem?_eq_getElem h1] at h2 ⊢
  exact⟨_,rfl,(hp _).1 h2⟩
 ·rintro⟨v,h1,h2⟩
  refine⟨(List.getElem?_eq_some_iff.1 h1).1,?_⟩
  rw[h1];exact(hp v).2 h2
theorem pBond_iff (v:Val):pBond v=true↔bond' v:=by simp[pBond,bond']
theorem rlive_spec (s:Int) (R:List Asn):Spec 120 [.int .i64 s] R fun u L'=>u=.bool (decide (s=2) || decide (s=3))∧L'=R:=by
 refine zGz zk120 Tryz.func120 ?_;intro G;(repeat'(first|refine zA ?_;repeat intro nb|refine zB ?_ ?_<;>intro hc<;>try exact no hc|refine zH ?_ ?_<;>(intro hg;rw[hg];try exact no hg)));all_goals try refine zO fun a w F M=>?_
 all_goals refine zE F M ?_
 all_goals exact⟨_,_,rfl,⟨by simp_all [tupOf],rfl⟩,M.perms permsA⟩
section
variable (V:List Val) (v:Value) (R:List Asn) (hg:GS R 7 v V.length (V.flatMap valL)) (hlen:V.length≤1000000)
include hg hlen
theorem rbals_spec:Spec 212 [v] R fun u L'=>∃ h,u=sl h∧L'=ownT 22 u64L 1 (sl h) (bals V)::R:=by
 have hbl:(bals V).length=V.length:=by simp[bals]
 refine zGo Tryz.func212 ?_;intro G w M a F
 have hG:GS (R++G) 7 v V.length (V.flatMap valL):=Gives.app hg
 have M:=M.own_nil 22 1
 (try refine zI zk212 F M ?_;clear F M a;try clear w);(repeat'(first|refine zA ?_;repeat intro nb|refine zB ?_ ?_<;>intro hc<;>try exact no hc|refine zH ?_ ?_<;>(intro hg;rw[hg];try exact no hg)));all_goals try refine zO fun a w F M=>?_
 refine svLoop F M ((0,nilH):Nat × SlH) (fun s=>[(4,.int .i64 s.1),(3,sl s.2)]) (fun s=>[ownT 22 u64L 1 (sl s.2) ((bals V).take s.1)]) (fun s=>s.1≤V.length) (fun s=>V.length - s.1) [] (Nat.zero_le _) ?_ (hR:=by simp only[List.take_zero];(repeat (first|exact Pulls.nil|(apply Pulls.cons;(focus ((repeat (first|exact Pull.here|apply Pull.there));done))))))
 (rintro⟨k,h⟩ q1 a w F M;(try simp only[zc,zn] at F M q1 ⊢))
 by_cases hlt:k<V.length
 ·obtain ⟨x,hx⟩:∃ x,V[k]? = some x:=⟨V[k],by simp[hlt]⟩
  have ht:(bals V).take (k+1)=(bals V).take k++[x.bal]:=by rw[List.take_add_one,bals_get hx];rfl
  have htl:((bals V).take k).length≤1000000:=by rw[List.length_take];omega
  (try refine zI zk212 F M ?_;clear F M a;try clear w);(repeat'(first|refine zA ?_;repeat intro nb|refine zC ?_;refine ac_appendH rfl rfl inferInstance rfl rfl pullA inferInstance (ys:=[x.bal]) gsA rfl rfl (by simp;omega) ?_;intro nv|refine zB ?_ ?_<;>intro hc<;>try exact no hc|refine zH ?_ ?_<;>(intro hg;rw[hg];try exact no hg)));all_goals try refine zO fun a w F M=>?_
  rw[← ht] at M
  refine sv_again F M (k+1,nv) kpA permsA (by simp only;omega) (by simp only;omega)
 ·obtain rfl:k=V.length:=by omega
  rw[List.take_of_length_le (by omega)] at M
  (try refine zI zk212 F M ?_;clear F M a;try clear w);(repeat'(first|refine zA ?_;repeat intro nb|refine zB ?_ ?_<;>intro hc<;>try exact no hc|refine zH ?_ ?_<;>(intro hg;rw[hg];try exact no hg)));all_goals try refine zO fun a w F M=>?_
  (all_goals(refine zE F M ?_;exact⟨_,_,rfl,⟨h,rfl,rfl⟩,M.perms permsA⟩))
end
end
section
open Go.RowKit
abbrev cfgSh:Sh:=.agg [.int .i64,.int .i64,.int .u64,.int .u64,.int .u64,.int .u64,.int .u64,.int .u64,.int .u64,.int .u64,.int .i64,.int .i64,.int .i64,.int .i64,.int .i64,.int .i64,.int .i64,.int .i64,.int .u64,.int .u64]
theorem cfg_of_sh {w:World} {l:List Value} (h:HasSh w cfgSh l):∃ c:Cfg,l=cfgL c∧c.wf:=by
 obtain ⟨c0,r0,rfl,h0,h⟩:=shb_cons h
 obtain ⟨c1,r1,rfl,h1,h⟩:=shb_cons h
 obtain ⟨c2,r2,rfl,h2,h⟩:=shb_cons h
 obtain ⟨c3,r3,rfl,h3,h⟩:=shb_cons h
 obtain ⟨c4,r4,rfl,h4,h⟩:=shb_cons h
 obtain ⟨c5,r5,rfl,h5,h⟩:=shb_cons h
 obtain ⟨c6,r6,rfl,h6,h⟩:=shb_cons h
 obtain ⟨c7,r7,rfl,h7,h⟩:=shb_cons h
 obtain ⟨c8,r8,rfl,h8,h⟩:=shb_cons h
 obtain ⟨c9,r9,rfl,h9,h⟩:=shb_cons h
 obtain ⟨c10,r10,rfl,h10,h⟩:=shb_cons h
 obtain ⟨c11,r11,rfl,h11,h⟩:=shb_cons h
 obtain ⟨c12,r12,rfl,h12,h⟩:=shb_cons h
 obtain ⟨c13,r13,rfl,h13,h⟩:=shb_cons h
 obtain ⟨c14,r14,rfl,h14,h⟩:=shb_cons h
 obtain ⟨c15,r15,rfl,h15,h⟩:=shb_cons h
 obtain ⟨c16,r16,rfl,h16,h⟩:=shb_cons h
 obtain ⟨c17,r17,rfl,h17,h⟩:=shb_cons h
 obtain ⟨c18,r18,rfl,h18,h⟩:=shb_cons h
 obtain ⟨c19,r19,rfl,h19,h⟩:=shb_cons h
 obtain rfl:=shb_nil h
 obtain ⟨n0,rfl,w0⟩:=shb_int h0
 obtain ⟨n1,rfl,w1⟩:=shb_int h1
 obtain ⟨n2,rfl,w2⟩:=shb_int h2
 obtain ⟨n3,rfl,w3⟩:=shb_int h3
 obtain ⟨n4,rfl,w4⟩:=shb_int h4
 obtain ⟨n5,rfl,w5⟩:=shb_int h5
 obtain ⟨n6,rfl,w6⟩:=shb_int h6
 obtain ⟨n7,rfl,w7⟩:=shb_int h7
 obtain ⟨n8,rfl,w8⟩:=shb_int h8
 obtain ⟨n9,rfl,w9⟩:=shb_int h9
 obtain ⟨n10,rfl,w10⟩:=shb_int h10
 obtain ⟨n11,rfl,w11⟩:=shb_int h11
 obtain ⟨n12,rfl,w12⟩:=shb_int h12
 obtain ⟨n13,rfl,w13⟩:=shb_int h13
 obtain ⟨n14,rfl,w14⟩:=shb_int h14
 obtain ⟨n15,rfl,w15⟩:=shb_int h15
 obtain ⟨n16,rfl,w16⟩:=shb_int h16
 obtain ⟨n17,rfl,w17⟩:=shb_int h17
 obtain ⟨n18,rfl,w18⟩:=shb_int h18
 obtain ⟨n19,rfl,w19⟩:=shb_int h19
 refine⟨⟨n0,n1,n2,n3,n4,n5,n6,n7,n8,n9,n10,n11,n12,n13,n14,n15,n16,n17,n18,n19⟩,rfl,?_,?_⟩
 ·simp only[Cfg.ints,List.mem_cons,List.not_mem_nil,or_false]
  rintro x (rfl|rfl|rfl|rfl|rfl|rfl|rfl|rfl|rfl|rfl)<;>assumption
 ·simp only[Cfg.amounts,List.mem_cons,List.not_mem_nil,or_false]
  rintro x (rfl|rfl|rfl|rfl|rfl|rfl|rfl|rfl|rfl|rfl)<;>exact u64_wf (by assumption)
theorem law_old {k:FuncId} {us:List Value} {w:World} (h:Spec k us [Old w] fun u L'=>u=.bool true∧L'=[Old w]):Calls Tryz.prog k us.toArray w fun e w'=>e=.returned (.bool true)∧Below w.heap.size w w':=by
 refine(h [] w (Mem.old w)).mono ?_
 rintro e w' ⟨u,L',rfl,⟨rfl,rfl⟩,M⟩
 exact⟨rfl,M.below .here⟩
abbrev oprSh:Sh:=.agg [.int .i64,.int .i64,.int .i64,.int .u64]
theorem cfg_ops {w:World} {ks:Array Value} (hk:HasSh w cfgSh ks.toList):∃ c:Cfg,ks=(cfgL c).toArray∧0≤c.forcedCap∧0≤c.penNum:=by
 obtain ⟨c,e2,hc⟩:=cfg_of_sh hk
 obtain rfl:=arr_eq e2
 exact⟨c,rfl,(hc.2 c.forcedCap (by simp[Cfg.amounts])).1,(hc.2 c.penNum (by simp[Cfg.amounts])).1⟩
theorem ops_sh {w:World} {v:Value} (hv:HasSh w (.slice 4 oprSh) [v]):∃ l:List Opn,GS [Old w] 4 v l.length (l.flatMap opL)∧∀ o∈l,I64 o.k∧U64 o.am:=by
 obtain ⟨l,gl,hl⟩:=slice_of_sh (f:=opL) (fun cs h=>op_of_sh h) hv
 exact⟨l,gs_oldT gl .here,fun o ho=>⟨(hl o ho).1,(hl o ho).2.2.2⟩⟩
end
section
open Go.RowKit
def laterGo:Int→List Int→Int × Bool
 | s,[]=>(s,true)
 | s,n::t=>if n<0∨n>1099511627776 - s then (0,false) else laterGo (s+n) t
def laterF (a:Int) (l:List Int):Int:=(laterGo 0 (a::l)).1
def laterB (a:Int) (l:List Int):Bool:=(laterGo 0 (a::l)).2
theorem elemInt:ElemT Tryz.prog 44 3 (.int .i64 0) 1 8:=⟨Tryz.underlying44,by kernel_rfl,rfl,by decide⟩
theorem drop_get {zs:List Int} {k:Nat} (h:k<zs.length):zs.drop k=zs[k]::zs.drop (k+1):=List.drop_eq_getElem_cons h
theorem ret_ib {k:IntKind} {x y:Int} {p q:Bool} (h:x=y) (h':p=q):Ending.returned (.tuple #[.int k x,.bool p])=.returned (.tuple #[.int k y,.bool q]):=by rw[h,h']
theorem pair1 {α β:Type} {p:α × β} {a b:α} {c d:β} (h:p=(a,c)) (k:p=(b,d)):a=b:=by rw[h] at k;exact(Prod.mk.inj k).1
theorem pair2 {α β:Type} {p:α × β} {a b:α} {c d:β} (h:p=(a,c)) (k:p=(b,d)):c=d:=by rw[h] at k;exact(Prod.mk.inj k).2
set_option maxHeartbeats 1000000 in
theorem later_any (a:Int) (v:Value) (by':List Int) (w:World) (hv:SlR w 1 v by'.length (ints by')) (hl:by'.length≤1000000) (ha:-9223372036854775808≤a∧a≤9223372036854775807) (hr:∀ z∈by',-9223372036854775808≤z∧z≤9223372036854775807) :
  Calls Tryz.prog 280 #[.int .i64 a,v] w fun e w'=>e=.returned (.tuple #[.int .i64 (laterF a by'),.bool (laterB a by')])∧Below w.heap.size w w':=by
 have o0:(w.alloc (.cells #[.int .i64 a] 3)).ownsRow w.heap.size 3 1 (.slice (some ⟨w.heap.size,0,none⟩) 1 1) 1 [.int .i64 a]:=World.ownsRow_lit w #[.int .i64 a] 1 (Nat.le_refl _) (by decide) rfl
 have s0:=hv.below_all ((Below.refl w.heap.size w).alloc (Nat.le_refl _) (.cells #[.int .i64 a] 3))
 have c1:1+by'.length≤maxLen:=by unfold maxLen;omega
 have c2:(1+by'.length)*8≤140737488355328:=by omega
 have c3:w.heap.size≤(w.alloc (.cells #[.int .i64 a] 3)).heap.size:=by simp
 go_enter Tryz.func280,Tryz.ntmps280
 go_wp2_with (at_builtin;go_must (refine wpList_append_sl _ rfl _ _ _ rfl elemInt o0 rfl s0 rfl (ints_one by') c1 c2 c3 ?_);intro v1 w1 hown hgr _;have hs:=ownsRow_SlR hown;obtain ⟨b,off,cap,rfl,hb,hc⟩:=hs.openSome (by omega);clear o0 s0)
 have hcell:∀ j (h:j<(a::by').length),w1.cell? ⟨b,off+j,none⟩=some (.int .i64 (a::by')[j]):=fun j h=>hc j _ (by rw[show [Value.int .i64 a]++ints by'=ints (a::by') from rfl];exact ints_get h)
 have hbel:Below w.heap.size w w1:=((Below.refl _ _).alloc (Nat.le_refl _) _).grown hgr (by simp) (by simp[Value.ownBlock])
 have hfin:laterGo 0 (a::by')=(laterF a by',laterB a by'):=rfl
 have hlen:(a::by').length=1+by'.length:=by simp;omega
 have hrng:∀ z∈a::by',-9223372036854775808≤z∧z≤9223372036854775807:=by
  intro z hz
  rcases List.mem_cons.1 hz with rfl|hz
  ·exact ha
  ·exact hr z hz
 have HF:=Lib.hid hfin
 have HL:=Lib.hid hlen
 have HR:=Lib.hid hrng
 clear hc hgr hs hown hfin hlen hrng hr hv
 generalize a::by'=zs at *
 go_loop [6,8,14] (fun s _ i=>∃ (k:Nat) (x:Int),k≤zs.length∧0≤x∧x≤1099511627776∧i=.int .i64 k∧s=.int .i64 x∧laterGo 0 zs=laterGo x (zs.drop k)) (fun _ _ i=>(zs.length - (intOf i).toNat))
 case atStart=>exact⟨0,0,by omega,by omega,by omega,rfl,rfl,rfl⟩
 case round =>
  obtain ⟨k,x,hk,hx0,hx1,rfl,rfl,hinv⟩:=hrel
  by_cases hlt:k<zs.length
  ·have hcl:=hcell k hlt
   have hz:=HR.out zs[k] (List.getElem_mem hlt)
   rw[drop_get hlt,laterGo] at hinv
   have hlt':k<1+by'.length:=by rw[← HL.out];exact hlt
   clear hcell
   generalize zs[k]=z at *
   by_cases h1:z<0
   ·rw[if_pos (.inl h1)] at hinv
    have HI:=Lib.hid hinv
    clear hinv
    go_wp2
    go_ret2
    exact⟨ret_ib (pair1 HI.out HF.out) (pair2 HI.out HF.out),hbel⟩
   ·by_cases h2:1099511627776 - x<z
    ·rw[if_pos (.inr h2)] at hinv
     have HI:=Lib.hid hinv
     clear hinv
     go_wp2
     go_ret2
     exact⟨ret_ib (pair1 HI.out HF.out) (pair2 HI.out HF.out),hbel⟩
    ·rw[if_neg (by omega)] at hinv
     have HI:=Lib.hid hinv
     clear hinv
     go_wp2
     go_round
     case rel=>exact⟨k+1,x+z,by omega,by omega,by omega,by go_num,rfl,HI.out⟩
     case measure=>simp[intOf];omega
  ·have hge:1+by'.length≤k:=by rw[← HL.out];omega
   rw[List.drop_of_length_le (by omega),laterGo] at hinv
   have HI:=Lib.hid hinv
   clear hinv hcell
   go_wp2
   go_ret2
   exact⟨ret_ib (pair1 HI.out HF.out) (pair2 HI.out HF.out),hbel⟩
def laterR (a:Int) (l:List Int):Int × Bool:=if a<0∨1099511627776<a then (0,false) else laterGo a l
theorem laterR_eq (a:Int) (l:List Int):laterR a l=laterGo 0 (a::l):=by
 unfold laterR
 rw[laterGo]
 by_cases h:a<0∨1099511627776<a
 ·rw[if_pos h,if_pos (by omega)]
 ·rw[if_neg h,if_neg (by omega),Int.zero_add]
end
section
open Go.RowKit
theorem nextF_wf (s e:Int):(Lit.int .i64 (nextF s e)).wf=true:=by
 have:0≤nextF s e∧nextF s e≤7:=by
  unfold nextF
  repeat' split
  all_goals omega
 exact wf_small _ (by omega) (by omega)
abbrev tbV (b:Nat):Value:=.agg [ptr b].toArray
section
variable (b:Nat) (cap:Int) (V:List Val) (R:List Asn)
theorem tchange_spec (i:Nat) (old v:Val) (hv:V[i]? = some old) (hl:V.length≤4096) (hst:I64 v.st∧I64 old.st) (ho:0≤old.bal) (hn:0≤v.bal) (hs:old.bal≤(bals V).sum∧(bals V).sum≤18446744073709551615∧(bals V).sum - old.bal+v.bal≤18446744073709551615):Spec 133 [tbV b,.int .i64 i,valV v] (regA b cap V::R) fun u L'=>u=.tuple #[]∧L'=regA b cap (V.set i v)::R:=by
 refine zGz zk133 Tryz.func133 ?_;intro G;(repeat'(first|refine zA ?_;repeat intro nb|refine zC ?_;refine kp (k:=198) (reg_set b cap V _ i old v hv hl hst ho hn hs) ?_|refine zB ?_ ?_<;>intro hc<;>try exact no hc|refine zH ?_ ?_<;>(intro hg;rw[hg];try exact no hg)));all_goals exact zXz
theorem tevent_spec (i:Nat) (v:Val) (e:Int) (hv:V[i]? = some v) (hl:V.length≤4096) (hst:1≤v.st∧v.st≤7) (he:1≤e∧e≤7) (hne:nextF v.st e≠0) (h0:∀ x∈bals V,0≤x) (hs:(bals V).sum≤18446744073709551615):Spec 170 [tbV b,.int .i64 i,.int .i64 e] (regA b cap V::R) fun u L'=>u=.bool true∧L'=regA b cap (V.set i {v with st:=nextF v.st e})::R:=by
 have hb:0≤v.bal:=h0 _ (List.mem_of_getElem? (bals_get hv))
 have hle:v.bal≤(bals V).sum:=sum_mem_le _ h0 _ (List.mem_of_getElem? (bals_get hv))
 have hx:=fun R=>next_spec R v.st e (wf_small _ (by omega) (by omega)) (wf_small _ (by omega) (by omega))
 have hd:(nextF v.st e != 0)=true:=by simpa using hne
 rw[hd] at hx
 have hwf:=nextF_wf v.st e
 have hst2:I64 (nextF v.st e):=i64_wf hwf
 have hch:=fun R=>tchange_spec b cap V R i v {v with st:=nextF v.st e} hv hl ⟨hst2,⟨by omega,by omega⟩⟩ hb hb ⟨hle,hs,by simp only;omega⟩
 obtain ⟨bal,st,slz,rq,ex,wd,dl⟩:=v
 simp only at hx hch hst
 refine zGz zk170 Tryz.func170 ?_;intro G;(repeat'(first|refine zA ?_;repeat intro nb|refine zC ?_;(first|refine kp (k:=58) (reg_get b cap V _ i _ hv hl) ?_|refine kpW (k:=263) (hx _) ?_|refine kp (k:=133) (hch _) ?_)|refine zB ?_ ?_<;>intro hc<;>try exact no hc|refine zH ?_ ?_<;>(intro hg;rw[hg];try exact no hg)));all_goals exact zXz
theorem bals_take {V:List Val} {k:Nat} {x:Val} (h:V[k]? = some x):(bals V).take (k+1)=(bals V).take k++[x.bal]:=by
 rw[List.take_add_one,bals_get h];rfl
theorem tbals_spec (hl:V.length≤4096):Spec 175 [tbV b] (regA b cap V::R) fun u L'=>∃ h,u=sl h∧L'=ownT 22 u64L 1 (sl h) (bals V)::regA b cap V::R:=by
 have hlen:(bals V).length=V.length:=by simp[bals]
 refine zGo Tryz.func175 ?_;intro G w M a F
 have M:=M.own_nil 22 1
 (try refine zI zk175 F M ?_;clear F M a;try clear w);(repeat'(first|refine zA ?_;repeat intro nb|refine zC ?_;refine acK (k:=44) (reg_all b cap V hl _) ?_;rintro u L' ⟨hv,rfl,rfl⟩|refine zB ?_ ?_<;>intro hc<;>try exact no hc|refine zH ?_ ?_<;>(intro hg;rw[hg];try exact no hg)));all_goals try refine zO fun a w F M=>?_
 refine svLoop F M ((0,nilH):Nat × SlH) (fun s=>[(10,.int .i64 s.1),(3,sl s.2)]) (fun s=>[ownT 22 u64L 1 (sl s.2) ((bals V).take s.1)]) (fun s=>s.1≤V.length) (fun s=>V.length - s.1) [5] (Nat.zero_le _) ?_ (hR:=by simp only[List.take_zero];(repeat (first|exact Pulls.nil|(apply Pulls.cons;(focus ((repeat (first|exact Pull.here|apply Pull.there));done))))))
 (rintro⟨k,h⟩ q1 a w F M;(try simp only[zc,zn] at F M q1 ⊢))
 by_cases hlt:k<V.length
 ·obtain ⟨x,hx⟩:∃ x,V[k]? = some x:=⟨V[k],by simp[hlt]⟩
  have ht:=bals_take hx
  have htl:((bals V).take k).length≤4096:=by rw[List.length_take];omega
  (try refine zI zk175 F M ?_;clear F M a;try clear w);(repeat'(first|refine zA ?_;repeat intro nb|refine zC ?_;refine ac_appendH rfl rfl inferInstance rfl rfl pullA inferInstance (ys:=[x.bal]) gsA rfl rfl (by simp;omega) ?_;intro nv|refine zB ?_ ?_<;>intro hc<;>try exact no hc|refine zH ?_ ?_<;>(intro hg;rw[hg];try exact no hg)));all_goals try refine zO fun a w F M=>?_
  rw[← ht] at M
  refine sv_again F M (k+1,nv) kpA permsA (by simp only;omega) (by simp only;omega)
 ·obtain rfl:k=V.length:=by omega
  rw[List.take_of_length_le (by omega)] at M
  (try refine zI zk175 F M ?_;clear F M a;try clear w);(repeat'(first|refine zA ?_;repeat intro nb|refine zB ?_ ?_<;>intro hc<;>try exact no hc|refine zH ?_ ?_<;>(intro hg;rw[hg];try exact no hg)));all_goals try refine zO fun a w F M=>?_
  (all_goals(refine zE F M ?_;exact⟨_,_,rfl,⟨h,rfl,rfl⟩,M.perms permsA⟩))
end
section
variable (W:List Int) (v:Value) (R:List Asn) (hg:GS R 1 v W.length (W.flatMap u64L))
include hg
theorem weight_spec (i:Nat):Spec 281 [v,.int .i64 i] R fun u L'=>u=.int .u64 (wAt W i)∧L'=R:=by
 have hwa:wAt W i=(W[i]?).getD 0:=by unfold wAt;rw[List.getD_eq_getElem?_getD]
 refine zGo Tryz.func281 ?_;intro G w M a F
 have hG:GS (R++G) 1 v W.length (W.flatMap u64L):=Gives.app hg
 by_cases hlt:i<W.length
 ·obtain ⟨x,hx⟩:∃ x,W[i]? = some x:=⟨W[i],by simp[hlt]⟩
  rw[hx] at hwa
  (try refine zI zk281 F M ?_;clear F M a;try clear w);(repeat'(first|refine zA ?_;repeat intro nb|refine zB ?_ ?_<;>intro hc<;>try exact no hc|refine zH ?_ ?_<;>(intro hg;rw[hg];try exact no hg)));all_goals try refine zO fun a w F M=>?_
  (all_goals(refine zE F M ?_;exact⟨_,_,rfl,⟨by rw[hwa];rfl,rfl⟩,M.perms permsA⟩))
 ·rw[List.getElem?_eq_none (by omega)] at hwa
  (try refine zI zk281 F M ?_;clear F M a;try clear w);(repeat'(first|refine zA ?_;repeat intro nb|refine zB ?_ ?_<;>intro hc<;>try exact no hc|refine zH ?_ ?_<;>(intro hg;rw[hg];try exact no hg)));all_goals try refine zO fun a w F M=>?_
  (all_goals(refine zE F M ?_;exact⟨_,_,rfl,⟨by rw[hwa];rfl,rfl⟩,M.perms permsA⟩))
theorem weights_spec (hW:∀ x∈W,U64 x) (l:List Nat) (vi:Value) (hi:GS R 1 vi l.length (l.flatMap natL)) (hl:l.length≤100000):Spec 189 [v,vi] R fun u L'=>u=.tuple [.int .u64 (addR (l.map (wAt W))).1,.bool (addR (l.map (wAt W))).2].toArray∧L'=R:=by
 have hww:∀ z∈l.map (wAt W),U64 z:=fun z hz=>by
  obtain ⟨i,_,rfl⟩:=List.mem_map.1 hz
  unfold wAt
  rw[List.getD_eq_getElem?_getD]
  cases hx:W[i]? with
  | none=>exact⟨by decide,by decide⟩
  | some x=>exact hW x (List.mem_of_getElem? hx)
 have ha:∀ {L:List Asn} {v:Value},GS L 1 v (l.map (wAt W)).length ((l.map (wAt W)).flatMap u64L)→Reads 185 [v] (.tuple [.int .u64 (addR (l.map (wAt W))).1,.bool (addR (l.map (wAt W))).2].toArray) L:=fun hg=>gadd_reads _ _ hww hg
 generalize addR (l.map (wAt W))=X at *
 obtain ⟨X1,X2⟩:=X
 refine zGo Tryz.func189 ?_;intro G w M a F
 have hG:GS (R++G) 1 v W.length (W.flatMap u64L):=Gives.app hg
 have hI:GS (R++G) 1 vi l.length (l.flatMap natL):=Gives.app hi
 have M:=M.own_nil 22 1
 (try refine zI zk189 F M ?_;clear F M a;try clear w);(repeat'(first|refine zA ?_;repeat intro nb|refine zB ?_ ?_<;>intro hc<;>try exact no hc|refine zH ?_ ?_<;>(intro hg;rw[hg];try exact no hg)));all_goals try refine zO fun a w F M=>?_
 refine svLoop F M ((0,nilH):Nat × SlH) (fun s=>[(11,.int .i64 s.1),(6,sl s.2)]) (fun s=>[ownT 22 u64L 1 (sl s.2) ((l.take s.1).map (wAt W))]) (fun s=>s.1≤l.length) (fun s=>l.length - s.1) [8] (Nat.zero_le _) ?_ (hR:=by simp only[List.take_zero,List.map_nil];(repeat (first|exact Pulls.nil|(apply Pulls.cons;(focus ((repeat (first|exact Pull.here|apply Pull.there));done))))))
 (rintro⟨k,h⟩ q1 a w F M;(try simp only[zc,zn] at F M q1 ⊢))
 by_cases hlt:k<l.length
 ·obtain ⟨x,hx⟩:∃ x,l[k]? = some x:=⟨l[k],by simp[hlt]⟩
  have ht:=take_map (f:=wAt W) hx
  have htl:((l.take k).map (wAt W)).length≤100000:=by rw[List.length_map,List.length_take];omega
  have hwt:=fun (R:List Asn) (hg:GS R 1 v W.length (W.flatMap u64L))=>weight_spec W v R hg x
  (try refine zI zk189 F M ?_;clear F M a;try clear w);(repeat'(first|refine zA ?_;repeat intro nb|refine zC ?_;(first|refine acW (k:=281) (hwt _ ?_) ?_;exact gsA;rintro u L' ⟨rfl,rfl⟩|refine ac_appendH rfl rfl inferInstance rfl rfl pullA inferInstance (ys:=[wAt W x]) gsA rfl rfl (by simp;omega) ?_;intro nv)|refine zB ?_ ?_<;>intro hc<;>try exact no hc|refine zH ?_ ?_<;>(intro hg;rw[hg];try exact no hg)));all_goals try refine zO fun a w F M=>?_
  rw[← ht] at M
  refine sv_again F M (k+1,nv) kpA permsA (by simp only;omega) (by simp only;omega)
 ·obtain rfl:k=l.length:=by omega
  rw[List.take_length] at M
  (try refine zI zk189 F M ?_;clear F M a;try clear w);(repeat'(first|refine zA ?_;repeat intro nb|refine zC ?_;refine acCall (k:=185) ?_;refine Spec.of_reads (ha (gs_own pullA)) rfl ?_|refine zB ?_ ?_<;>intro hc<;>try exact no hc|refine zH ?_ ?_<;>(intro hg;rw[hg];try exact no hg)));all_goals exact zXz
end
theorem ints_flat (l:List Int):ints l=l.flatMap intL:=by
 induction l with
 | nil=>rfl
 | cons x r ih=>simp only[ints,List.map_cons,List.flatMap_cons,intL,List.singleton_append] at ih ⊢;rw[ih]
theorem laterGo_sum:∀ (l:List Int) (s:Int),s≤1099511627776→(∀ z∈l,0≤z)→laterGo s l=if 1099511627776<s+l.sum then (0,false) else (s+l.sum,true)
 | [],s,h,_=>by rw[laterGo,List.sum_nil,Int.add_zero,if_neg (by omega)]
 | x::r,s,h,hl=>by
  have hs:=sum_nonneg r fun z hz=>hl z (by simp[hz])
  have hx:=hl x (by simp)
  rw[laterGo,List.sum_cons]
  by_cases h1:1099511627776<s+x
  ·rw[if_pos (by omega),if_pos (by omega)]
  ·rw[if_neg (by omega),laterGo_sum r _ (by omega) (fun z hz=>hl z (by simp[hz])),Int.add_assoc]
section
variable (R:List Asn)
theorem later_spec (a:Int) (v:Value) (l:List Int) (hg:GS R 1 v l.length (l.flatMap intL)) (hl:l.length≤1000000) (ha:I64 a) (hr:∀ z∈l,I64 z):Spec 280 [.int .i64 a,v] R fun u L'=>u=.tuple [.int .i64 (laterF a l),.bool (laterB a l)].toArray∧L'=R :=
 Spec.of_below_g (us':=[.int .i64 a,v]) (fun w h=>later_any a v l w (by rw[ints_flat];exact h) hl ha hr) hg rfl ⟨rfl,rfl⟩
variable (c:Cfg) (hc:CfOk c)
include hc
theorem swv_spec:Spec 353 [cfgV c] R fun u L'=>u=.int .i64 (c.visits - c.partials)∧L'=R:=by
 have h1:=hc.vi;have h2:=hc.pa
 refine zGz zk353 Tryz.func353 ?_;intro G;(repeat'(first|refine zA ?_;repeat intro nb|refine zB ?_ ?_<;>intro hc<;>try exact no hc|refine zH ?_ ?_<;>(intro hg;rw[hg];try exact no hg)));all_goals exact zXz
theorem swp_spec:Spec 354 [cfgV c] R fun u L'=>u=.int .i64 (c.payments - c.partials)∧L'=R:=by
 have h1:=hc.py;have h2:=hc.pa
 refine zGz zk354 Tryz.func354 ?_;intro G;(repeat'(first|refine zA ?_;repeat intro nb|refine zB ?_ ?_<;>intro hc<;>try exact no hc|refine zH ?_ ?_<;>(intro hg;rw[hg];try exact no hg)));all_goals exact zXz
theorem swb_spec:Spec 329 [cfgV c] R fun u L'=>u=.int .i64 ((c.capacity - 1) / (min (c.visits - c.partials) (c.payments - c.partials))+1)∧L'=R:=by
 have h1:=hc.vi;have h2:=hc.py;have h3:=hc.pa;have h4:=hc.ca
 obtain ⟨m,hm⟩:∃ m,min (c.visits - c.partials) (c.payments - c.partials)=m:=⟨_,rfl⟩
 have hmin:(if c.payments - c.partials<c.visits - c.partials then c.payments - c.partials else c.visits - c.partials)=m:=by split<;>omega
 have hm1:1≤m:=by omega
 have hd0:0≤(c.capacity - 1) / m:=Int.ediv_nonneg (by omega) (by omega)
 have hd1:(c.capacity - 1) / m≤c.capacity - 1:=Int.ediv_le_self _ (by omega)
 have hw:IntKind.i64.wrap ((c.capacity - 1) / m)=(c.capacity - 1) / m:=IntWalk.i64_in _ ⟨by omega,by omega⟩
 rw[hm]
 refine zGz zk329 Tryz.func329 ?_;intro G;(repeat'(first|refine zV (h:=⟨_,by((apply rt_min2;(exact rfl);(exact rfl);(exact hmin))),?_⟩)|refine zA1 ?_;repeat intro(nb:Nat)|refine zC ?_;(first|refine kpW (k:=353) (swv_spec _ c hc) ?_|refine kpW (k:=354) (swp_spec _ c hc) ?_)|refine zB ?_ ?_<;>intro hc<;>try exact no hc|refine zH ?_ ?_<;>(intro hg;rw[hg];try exact no hg)));all_goals exact zXz
theorem dsweep_spec:Spec 283 [cfgV c] R fun u L'=>u=.int .i64 (swpB c)∧L'=R:=by
 have h1:=hc.vi;have h2:=hc.py;have h3:=hc.pa;have h4:=hc.ca;have h5:=hc.el
 have hb:=fun R=>swb_spec R c hc
 unfold swpB
 obtain ⟨m,hm⟩:∃ m,min (c.visits - c.partials) (c.payments - c.partials)=m:=⟨_,rfl⟩
 rw[hm] at hb ⊢
 have hd0:0≤(c.capacity - 1) / m:=Int.ediv_nonneg (by omega) (by omega)
 have hd1:(c.capacity - 1) / m≤c.capacity - 1:=Int.ediv_le_self _ (by omega)
 generalize (c.capacity - 1) / m=n at *
 have hd2:0≤n / c.epochLen:=Int.ediv_nonneg (by omega) (by omega)
 have hd3:n / c.epochLen≤n:=Int.ediv_le_self _ (by omega)
 have hw:IntKind.i64.wrap ((n+1 - 1) / c.epochLen)=(n+1 - 1) / c.epochLen:=IntWalk.i64_in _ ⟨by rw[Int.add_sub_cancel];omega,by rw[Int.add_sub_cancel];omega⟩
 refine zGz zk283 Tryz.func283 ?_;intro G;(repeat'(first|refine zA ?_;repeat intro nb|refine zC ?_;refine kpW (k:=329) (hb _) ?_|refine zB ?_ ?_<;>intro hc<;>try exact no hc|refine zH ?_ ?_<;>(intro hg;rw[hg];try exact no hg)));all_goals try refine zO fun a w F M=>?_
 (all_goals(refine zE F M ?_;exact⟨_,_,rfl,⟨by rw[Int.add_sub_cancel];rfl,rfl⟩,M.perms permsA⟩))
def bndD (c:Cfg) (a x:Int):Option Int:=if 18446744073709551615<a+x+c.forcedCap then none else if 1099511627776<ceilD (a+x+c.forcedCap) c.minChurn then none else some (max (ceilD (a+x+c.forcedCap) c.minChurn) 1)
theorem bounds_spec (a x:Int) (ha:U64 a) (hx:U64 x):Spec 328 [.int .u64 a,.int .u64 x,cfgV c] R fun u L'=>u=(match bndD c a x with|none=>.tuple [.int .i64 0,.bool false].toArray|some k=>.tuple [.int .i64 k,.bool true].toArray)∧L'=R:=by
 have h1:=hc.fc;have h2:=hc.mc
 have a1:=ha.1;have a2:=ha.2;have x1:=hx.1;have x2:=hx.2
 have hadd:∀ {L:List Asn} {v:Value},GS L 1 v 3 ([a,x,c.forcedCap].flatMap u64L)→Reads 185 [v] (.tuple [.int .u64 (addR [a,x,c.forcedCap]).1,.bool (addR [a,x,c.forcedCap]).2].toArray) L:=fun hg=>gadd_reads _ [a,x,c.forcedCap] (by simp only[List.mem_cons,List.not_mem_nil,or_false];rintro z (rfl|rfl|rfl);exact ha;exact hx;exact⟨by omega,by omega⟩) hg
 have hsum:[a,x,c.forcedCap].sum=a+x+c.forcedCap:=by simp;omega
 rw[addR_sum _ (by simp only[List.mem_cons,List.not_mem_nil,or_false];rintro z (rfl|rfl|rfl)<;>omega),hsum] at hadd
 unfold bndD
 by_cases k1:18446744073709551615<a+x+c.forcedCap
 ·rw[if_pos k1] at hadd ⊢
  refine zGz zk328 Tryz.func328 ?_;intro G;(repeat'(first|refine zA ?_;repeat intro nb|refine zC ?_;refine acCall (k:=185) ?_;refine Spec.of_reads (hadd (gs_own pullA)) rfl ?_|refine zB ?_ ?_<;>intro hc<;>try exact no hc|refine zH ?_ ?_<;>(intro hg;rw[hg];try exact no hg)));all_goals exact zXz
 ·rw[if_neg k1] at hadd ⊢
  have he:=fun R=>epochs_spec R (a+x+c.forcedCap) c.minChurn ⟨by omega,by omega⟩ (by omega)
  have hr:=ceilD_range (a:=a+x+c.forcedCap) (d:=c.minChurn) (by omega) (by omega)
  generalize ceilD (a+x+c.forcedCap) c.minChurn=n at *
  by_cases k2:1099511627776<n
  ·rw[if_pos k2]
   simp only[k2,if_true] at he
   refine zGz zk328 Tryz.func328 ?_;intro G;(repeat'(first|refine zA ?_;repeat intro nb|refine zC ?_;(first|refine acCall (k:=185) ?_;refine Spec.of_reads (hadd (gs_own pullA)) rfl ?_|refine kpW (k:=352) (he _) ?_)|refine zB ?_ ?_<;>intro hc<;>try exact no hc|refine zH ?_ ?_<;>(intro hg;rw[hg];try exact no hg)));all_goals exact zXz
  ·rw[if_neg k2]
   simp only[k2,if_false] at he
   refine zGz zk328 Tryz.func328 ?_;intro G;(repeat'(first|refine zV (h:=⟨_,by((apply rt_max2;(exact rfl);(exact rfl);((show _=max n 1;split<;>omega)))),?_⟩)|refine zA1 ?_;repeat intro(nb:Nat)|refine zC ?_;(first|refine acCall (k:=185) ?_;refine Spec.of_reads (hadd (gs_own pullA)) rfl ?_|refine kpW (k:=352) (he _) ?_)|refine zB ?_ ?_<;>intro hc<;>try exact no hc|refine zH ?_ ?_<;>(intro hg;rw[hg];try exact no hg)));all_goals exact zXz
end
end
section
open Go.RowKit
section
variable {o:Oper} {n:Nat} {l:List (Nat × Value)} {L:List Asn}
theorem rt_idx1 {t:TypeId} {x y:Operand} (ho:o.op=.index t x y) {cs:List Value} (hx:evl l x=some (.agg cs.toArray)) {kd:IntKind} {j:Int} (hy:evl l y=some (.int kd j)) {len e size:Nat} (ht:AT t len e size) (hkt:KT e none) (h0:0≤j) (h1:j<len) {v:Value} (hd:cs[j.toNat*size]? = some v):RT o l L n v:=fun a w F M=>by
 obtain ⟨hu,hs⟩:=ht.k
 have hz:(sizeOf e).run Tryz.prog w=.ok size w:=by
  cases hi:Tryz.prog.info? e with
  | none=>rw[hi] at hs;cases hs
  | some ie =>
   rw[hi] at hs
   have hs:=Option.some.inj hs
   simp[sizeOf,typeInfo,hi,hs]
 unfold execOp
 rw[ho]
 have hr:(Instr.index t (.agg cs.toArray) (.int kd j)).run Tryz.prog w=.ok v w:=by
  simp[Instr.index,asIntOf,run_underlying hu w,h0,h1,hz,part,(run_isAgg (h:=hkt) w).1,hd]
 simp[F.eval hx,F.eval hy,hr]
end
def ckL (p:Nat × Int):List Value:=[fnV p.1,.int .i64 p.2]
instance:EL ckL 2:=⟨fun _=>rfl,fun x u h=>by simp[ckL] at h;rcases h with rfl|rfl<;>rfl⟩
def ckS:List (Nat × Int):=[(333,8),(334,9),(335,3)]
theorem checks_spec (R:List Asn):Spec 288 [] R fun u L'=>∃ h,u=sl h∧L'=ownT 390 ckL 2 (sl h) ckS::R:=by
 refine zGz zk288 Tryz.func288 ?_;intro G;(repeat'(first|refine zA ?_;repeat intro nb|refine zB ?_ ?_<;>intro hc<;>try exact no hc|refine zH ?_ ?_<;>(intro hg;rw[hg];try exact no hg)));all_goals try refine zO fun a w F M=>?_
 all_goals refine zE F M ?_
 exact⟨_,_,rfl,⟨⟨_,_,_⟩,rfl,rfl⟩,M⟩
section
variable (y1 y2:Val) (c:Cfg) (R:List Asn)
theorem mck1_spec:Spec 333 [valV y1,valV y2,cfgV c] R fun u L'=>u=.bool (decide (y1.st=2∧y2.st=2))∧L'=R:=by
 refine zGz zk333 Tryz.func333 ?_;intro G;(repeat'(first|refine zA ?_;repeat intro nb|refine zB ?_ ?_<;>intro hc<;>try exact no hc|refine zH ?_ ?_<;>(intro hg;rw[hg];try exact no hg)));all_goals try refine zO fun a w F M=>?_
 all_goals refine zE F M ?_
 all_goals exact⟨_,_,rfl,⟨by simp[tupOf],rfl⟩,M.perms permsA⟩
theorem mck2_spec:Spec 334 [valV y1,valV y2,cfgV c] R fun u L'=>u=.bool (!y1.sl && !y2.sl)∧L'=R:=by
 obtain ⟨bal,st,s,rq,ex,wd,dl⟩:=y1
 cases s
 ·refine zGz zk334 Tryz.func334 ?_;intro G;(repeat'(first|refine zA ?_;repeat intro nb|refine zB ?_ ?_<;>intro hc<;>try exact no hc|refine zH ?_ ?_<;>(intro hg;rw[hg];try exact no hg)));all_goals try refine zO fun a w F M=>?_
  all_goals refine zE F M ?_
  all_goals exact⟨_,_,rfl,⟨by simp[tupOf],rfl⟩,M.perms permsA⟩
 ·refine zGz zk334 Tryz.func334 ?_;intro G;(repeat'(first|refine zA ?_;repeat intro nb|refine zB ?_ ?_<;>intro hc<;>try exact no hc|refine zH ?_ ?_<;>(intro hg;rw[hg];try exact no hg)));all_goals try refine zO fun a w F M=>?_
  all_goals refine zE F M ?_
  all_goals exact⟨_,_,rfl,⟨by simp[tupOf],rfl⟩,M.perms permsA⟩
theorem mck3_spec (ha:U64 y1.bal) (hb:U64 y2.bal):Spec 335 [valV y1,valV y2,cfgV c] R fun u L'=>u=.bool (!decide (c.maxBalance<y1.bal+y2.bal∨18446744073709551615<y1.bal+y2.bal))∧L'=R:=by
 have hadd:∀ {L:List Asn} {v:Value},GS L 1 v 2 ([y1.bal,y2.bal].flatMap u64L)→Reads 185 [v] (.tuple [.int .u64 (addR [y1.bal,y2.bal]).1,.bool (addR [y1.bal,y2.bal]).2].toArray) L:=fun hg=>gadd_reads _ [y1.bal,y2.bal] (by simp;exact⟨ha,hb⟩) hg
 rw[addR_two ha hb] at hadd
 by_cases h:18446744073709551615<y1.bal+y2.bal
 ·rw[if_pos h] at hadd
  refine zGz zk335 Tryz.func335 ?_;intro G;(repeat'(first|refine zA ?_;repeat intro nb|refine zC ?_;refine acCall (k:=185) ?_;refine Spec.of_reads (hadd (gs_own pullA)) rfl ?_|refine zB ?_ ?_<;>intro hc<;>try exact no hc|refine zH ?_ ?_<;>(intro hg;rw[hg];try exact no hg)));all_goals try refine zO fun a w F M=>?_
  all_goals refine zE F M ?_
  all_goals exact⟨_,_,rfl,⟨by simp[tupOf,h],rfl⟩,M.perms permsA⟩
 ·rw[if_neg h] at hadd
  refine zGz zk335 Tryz.func335 ?_;intro G;(repeat'(first|refine zA ?_;repeat intro nb|refine zC ?_;refine acCall (k:=185) ?_;refine Spec.of_reads (hadd (gs_own pullA)) rfl ?_|refine zB ?_ ?_<;>intro hc<;>try exact no hc|refine zH ?_ ?_<;>(intro hg;rw[hg];try exact no hg)));all_goals try refine zO fun a w F M=>?_
  all_goals refine zE F M ?_
  all_goals exact⟨_,_,rfl,⟨by simp only[tupOf,h,or_false];congr 1;rw[Bool.eq_iff_iff];(simp<;>omega),rfl⟩,M.perms permsA⟩
def mkB (c:Cfg) (y1 y2:Val):Nat→Bool
 | 0=>decide (y1.st=2∧y2.st=2)
 | 1=>!y1.sl && !y2.sl
 | _=>!decide (c.maxBalance<y1.bal+y2.bal∨18446744073709551615<y1.bal+y2.bal)
theorem mck_at (ha:U64 y1.bal) (hb:U64 y2.bal) (k:Nat) (hk:k<3):∃ f cd,ckS[k]? = some (f,cd)∧FK f∧(∀ R,Spec f [valV y1,valV y2,cfgV c] R fun u L'=>u=.bool (mkB c y1 y2 k)∧L'=R)∧((∀ i,i<k→mkB c y1 y2 i=true)→mkB c y1 y2 k=false→merC c y1 y2=cd):=by
 rcases (by omega:k=0∨k=1∨k=2) with rfl|rfl|rfl
 ·refine⟨_,_,rfl,inferInstance,mck1_spec y1 y2 c,fun _ h=>?_⟩
  simp only[mkB,decide_eq_false_iff_not,Decidable.not_and_iff_or_not] at h
  rw[merC,if_pos h]
 ·refine⟨_,_,rfl,inferInstance,mck2_spec y1 y2 c,fun h1 h=>?_⟩
  have h0:=h1 0 (by omega)
  simp only[mkB,decide_eq_true_eq] at h0
  rw[merC,if_neg (by omega),if_pos]
  simp only[mkB] at h
  cases h2:y1.sl<;>cases h3:y2.sl<;>simp[h2,h3] at h ⊢
 ·refine⟨_,_,rfl,inferInstance,fun R=>mck3_spec y1 y2 c R ha hb,fun h1 h=>?_⟩
  have h0:=h1 0 (by omega)
  have h2:=h1 1 (by omega)
  simp only[mkB,decide_eq_true_eq,Bool.and_eq_true,Bool.not_eq_true'] at h0 h2
  simp only[mkB,Bool.not_eq_false',decide_eq_true_eq] at h
  rw[merC,if_neg (by omega),if_neg (by simp[h2]),if_pos h]
theorem merC_ok (h:∀ i,i<3→mkB c y1 y2 i=true):merC c y1 y2=0:=by
 have h0:=h 0 (by omega)
 have h1:=h 1 (by omega)
 have h2:=h 2 (by omega)
 simp only[mkB,decide_eq_true_eq,Bool.and_eq_true,Bool.not_eq_true',decide_eq_false_iff_not] at h0 h1 h2
 rw[merC,if_neg (by omega),if_neg (by simp[h1]),if_neg h2]
theorem mcheck_spec (ha:U64 y1.bal) (hb:U64 y2.bal):Spec 202 [valV y1,valV y2,cfgV c] R fun u L'=>u=.int .i64 (merC c y1 y2)∧L'=R:=by
 have hat:=fun k hk=>mck_at y1 y2 c ha hb k hk
 have hok:=merC_ok y1 y2 c
 have hcl:ckS.length=3:=rfl
 generalize merC c y1 y2=X at *
 refine zGz zk202 Tryz.func202 ?_;intro G;(repeat'(first|refine zA ?_;repeat intro nb|refine zC ?_;refine acW (k:=288) (checks_spec _) ?_;rintro u L' ⟨hs,rfl,rfl⟩|refine zB ?_ ?_<;>intro hc<;>try exact no hc|refine zH ?_ ?_<;>(intro hg;rw[hg];try exact no hg)));all_goals try refine zO fun a w F M=>?_
 refine svLoop F M (0:Nat) (fun k=>[(11,.int .i64 k)]) (fun _=>[]) (fun k=>k≤3∧∀ i,i<k→mkB c y1 y2 i=true) (fun k=>3 - k) [8] ⟨by omega,by omega⟩ ?_
 (rintro k ⟨q1,q2⟩ a w F M;(try simp only[zc,zn] at F M q1 q2 ⊢))
 by_cases hk:k<3
 ·obtain ⟨f,cd,hx,hf,hs2,hcd⟩:=hat k hk
  cases hb2:mkB c y1 y2 k
  all_goals rw[hb2] at hs2
  ·have e:=hcd q2 hb2
   (try refine zI zk202 F M ?_;clear F M a;try clear w);(repeat'(first|refine zA ?_;repeat intro nb|refine zC ?_;refine kpW (k:=f) (hs2 _) ?_|refine zB ?_ ?_<;>intro hc<;>try exact no hc|refine zH ?_ ?_<;>(intro hg;rw[hg];try exact no hg)));all_goals try refine zO fun a w F M=>?_
   (all_goals(refine zE F M ?_;exact⟨_,_,rfl,⟨by rw[e];rfl,rfl⟩,M.perms permsA⟩))
  ·(try refine zI zk202 F M ?_;clear F M a;try clear w);(repeat'(first|refine zA ?_;repeat intro nb|refine zC ?_;refine kpW (k:=f) (hs2 _) ?_|refine zB ?_ ?_<;>intro hc<;>try exact no hc|refine zH ?_ ?_<;>(intro hg;rw[hg];try exact no hg)));all_goals try refine zO fun a w F M=>?_
   refine sv_again F M (k+1) kpA permsA ⟨by omega,fun i hi=>?_⟩ (by omega)
   rcases (by omega:i<k∨i=k) with h|rfl
   ·exact q2 i h
   ·exact hb2
 ·obtain rfl:k=3:=by omega
  have e:=hok q2
  (try refine zI zk202 F M ?_;clear F M a;try clear w);(repeat'(first|refine zA ?_;repeat intro nb|refine zB ?_ ?_<;>intro hc<;>try exact no hc|refine zH ?_ ?_<;>(intro hg;rw[hg];try exact no hg)));all_goals try refine zO fun a w F M=>?_
  (all_goals(refine zE F M ?_;exact⟨_,_,rfl,⟨by rw[e];rfl,rfl⟩,M.perms permsA⟩))
end
section
variable (V:List Val) (v:Value) (c:Cfg) (R:List Asn) (hg:GS R 7 v V.length (V.flatMap valL)) (hl:V.length≤1000000) (hV:∀ x∈V,U64 x.bal)
include hg hl hV
theorem mreq_spec (i j:Int):Spec 137 [v,.int .i64 i,.int .i64 j,cfgV c] R fun u L'=>u=.int .i64 (merR c V i j)∧L'=R:=by
 have _u1:=hl
 obtain ⟨e,he⟩:∃ e:Nat→Int,e=fun k=>if k=0 then i else j:=⟨_,rfl⟩
 have e0:e 0=i:=by rw[he];rfl
 have e1:e 1=j:=by rw[he];rfl
 have hX:merR c V i j=merR c V (e 0) (e 1):=by rw[e0,e1]
 have hbad:∀ k,k<2→(e k<0∨(V.length:Int)≤e k)→merR c V i j=7:=fun k hk h=>by
  have h2:i<0∨(V.length:Int)≤i∨j<0∨(V.length:Int)≤j:=by
   rcases (by omega:k=0∨k=1) with rfl|rfl
   ·rw[e0] at h;omega
   ·rw[e1] at h;omega
  unfold merR
  by_cases hn:i<0∨j<0
  ·rw[if_pos hn]
  ·rw[if_neg hn]
   cases h3:V[i.toNat]? with
   | none=>rfl
   | some x =>
    cases h4:V[j.toNat]? with
    | none=>rfl
    | some y =>
     have:=(List.getElem?_eq_some_iff.1 h3).1
     have:=(List.getElem?_eq_some_iff.1 h4).1
     omega
 have hgood:0≤i→i<V.length→0≤j→j<V.length→∃ x y,V[i.toNat]? = some x∧V[j.toNat]? = some y∧merR c V i j=if i=j then 12 else merC c x y:=fun h1 h2 h3 h4=>by
  have h5:i.toNat<V.length:=by omega
  have h6:j.toNat<V.length:=by omega
  refine⟨V[i.toNat],V[j.toNat],by simp[h5],by simp[h6],?_⟩
  unfold merR
  rw[if_neg (by omega)]
  simp[h5,h6]
 generalize merR c V i j=X at *
 refine zGo Tryz.func137 ?_;intro G w M a F
 have hG:GS (R++G) 7 v V.length (V.flatMap valL):=Gives.app hg
 (try refine zI zk137 F M ?_;clear F M a;try clear w);(repeat'(first|refine zA ?_;repeat intro nb|refine zB ?_ ?_<;>intro hc<;>try exact no hc|refine zH ?_ ?_<;>(intro hg;rw[hg];try exact no hg)));all_goals try refine zO fun a w F M=>?_
 refine svLoop F M (0:Nat) (fun k=>[(14,.int .i64 k)]) (fun _=>[]) (fun k=>k≤2∧∀ m,m<k→0≤e m∧e m<V.length) (fun k=>2 - k) [10] ⟨by omega,by omega⟩ ?_
 (rintro k ⟨q1,q2⟩ a w F M;(try simp only[zc,zn] at F M q1 q2 ⊢))
 by_cases hk:k<2
 ·have hd:[Value.int .i64 i,.int .i64 j][((k:Int)).toNat*1]? = some (.int .i64 (e k)):=by
   rcases (by omega:k=0∨k=1) with rfl|rfl
   ·rw[e0];rfl
   ·rw[e1];rfl
  by_cases h0:e k<0
  ·have hb:=hbad k hk (.inl h0)
   (try refine zI zk137 F M ?_;clear F M a;try clear w);(repeat'(first|refine zV (h:=⟨_,by((apply rt_idx1;(exact rfl);(exact rfl);(exact rfl);(exact inferInstance);(exact inferInstance);omega;omega;(exact hd))),?_⟩)|refine zA1 ?_;repeat intro(nb:Nat)|refine zB ?_ ?_<;>intro hc<;>try exact no hc|refine zH ?_ ?_<;>(intro hg;rw[hg];try exact no hg)));all_goals try refine zO fun a w F M=>?_
   (all_goals(refine zE F M ?_;exact⟨_,_,rfl,⟨by rw[hb];rfl,rfl⟩,M.perms permsA⟩))
  ·by_cases h1:(V.length:Int)≤e k
   ·have hb:=hbad k hk (.inr h1)
    (try refine zI zk137 F M ?_;clear F M a;try clear w);(repeat'(first|refine zV (h:=⟨_,by((apply rt_idx1;(exact rfl);(exact rfl);(exact rfl);(exact inferInstance);(exact inferInstance);omega;omega;(exact hd))),?_⟩)|refine zA1 ?_;repeat intro(nb:Nat)|refine zB ?_ ?_<;>intro hc<;>try exact no hc|refine zH ?_ ?_<;>(intro hg;rw[hg];try exact no hg)));all_goals try refine zO fun a w F M=>?_
    (all_goals(refine zE F M ?_;exact⟨_,_,rfl,⟨by rw[hb];rfl,rfl⟩,M.perms permsA⟩))
   ·(try refine zI zk137 F M ?_;clear F M a;try clear w);(repeat'(first|refine zV (h:=⟨_,by((apply rt_idx1;(exact rfl);(exact rfl);(exact rfl);(exact inferInstance);(exact inferInstance);omega;omega;(exact hd))),?_⟩)|refine zA1 ?_;repeat intro(nb:Nat)|refine zB ?_ ?_<;>intro hc<;>try exact no hc|refine zH ?_ ?_<;>(intro hg;rw[hg];try exact no hg)));all_goals try refine zO fun a w F M=>?_
    refine sv_again F M (k+1) kpA permsA ⟨by omega,fun m hm=>?_⟩ (by omega)
    rcases (by omega:m<k∨m=k) with h|rfl
    ·exact q2 m h
    ·omega
 ·obtain rfl:k=2:=by omega
  have g0:=q2 0 (by omega)
  have g1:=q2 1 (by omega)
  rw[e0] at g0
  rw[e1] at g1
  obtain ⟨x,y,hx,hy,hXX⟩:=hgood g0.1 g0.2 g1.1 g1.2
  have hs:=fun R=>mcheck_spec x y c R (hV x (List.mem_of_getElem? hx)) (hV y (List.mem_of_getElem? hy))
  by_cases hij:i=j
  ·rw[if_pos hij] at hXX
   (try refine zI zk137 F M ?_;clear F M a;try clear w);(repeat'(first|refine zA ?_;repeat intro nb|refine zB ?_ ?_<;>intro hc<;>try exact no hc|refine zH ?_ ?_<;>(intro hg;rw[hg];try exact no hg)));all_goals try refine zO fun a w F M=>?_
   (all_goals(refine zE F M ?_;exact⟨_,_,rfl,⟨by rw[hXX];rfl,rfl⟩,M.perms permsA⟩))
  ·rw[if_neg hij] at hXX
   (try refine zI zk137 F M ?_;clear F M a;try clear w);(repeat'(first|refine zA ?_;repeat intro nb|refine zC ?_;refine kpW (k:=202) (hs _) ?_|refine zB ?_ ?_<;>intro hc<;>try exact no hc|refine zH ?_ ?_<;>(intro hg;rw[hg];try exact no hg)));all_goals try refine zO fun a w F M=>?_
   (all_goals(refine zE F M ?_;exact⟨_,_,rfl,⟨by rw[hXX];rfl,rfl⟩,M.perms permsA⟩))
end
end
section
open Go.RowKit
def boL (b:Bool):List Value:=[.bool b]
instance:EL boL 1:=⟨fun _=>rfl,fun x u h=>by simp[boL] at h;subst h;rfl⟩
theorem gs_toT {α:Type} {f:α→List Value} {k:Nat} (he:EL f k) {L:List Asn} {h:SlH} {xs:List α} (hg:GS L k (sl h) xs.length (xs.flatMap f)) {j:Nat} (hj:j≤xs.length):GS L k (sl ⟨h.a,j,h.c⟩) (xs.take j).length ((xs.take j).flatMap f):=fun w M=>by
 have:=(hg w M).to hj
 rw[flat_take he.len] at this
 rw[List.length_take,Nat.min_eq_left hj];exact this
def mSrc (y:Val):Val:={y with bal:=0,st:=7}
def mDst (z y:Val):Val:={z with bal:=z.bal+y.bal}
theorem merC_zero {c:Cfg} {y z:Val} (h:merC c y z=0):y.st=2∧z.st=2∧y.bal+z.bal≤18446744073709551615:=by
 unfold merC at h
 split at h
 ·cases h
 ·split at h
  ·cases h
  ·split at h
   ·cases h
   ·omega
theorem mapply_spec (y z:Val) (c:Cfg) (hy:U64 y.bal) (hz:U64 z.bal) (h:merC c y z=0) (R:List Asn):Spec 269 [valV y,valV z,cfgV c] R fun u L'=>u=.tuple [valV (mSrc y),valV (mDst z y),.int .i64 0].toArray∧L'=R:=by
 have hs:=fun R=>mcheck_spec y z c R hy hz
 rw[h] at hs
 obtain ⟨h1,h2,h3⟩:=merC_zero h
 have hn:=fun R=>next_spec R 2 6 (wf_small _ (by omega) (by omega)) (wf_small _ (by omega) (by omega))
 rw[show nextF 2 6=7 from rfl] at hn
 have y1:=hy.1;have z1:=hz.1
 obtain ⟨b1,s1,l1,r1,x1,w1,d1⟩:=y
 obtain ⟨b2,s2,l2,r2,x2,w2,d2⟩:=z
 simp only at h1 h2 h3 y1 z1
 subst h1;subst h2
 refine zGz zk269 Tryz.func269 ?_;intro G;(repeat'(first|refine zA ?_;repeat intro nb|refine zC ?_;(first|refine kpW (k:=202) (hs _) ?_|refine kpW (k:=263) (hn _) ?_)|refine zB ?_ ?_<;>intro hc<;>try exact no hc|refine zH ?_ ?_<;>(intro hg;rw[hg];try exact no hg)));all_goals exact zXz
theorem merV_len (c:Cfg) (V:List Val) (p:Nat × Nat):(merV c V p).length=V.length:=by
 unfold merV;split<;>simp
theorem merV_some {c:Cfg} {V:List Val} {p:Nat × Nat} (h:merR c V p.1 p.2=0):∃ y z,V[p.1]? = some y∧V[p.2]? = some z∧merC c y z=0∧p.1≠p.2∧merV c V p=(V.set p.1 (mSrc y)).set p.2 (mDst z y)∧(V.set p.1 (mSrc y))[p.2]? = some z:=by
 obtain ⟨y,z,h1,h2,h3,h4,h5,h6,h7,h8,h9,h10⟩:=merR_zero h
 simp only[Int.toNat_natCast] at h4 h5
 have hne:p.1≠p.2:=by omega
 have hm:merC c y z=0:=by
  unfold merR at h
  rw[if_neg (by omega)] at h
  simp only[Int.toNat_natCast,h4,h5] at h
  rw[if_neg h3] at h
  exact h
 have h11:(V.set p.1 (mSrc y))[p.2]? = some z:=by rw[List.getElem?_set_ne hne,h5]
 refine⟨y,z,h4,h5,hm,hne,?_,h11⟩
 unfold merV
 rw[if_pos h,getD_some h4,modify_eq_set (v:=y) _ h4,modify_eq_set (v:=z) _ (by exact h11)]
 rfl
theorem merV_u64 {c:Cfg} {V:List Val} (p:Nat × Nat) (hV:∀ x∈V,U64 x.bal):∀ x∈merV c V p,U64 x.bal:=fun x hx=>by
 by_cases h:merR c V p.1 p.2=0
 ·obtain ⟨y,z,h1,h2,h3,h4,h5,h6⟩:=merV_some h
  obtain ⟨k1,k2,k3⟩:=merC_zero h3
  have hy:=hV y (List.mem_of_getElem? h1)
  have hz:=hV z (List.mem_of_getElem? h2)
  rw[h5] at hx
  rcases List.mem_or_eq_of_mem_set hx with hx|rfl
  ·rcases List.mem_or_eq_of_mem_set hx with hx|rfl
   ·exact hV x hx
   ·exact⟨Int.le_refl _,by simp[mSrc]⟩
  ·have:=hy.1;have:=hz.1
   exact⟨by simp only[mDst];omega,by simp only[mDst];omega⟩
 ·unfold merV at hx
  rw[if_neg h] at hx
  exact hV x hx
theorem mstep_spec (hv hq:SlH) (V:List Val) (q:List (Nat × Nat)) (c:Cfg) (hc:CfOk c) (R:List Asn) (hg:GS R 7 (sl hv) V.length (V.flatMap valL)) (hgq:GS R 2 (sl hq) q.length (q.flatMap prL)) (hl:V.length≤4096) (hql:q.length≤4096) (hqc:q.length≤hq.c) (hV:∀ x∈V,U64 x.bal) :
  Spec 176 [sl hv,sl hq,cfgV c] R fun u L'=>∃ h v2,u=.tuple [sl h,v2].toArray∧L'=ownT 62 valL 7 (sl h) ((q.take c.merges.toNat).foldl (merV c) V)::R:=by
 have hme:=hc.me
 obtain ⟨mg,hmg⟩:∃ mg:Nat,c.merges=mg:=⟨c.merges.toNat,by omega⟩
 obtain ⟨m,hm⟩:∃ m,min q.length mg=m:=⟨_,rfl⟩
 have hmin:(if (mg:Int)<(q.length:Int) then (mg:Int) else (q.length:Int))=((m:Nat):Int):=by split<;>omega
 have htk:q.take c.merges.toNat=q.take m:=by rw[hmg,Int.toNat_natCast,← hm];exact List.take_eq_take_iff.2 (by omega)
 rw[htk]
 have hX:(q.take m).foldl (merV c) V=((q.take m).drop 0).foldl (merV c) V:=by simp
 have hgt:=gs_toT (f:=prL) inferInstance hgq (j:=m) (by omega)
 have hlt:(q.take m).length=m:=by rw[List.length_take];omega
 rw[hlt] at hgt
 generalize hQ:q.take m=Q at *
 generalize List.foldl (merV c) V Q=X at *
 rw[← hmg] at hmin
 refine zGo Tryz.func176 ?_;intro G w M a F
 have hG:GS (R++G) 7 (sl hv) V.length (V.flatMap valL):=Gives.app hg
 have hH:GS (R++G) 2 (sl hq) q.length (q.flatMap prL):=Gives.app hgq
 have hI:GS (R++G) 2 (sl ⟨hq.a,m,hq.c⟩) m (Q.flatMap prL):=Gives.app hgt
 have M:=M.own_nil 4 1
 (try refine zI zk176 F M ?_;clear F M a;try clear w);(repeat'(first|refine zV (h:=⟨_,by((first|(apply rt_min2;(exact rfl);(exact rfl);(exact hmin))|(apply rt_to;(exact rfl);(exact rfl);(exact rfl);(exact inferInstance);omega))),?_⟩)|refine zA1 ?_;repeat intro(nb:Nat)|refine zC ?_;refine acW (k:=109) (clone_val hv V gsA (by omega)) ?_;rintro u L' ⟨h1,rfl,rfl⟩|refine zB ?_ ?_<;>intro hc<;>try exact no hc|refine zH ?_ ?_<;>(intro hg;rw[hg];try exact no hg)));all_goals try refine zO fun a w F M=>?_
 refine svLoop F M ((0,V,nilH,[]):Nat × List Val × SlH × List Bool) (fun s=>[(23,.int .i64 s.1),(9,sl s.2.2.1)]) (fun s=>[ownT 62 valL 7 (sl h1) s.2.1,ownT 4 boL 1 (sl s.2.2.1) s.2.2.2]) (fun s=>s.1≤m∧X=(Q.drop s.1).foldl (merV c) s.2.1∧s.2.1.length=V.length∧(∀ x∈s.2.1,U64 x.bal)∧s.2.2.2.length≤s.1) (fun s=>m - s.1) [11,12] ⟨Nat.zero_le _,hX,rfl,hV,Nat.zero_le _⟩ ?_ (hR:=by(repeat (first|exact Pulls.nil|(apply Pulls.cons;(focus ((repeat (first|exact Pull.here|apply Pull.there));done))))))
 (rintro⟨k,V',hd,bs⟩ ⟨q1,q2,q3,q4,q5⟩ a w F M;(try simp only[zc,zn] at F M q1 q2 q3 q4 q5 ⊢))
 by_cases hk:k<m
 ·obtain ⟨p,hp⟩:∃ p,Q[k]? = some p:=⟨Q[k],by simp[hlt,hk]⟩
  rw[drop_cons hp,List.foldl_cons] at q2
  have hrq:=fun (R:List Asn) hg=>mreq_spec V' (sl h1) c R hg (by omega) q4 p.1 p.2
  by_cases hz:merR c V' p.1 p.2=0
  ·rw[hz] at hrq
   obtain ⟨y,z,k1,k2,k3,k4,k5,k6⟩:=merV_some hz
   have hap:=fun R=>mapply_spec y z c (q4 y (List.mem_of_getElem? k1)) (q4 z (List.mem_of_getElem? k2)) k3 R
   have p1l:=(List.getElem?_eq_some_iff.1 k1).1
   have p2l:=(List.getElem?_eq_some_iff.1 k2).1
   have p3l:p.2<(V'.set p.1 (mSrc y)).length:=by rw[List.length_set];exact p2l
   have hu:=merV_u64 (c:=c) p q4
   have hln:=merV_len c V' p
   rw[k5] at q2 hu hln
   (try refine zI zk176 F M ?_;clear F M a;try clear w);(repeat'(first|refine zA ?_;repeat intro nb|refine zC ?_;(first|refine acW (k:=137) (hrq _ ?_) ?_;exact gs_own pullA;rintro u L' ⟨rfl,rfl⟩|refine kpW (k:=269) (hap _) ?_|refine ac_storeEA (f:=valL) (v:=sl h1) (j:=p.1) (k:=7) rfl rfl inferInstance (mSrc y) rfl k1 inferInstance (by(focus ((repeat (first|exact Rep.here|apply Rep.there));done))) ?_|refine ac_storeEA (f:=valL) (v:=sl h1) (j:=p.2) (k:=7) rfl rfl inferInstance (mDst z y) rfl k6 inferInstance (by(focus ((repeat (first|exact Rep.here|apply Rep.there));done))) ?_|refine ac_appendH (f:=boL) (xs:=bs) (ys:=[_]) rfl rfl inferInstance rfl rfl pullA inferInstance gsA rfl rfl (by simp;omega) ?_;intro nv)|refine zB ?_ ?_<;>intro hc<;>try exact no hc|refine zH ?_ ?_<;>(intro hg;rw[hg];try exact no hg)));all_goals try refine zO fun a w F M=>?_
   refine sv_again F M (k+1,_,nv,_) kpA permsA ⟨by simp only;omega,q2,by simp only;omega,hu,by simp;omega⟩ (by simp only;omega)
  ·have hne:merV c V' p=V':=by unfold merV;rw[if_neg hz]
   rw[hne] at q2
   have hdz:decide (merR c V' p.1 p.2=0)=false:=by simpa using hz
   (try refine zI zk176 F M ?_;clear F M a;try clear w);(repeat'(first|refine zA ?_;repeat intro nb|refine zC ?_;(first|refine acW (k:=137) (hrq _ ?_) ?_;exact gs_own pullA;rintro u L' ⟨rfl,rfl⟩|refine ac_appendH (f:=boL) (xs:=bs) (ys:=[_]) rfl rfl inferInstance rfl rfl pullA inferInstance gsA rfl rfl (by simp;omega) ?_;intro nv)|refine zB ?_ ?_<;>intro hc<;>try exact no hc|refine zH ?_ ?_<;>(intro hg;rw[hg];try exact no hg)));all_goals try refine zO fun a w F M=>?_
   refine sv_again F M (k+1,_,nv,_) kpA permsA ⟨by simp only;omega,q2,q3,q4,by simp;omega⟩ (by simp only;omega)
 ·obtain rfl:k=m:=by omega
  rw[List.drop_of_length_le (by omega),List.foldl_nil] at q2
  subst q2
  (try refine zI zk176 F M ?_;clear F M a;try clear w);(repeat'(first|refine zA ?_;repeat intro nb|refine zB ?_ ?_<;>intro hc<;>try exact no hc|refine zH ?_ ?_<;>(intro hg;rw[hg];try exact no hg)));all_goals try refine zO fun a w F M=>?_
  (all_goals(refine zE F M ?_;exact⟨_,_,rfl,⟨h1,_,rfl,rfl⟩,M.perms permsA⟩))
theorem take_rgp_spec (b size:Nat) {q:List _} (n:Int) (hn:0≤n) (hq:q.length≤4096) (R:List Asn):Spec 177 [ptr b,.int .i64 n] (rgpA b size q::R) fun u L'=>∃ h,u=sl h∧(q.take n.toNat).length≤h.c∧L'=ownT 77 prL 2 (sl h) (q.take n.toNat)::rgpA b size (q.drop n.toNat)::R:=by
 obtain ⟨mg,rfl⟩:∃ mg:Nat,n=mg:=⟨n.toNat,by omega⟩
 simp only[Int.toNat_natCast]
 obtain ⟨m,hm⟩:∃ m,min q.length mg=m:=⟨_,rfl⟩
 have hmin:(if (q.length:Int)<(mg:Int) then (q.length:Int) else (mg:Int))=((m:Nat):Int):=by split<;>omega
 have htk:q.take mg=q.take m:=List.take_eq_take_iff.2 (by omega)
 have hdr:q.drop mg=q.drop m:=List.drop_eq_drop_iff.2 (by omega)
 rw[htk,hdr]
 have hlt:(q.take m).length=m:=by rw[List.length_take];omega
 refine zGz zk177 Tryz.func177 ?_;intro G;(repeat'(first|refine zV (h:=⟨_,by((first|(apply rt_min2;(exact rfl);(exact rfl);(exact hmin)))),?_⟩)|refine zA1 ?_;repeat intro(nb:Nat)|refine zC ?_;refine acK (k:=48) (rgp_all b size q hq _) ?_;rintro u L' ⟨h,rfl,rfl⟩|refine zB ?_ ?_<;>intro hc<;>try exact no hc|refine zH ?_ ?_<;>(intro hg;rw[hg];try exact no hg)));all_goals try refine zO fun a w F M=>?_
 obtain ⟨o1,o2,o3,o4⟩:=own_h M
 have o5:m≤h.c:=by omega
 (try refine zI zk177 F M ?_;clear F M a;try clear w);(repeat'(first|refine zV (h:=⟨_,by((apply rt_to;(exact rfl);(exact rfl);(exact rfl);(exact inferInstance);(exact o5))),?_⟩)|refine zA1 ?_;repeat intro(nb:Nat)|refine zC ?_;refine acK (k:=48) (rgp_all b size q hq _) ?_;rintro u L' ⟨h,rfl,rfl⟩|refine zB ?_ ?_<;>intro hc<;>try exact no hc|refine zH ?_ ?_<;>(intro hg;rw[hg];try exact no hg)));all_goals try refine zO fun a w F M=>?_
 have M2:=own_cut (j:=m) M (by omega)
 rw[flat_take (f:=prL) (k:=2) (EL.len)] at M2
 have M3:Mem w (ownT 77 prL 2 (sl ⟨h.a,m,h.c⟩) (q.take m)::rgpA b size q::(R++G)):=by
  unfold ownT;rw[hlt];exact M2.perms permsA
 clear M M2;have M:=M3;clear M3
 refine svLoop F M (0:Nat) (fun k=>[(16,.int .i64 k)]) (fun k=>[rgpA b size (q.drop k)]) (fun k=>k≤m) (fun k=>m - k) [] (Nat.zero_le _) ?_ (hR:=by simp only[List.drop_zero];(repeat (first|exact Pulls.nil|(apply Pulls.cons;(focus ((repeat (first|exact Pull.here|apply Pull.there));done))))))
 (rintro k q1 a w F M;(try simp only[zc,zn] at F M q1 ⊢))
 by_cases hk:k<m
 ·obtain ⟨x,hx⟩:∃ x,q[k]? = some x:=⟨q[k]'(by omega),by rw[List.getElem?_eq_getElem]⟩
  rw[drop_cons hx] at M
  (try refine zI zk177 F M ?_;clear F M a;try clear w);(repeat'(first|refine zA ?_;repeat intro nb|refine zC ?_;refine kp (k:=270) (rgp_pop b size x (q.drop (k+1)) _) ?_|refine zB ?_ ?_<;>intro hc<;>try exact no hc|refine zH ?_ ?_<;>(intro hg;rw[hg];try exact no hg)));all_goals try refine zO fun a w F M=>?_
  exact sv_again F M (k+1) kpA permsA (by omega) (by omega)
 ·obtain rfl:k=m:=by omega
  (try refine zI zk177 F M ?_;clear F M a;try clear w);(repeat'(first|refine zA ?_;repeat intro nb|refine zB ?_ ?_<;>intro hc<;>try exact no hc|refine zH ?_ ?_<;>(intro hg;rw[hg];try exact no hg)));all_goals try refine zO fun a w F M=>?_
  all_goals refine zE F M ?_
  exact⟨_,_,rfl,⟨_,rfl,by rw[hlt];exact o5,rfl⟩,M.perms permsA⟩
theorem take_rgq_spec (b size:Nat) {q:List _} (n:Int) (hn:0≤n) (hq:q.length≤4096) (R:List Asn):Spec 180 [ptr b,.int .i64 n] (rgqA b size q::R) fun u L'=>∃ h,u=sl h∧(q.take n.toNat).length≤h.c∧L'=ownT 79 rqL 2 (sl h) (q.take n.toNat)::rgqA b size (q.drop n.toNat)::R:=by
 obtain ⟨mg,rfl⟩:∃ mg:Nat,n=mg:=⟨n.toNat,by omega⟩
 simp only[Int.toNat_natCast]
 obtain ⟨m,hm⟩:∃ m,min q.length mg=m:=⟨_,rfl⟩
 have hmin:(if (q.length:Int)<(mg:Int) then (q.length:Int) else (mg:Int))=((m:Nat):Int):=by split<;>omega
 have htk:q.take mg=q.take m:=List.take_eq_take_iff.2 (by omega)
 have hdr:q.drop mg=q.drop m:=List.drop_eq_drop_iff.2 (by omega)
 rw[htk,hdr]
 have hlt:(q.take m).length=m:=by rw[List.length_take];omega
 refine zGz zk180 Tryz.func180 ?_;intro G;(repeat'(first|refine zV (h:=⟨_,by((first|(apply rt_min2;(exact rfl);(exact rfl);(exact hmin)))),?_⟩)|refine zA1 ?_;repeat intro(nb:Nat)|refine zC ?_;refine acK (k:=49) (rgq_all b size q hq _) ?_;rintro u L' ⟨h,rfl,rfl⟩|refine zB ?_ ?_<;>intro hc<;>try exact no hc|refine zH ?_ ?_<;>(intro hg;rw[hg];try exact no hg)));all_goals try refine zO fun a w F M=>?_
 obtain ⟨o1,o2,o3,o4⟩:=own_h M
 have o5:m≤h.c:=by omega
 (try refine zI zk180 F M ?_;clear F M a;try clear w);(repeat'(first|refine zV (h:=⟨_,by((apply rt_to;(exact rfl);(exact rfl);(exact rfl);(exact inferInstance);(exact o5))),?_⟩)|refine zA1 ?_;repeat intro(nb:Nat)|refine zC ?_;refine acK (k:=49) (rgq_all b size q hq _) ?_;rintro u L' ⟨h,rfl,rfl⟩|refine zB ?_ ?_<;>intro hc<;>try exact no hc|refine zH ?_ ?_<;>(intro hg;rw[hg];try exact no hg)));all_goals try refine zO fun a w F M=>?_
 have M2:=own_cut (j:=m) M (by omega)
 rw[flat_take (f:=rqL) (k:=2) (EL.len)] at M2
 have M3:Mem w (ownT 79 rqL 2 (sl ⟨h.a,m,h.c⟩) (q.take m)::rgqA b size q::(R++G)):=by
  unfold ownT;rw[hlt];exact M2.perms permsA
 clear M M2;have M:=M3;clear M3
 refine svLoop F M (0:Nat) (fun k=>[(16,.int .i64 k)]) (fun k=>[rgqA b size (q.drop k)]) (fun k=>k≤m) (fun k=>m - k) [] (Nat.zero_le _) ?_ (hR:=by simp only[List.drop_zero];(repeat (first|exact Pulls.nil|(apply Pulls.cons;(focus ((repeat (first|exact Pull.here|apply Pull.there));done))))))
 (rintro k q1 a w F M;(try simp only[zc,zn] at F M q1 ⊢))
 by_cases hk:k<m
 ·obtain ⟨x,hx⟩:∃ x,q[k]? = some x:=⟨q[k]'(by omega),by rw[List.getElem?_eq_getElem]⟩
  rw[drop_cons hx] at M
  (try refine zI zk180 F M ?_;clear F M a;try clear w);(repeat'(first|refine zA ?_;repeat intro nb|refine zC ?_;refine kp (k:=274) (rgq_pop b size x (q.drop (k+1)) _) ?_|refine zB ?_ ?_<;>intro hc<;>try exact no hc|refine zH ?_ ?_<;>(intro hg;rw[hg];try exact no hg)));all_goals try refine zO fun a w F M=>?_
  exact sv_again F M (k+1) kpA permsA (by omega) (by omega)
 ·obtain rfl:k=m:=by omega
  (try refine zI zk180 F M ?_;clear F M a;try clear w);(repeat'(first|refine zA ?_;repeat intro nb|refine zB ?_ ?_<;>intro hc<;>try exact no hc|refine zH ?_ ?_<;>(intro hg;rw[hg];try exact no hg)));all_goals try refine zO fun a w F M=>?_
  all_goals refine zE F M ?_
  exact⟨_,_,rfl,⟨_,rfl,by rw[hlt];exact o5,rfl⟩,M.perms permsA⟩
end
section
open Go.RowKit Go.Maps
abbrev pmV (y:Pm):Value:=.agg (pmL y).toArray
theorem dpm_idx (c:FuncId) [hfk:FK c] (caps:Array Value) (h:SlH) (xs:List Pm) (p:Pm→Bool) (Lc:List Asn) (hg:GS Lc 3 (sl h) xs.length (xs.flatMap pmL)) (hcl:∀ x∈xs,Keeps c (pmV x::caps.toList) (.bool (p x)) Lc) :
  Spec 54 [sl h,.func (.func c) #[] caps] Lc fun u L'=>u=.int .i64 (idxP p xs 0)∧L'=Lc:=by
 generalize hR:idxP p xs 0=R
 (intro G w M;refine sx_enter (vs:=[sl h,.func (.func c) #[] caps]) Tryz.func54 (n:=19) rfl rfl rfl rfl ?_;intro a F;(try simp only[zc,zn] at M))
 have hg':GS (Lc++G) 3 (sl h) xs.length (xs.flatMap pmL):=hg.imp fun w M=>M.drop_app
 have hlv:=hg'.len_le M
 (try refine zI zk54 F M ?_;clear F M a;try clear w);(repeat'(first|refine zA ?_;repeat intro b|refine zB ?_ ?_<;>intro hc<;>try exact no hc|refine zH ?_ ?_<;>(intro hg;rw[hg];try exact no hg)));all_goals try refine zO fun a w F M=>?_
 refine svLoop F M (0:Nat) (fun k=>[(8,.int .i64 k)]) (fun _=>[]) (fun k=>k≤xs.length∧idxP p (xs.drop k) k=R) (fun k=>xs.length - k) [] ⟨by omega,by simpa using hR⟩ ?_
 (rintro k ⟨q1,q2⟩ a w F M;(try simp only[zc,zn] at F M q1 q2 ⊢))
 by_cases hlt:k<xs.length
 ·obtain ⟨x,hx⟩:∃ x,xs[k]? = some x:=⟨xs[k],by simp[hlt]⟩
  rw[drop_cons hx,idxP] at q2
  have hs:=hcl x (List.mem_of_getElem? hx)
  cases hp:p x
  all_goals rw[hp] at hs q2
  ·(try refine zI zk54 F M ?_;clear F M a;try clear w);(repeat'(first|refine zA ?_;repeat intro b|refine zC ?_;refine acCall (k:=c) ?_;refine Spec.mono (Spec.fr hs _) ?_;rintro u L' ⟨_,⟨rfl,rfl⟩,rfl⟩|refine zB ?_ ?_<;>intro hc<;>try exact no hc|refine zH ?_ ?_<;>(intro hg;rw[hg];try exact no hg)));all_goals try refine zO fun a w F M=>?_
   (refine sv_again F M (k+1) kpA permsA ?_ ?_)
   ·exact⟨by omega,by simpa using q2⟩
   ·omega
  ·(try refine zI zk54 F M ?_;clear F M a;try clear w);(repeat'(first|refine zA ?_;repeat intro b|refine zC ?_;refine acCall (k:=c) ?_;refine Spec.mono (Spec.fr hs _) ?_;rintro u L' ⟨_,⟨rfl,rfl⟩,rfl⟩|refine zB ?_ ?_<;>intro hc<;>try exact no hc|refine zH ?_ ?_<;>(intro hg;rw[hg];try exact no hg)));all_goals try refine zO fun a w F M=>?_
   all_goals(first|(refine svEnd F M ?_)|(refine svRet F M ?_))
   exact⟨_,_,rfl,⟨by rw[← q2];rfl,rfl⟩,M.perms permsA⟩
 ·rw[List.drop_of_length_le (by omega)] at q2
  (try refine zI zk54 F M ?_;clear F M a;try clear w);(repeat'(first|refine zA ?_;repeat intro b|refine zC ?_;refine acCall (k:=c) ?_;refine Spec.mono (Spec.fr hs _) ?_;rintro u L' ⟨_,⟨rfl,rfl⟩,rfl⟩|refine zB ?_ ?_<;>intro hc<;>try exact no hc|refine zH ?_ ?_<;>(intro hg;rw[hg];try exact no hg)));all_goals try refine zO fun a w F M=>?_
  all_goals(first|(refine svEnd F M ?_)|(refine svRet F M ?_))
  exact⟨_,_,rfl,⟨by rw[← q2];rfl,rfl⟩,M.perms permsA⟩
theorem dpm_del (c:FuncId) [hfk:FK c] (caps:Array Value) (h:SlH) (xs:List Pm) (p:Pm→Bool) (Lc:List Asn) (hcl:∀ x∈xs,Keeps c (pmV x::caps.toList) (.bool (p x)) Lc) :
  Spec 324 [sl h,.func (.func c) #[] caps] (ownT 57 pmL 3 (sl h) xs::Lc) fun u L'=>∃ h',u=sl h'∧L'=ownT 57 pmL 3 (sl h') (xs.filter fun x=>!p x)::Lc:=by
 intro G w M
 have M:Mem w (ownT 57 pmL 3 (sl h) xs::(Lc++G)):=M
 obtain ⟨hn,hm,hlen,hmax⟩:=own_h M
 refine sx_enter (vs:=([sl h,.func (.func c) #[] caps]:List Value)) Tryz.func324 (n:=42) rfl rfl rfl rfl ?_
 intro a F
 have hidx:=dpm_idx c caps h xs p (ownT 57 pmL 3 (sl h) xs::Lc) (gs_own pullA) (fun x hx=>(hcl x hx).head _)
 rcases idxP_spec p xs 0 with⟨e1,e2⟩|⟨i0,x0,e1,e2,e3,e4⟩
 ·rw[e1] at hidx
  (try refine zI zk324 F M ?_;clear F M a;try clear w);(repeat'(first|refine zA ?_;repeat intro b|refine zC ?_;refine acCall (k:=54) ?_;refine Spec.mono (Spec.fr hidx G) ?_;rintro u L' ⟨_,⟨rfl,rfl⟩,rfl⟩;simp only[zc]|refine zB ?_ ?_<;>intro hc<;>try exact no hc|refine zH ?_ ?_<;>(intro hg;rw[hg];try exact no hg)));all_goals try refine zO fun a w F M=>?_
  all_goals(first|(refine svEnd F M ?_)|(refine svRet F M ?_))
  refine⟨_,_,rfl,⟨h,rfl,rfl⟩,?_⟩
  rw[filter_all p xs e2]
  exact M
 ·rw[e2,Nat.zero_add] at hidx
  have hi0:i0<xs.length:=(List.getElem?_eq_some_iff.1 e1).1
  (try refine zI zk324 F M ?_;clear F M a;try clear w);(repeat'(first|refine zA ?_;repeat intro b|refine zC ?_;refine acCall (k:=54) ?_;refine Spec.mono (Spec.fr hidx G) ?_;rintro u L' ⟨_,⟨rfl,rfl⟩,rfl⟩;simp only[zc]|refine zB ?_ ?_<;>intro hc<;>try exact no hc|refine zH ?_ ?_<;>(intro hg;rw[hg];try exact no hg)));all_goals try refine zO fun a w F M=>?_
  refine svLoop F M ((i0,i0+1,xs):Nat × Nat × List Pm) (fun s=>[(5,.int .i64 s.1),(6,.int .i64 s.2.1)]) (fun s=>[ownT 57 pmL 3 (sl h) s.2.2]) (fun s=>s.2.2.length=xs.length∧s.1<s.2.1∧s.2.1≤xs.length∧s.2.2.take s.1=(xs.take s.2.1).filter (fun x=>!p x)∧s.2.2.drop s.2.1=xs.drop s.2.1) (fun s=>xs.length - s.2.1) [7]
   ⟨rfl,by simp only;omega,by simp only;omega,by simp only;rw[List.take_add_one,e1,List.filter_append,filter_all p _ e3];simp[e4],rfl⟩ ?_
  (rintro⟨i,j,ys⟩ ⟨q1,q2,q3,q4,q5⟩ a w F M;(try simp only[zc,zn] at F M q1 q2 q3 q4 q5 ⊢))
  by_cases hlt:j<xs.length
  ·obtain ⟨x,hx⟩:∃ x,xs[j]? = some x:=⟨xs[j],by simp[hlt]⟩
   have hy:ys[j]? = some x:=by
    have:=congrArg (·[0]?) q5
    simpa[hx] using this
   have hj':(j:Int)<ys.length:=by omega
   obtain ⟨u,hu⟩:∃ u,ys[i]? = some u:=⟨ys[i]'(by omega),by rw[List.getElem?_eq_getElem (by omega)]⟩
   have hs:=(hcl x (List.mem_of_getElem? hx)).head (ownT 57 pmL 3 (sl h) ys)
   have ht:(xs.take (j+1)).filter (fun x=>!p x)=(xs.take j).filter (fun x=>!p x)++(if p x=true then [] else [x]):=by
    rw[List.take_add_one,hx,List.filter_append];cases hp:p x<;>simp[hp]
   have hd:ys.drop (j+1)=xs.drop (j+1):=by
    have:=congrArg (List.drop 1) q5
    simpa[List.drop_drop] using this
   cases hp:p x
   all_goals rw[hp] at hs ht
   ·(try refine zI zk324 F M ?_;clear F M a;try clear w);(repeat'(first|refine zA ?_;repeat intro b|refine zC ?_;(first|refine acCall (k:=c) ?_;refine Spec.mono (Spec.fr hs G) ?_;rintro u L' ⟨_,⟨rfl,rfl⟩,rfl⟩;simp only[zc]|refine acCall (k:=c) ?_;refine Spec.mono (Spec.fr (hs.head _) G) ?_;rintro u L' ⟨_,⟨rfl,rfl⟩,rfl⟩;simp only[zc]|refine ac_storeEA (f:=pmL) (v:=sl h) (j:=i) (k:=3) rfl rfl inferInstance x rfl hu inferInstance (by(repeat (first|exact Rep.here|apply Rep.there))) ?_|refine ac_storeE (f:=pmL) (v:=sl h) (j:=i) (k:=3) (i:=0) (xs:=ys) rfl rfl inferInstance rfl rfl hu inferInstance rfl x rfl (by(repeat (first|exact Rep.here|apply Rep.there))) ?_)|refine zB ?_ ?_<;>intro hc<;>try exact no hc|refine zH ?_ ?_<;>(intro hg;rw[hg];try exact no hg)));all_goals try refine zO fun a w F M=>?_
    (refine sv_again F M (i+1,j+1,ys.set i x) kpA permsA ?_ ?_)
    ·refine⟨by simp[q1],by simp only;omega,by simp only;omega,?_,?_⟩
     ·simp only
      rw[ht,← q4,List.take_add_one,List.take_set,List.set_eq_of_length_le (by rw[List.length_take];omega),List.getElem?_set_self (by omega)]
      simp
     ·simp only
      rw[List.drop_set_of_lt (by omega),hd]
    ·simp only;omega
   ·(try refine zI zk324 F M ?_;clear F M a;try clear w);(repeat'(first|refine zA ?_;repeat intro b|refine zC ?_;(first|refine acCall (k:=c) ?_;refine Spec.mono (Spec.fr hs G) ?_;rintro u L' ⟨_,⟨rfl,rfl⟩,rfl⟩;simp only[zc]|refine acCall (k:=c) ?_;refine Spec.mono (Spec.fr (hs.head _) G) ?_;rintro u L' ⟨_,⟨rfl,rfl⟩,rfl⟩;simp only[zc]|refine ac_storeEA (f:=pmL) (v:=sl h) (j:=i) (k:=3) rfl rfl inferInstance x rfl hu inferInstance (by(repeat (first|exact Rep.here|apply Rep.there))) ?_|refine ac_storeE (f:=pmL) (v:=sl h) (j:=i) (k:=3) (i:=0) (xs:=ys) rfl rfl inferInstance rfl rfl hu inferInstance rfl x rfl (by(repeat (first|exact Rep.here|apply Rep.there))) ?_)|refine zB ?_ ?_<;>intro hc<;>try exact no hc|refine zH ?_ ?_<;>(intro hg;rw[hg];try exact no hg)));all_goals try refine zO fun a w F M=>?_
    (refine sv_again F M (i,j+1,ys) kpA permsA ?_ ?_)
    ·exact⟨q1,by simp only;omega,by simp only;omega,by simp only;rw[ht,← q4];simp,hd⟩
    ·simp only;omega
  ·have hjl:j=xs.length:=by omega
   have hin:i≤h.n:=by omega
   have hic:i≤h.c:=by omega
   have hiy:i≤ys.length:=by omega
   rw[hjl,List.take_of_length_le (Nat.le_refl _)] at q4
   have hli:(xs.filter fun x=>!p x).length=i:=by rw[← q4,List.length_take];omega
   have hj':¬((j:Int)<ys.length):=by omega
   (try refine zI zk324 F M ?_;clear F M a;try clear w);(repeat'(first|refine zA ?_;repeat intro b|refine zC ?_;refine ac_clear (h:=h) (j:=i) rfl rfl inferInstance rfl rfl pullA hiy ?_;intro zs hzs|refine zV (h:=⟨_,by(first|(apply rt_from;(exact rfl);(exact rfl);(exact rfl);(exact inferInstance);(exact hin))|(apply rt_to;(exact rfl);(exact rfl);(exact rfl);(exact inferInstance);(exact hic))),?_⟩)|refine zB ?_ ?_<;>intro hc<;>try exact no hc|refine zH ?_ ?_<;>(intro hg;rw[hg];try exact no hg)));all_goals try refine zO fun a w F M=>?_
   all_goals(first|(refine svEnd F M ?_)|(refine svRet F M ?_))
   refine⟨_,_,rfl,⟨⟨h.a,i,h.c⟩,rfl,rfl⟩,?_⟩
   have M:=own_cut M hiy
   rw[hzs,flat_take (f:=pmL) (k:=3) (EL.len),q4] at M
   unfold ownT
   rw[hli]
   exact M
end
end Go.Proofs.YtjbfcacmdahnhaaGreat
