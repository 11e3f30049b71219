import Derived.Test.YtopbohbkhljjgaaGreatZmk
set_option linter.unusedVariables false
set_option linter.unusedSimpArgs false
set_option linter.unusedSectionVars false
set_option maxRecDepth 100000
set_option maxHeartbeats 8000000
namespace Go.Proofs.YtopbohbkhljjgaaGreat
section
open Go.RowKit
structure Asg where
 ix:Int
 cl:Int
 ep:Int
deriving DecidableEq
def asgL (x:Asg):List Value:=[.int .i64 x.ix,.int .i64 x.cl,.int .i64 x.ep]
structure Pm where
 ix:Int
 am:Int
 fl:Bool
deriving DecidableEq
def pmL (x:Pm):List Value:=[.int .i64 x.ix,.int .u64 x.am,.bool x.fl]
instance:EL asgL 3:=⟨fun _=>rfl,fun x u h=>by simp[asgL] at h;rcases h with rfl|rfl|rfl<;>rfl⟩
instance:EL pmL 3:=⟨fun _=>rfl,fun x u h=>by simp[pmL] at h;rcases h with rfl|rfl|rfl<;>rfl⟩
instance:EQF asgL [.int,.int,.int]:=⟨fun x y=>by
 obtain ⟨a,b,c⟩:=x;obtain ⟨d,e,f⟩:=y
 simp only[asgL,cellsEq,scEq,if_true,Bool.and_true,Asg.mk.injEq,Option.some.injEq]
 rw[Bool.eq_iff_iff];simp⟩
instance:EQF pmL [.int,.int,.bool]:=⟨fun x y=>by
 obtain ⟨a,b,c⟩:=x;obtain ⟨d,e,f⟩:=y
 simp only[pmL,cellsEq,scEq,if_true,Bool.and_true,Pm.mk.injEq,Option.some.injEq]
 rw[Bool.eq_iff_iff];simp⟩
structure Rc where
 k:Int
 c:Int
 ix:Int
 bk:Int
 ep:Int
 dl:Int
 vi:Int
 asg:List Asg
 pms:List Pm
deriving DecidableEq
def rcL (r:Rc) (s p:SlH):List Value:=[.int .i64 r.k,.int .i64 r.c,.int .i64 r.ix,.int .i64 r.bk,.int .i64 r.ep,.int .i64 r.dl,sl s,sl p,.int .i64 r.vi]
abbrev rcV (r:Rc) (s p:SlH):Value:=.agg (rcL r s p).toArray
theorem rc_eq (a b:Rc):decide (a=b)=(decide (a.asg=b.asg) && decide (a.pms=b.pms) && (decide (a.k=b.k) && (decide (a.c=b.c) && (decide (a.ix=b.ix) && (decide (a.bk=b.bk) && (decide (a.ep=b.ep) && (decide (a.dl=b.dl) && decide (a.vi=b.vi)))))))):=by
 rw[Bool.eq_iff_iff]
 cases a;cases b
 simp
 constructor
 ·rintro⟨rfl,rfl,rfl,rfl,rfl,rfl,rfl,rfl,rfl⟩;simp
 ·rintro⟨⟨rfl,rfl⟩,rfl,rfl,rfl,rfl,rfl,rfl,rfl⟩;simp
structure RcG (L:List Asn) (x:Rc) (s p:SlH):Prop where
 a:GS L 3 (sl s) x.asg.length (x.asg.flatMap asgL)
 p:GS L 3 (sl p) x.pms.length (x.pms.flatMap pmL)
theorem RcG.imp {L K:List Asn} {x:Rc} {s p:SlH} (h:RcG L x s p) (hk:∀ w,Mem w K→Mem w L):RcG K x s p:=⟨h.a.imp hk,h.p.imp hk⟩
structure Opn where
 k:Int
 ix:Int
 tg:Int
 am:Int
deriving DecidableEq
def opL (o:Opn):List Value:=[.int .i64 o.k,.int .i64 o.ix,.int .i64 o.tg,.int .u64 o.am]
instance:EL opL 4:=⟨fun _=>rfl,fun x u h=>by simp[opL] at h;rcases h with rfl|rfl|rfl|rfl<;>rfl⟩
abbrev nilH:SlH:=⟨none,0,0⟩
theorem RcG.nil {L:List Asn} {k c ix bk ep dl vi:Int}:RcG L ⟨k,c,ix,bk,ep,dl,vi,[],[]⟩ nilH nilH:=⟨GS.nil _ _,GS.nil _ _⟩
structure Rc.wf (x:Rc):Prop where
 k:I64 x.k
 c:I64 x.c
 ix:I64 x.ix
 bk:I64 x.bk
 ep:I64 x.ep
 dl:I64 x.dl
 vi:I64 x.vi
 asg:∀ y∈x.asg,I64 y.ix∧I64 y.cl∧I64 y.ep
 pms:∀ y∈x.pms,I64 y.ix∧U64 y.am
structure RcS where
 r:Rc
 s:SlH
 p:SlH
def rsL (x:RcS):List Value:=rcL x.r x.s x.p
instance:EL rsL 9:=⟨fun _=>rfl,fun x u h=>by simp[rsL,rcL] at h;rcases h with rfl|rfl|rfl|rfl|rfl|rfl|rfl|rfl|rfl<;>rfl⟩
theorem op_of_sh {w:World} {l:List Value} (h:HasSh w (.agg [.int .i64,.int .i64,.int .i64,.int .u64]) l):∃ x:Opn,l=opL x∧(I64 x.k∧I64 x.ix∧I64 x.tg∧U64 x.am):=by
 obtain ⟨c1,r1,rfl,h1,h⟩:=shb_cons h
 obtain ⟨c2,r2,rfl,h2,h⟩:=shb_cons h
 obtain ⟨c3,r3,rfl,h3,h⟩:=shb_cons h
 obtain ⟨c4,r4,rfl,h4,h⟩:=shb_cons h
 have:=shb_nil h;subst this
 obtain ⟨a,rfl,ha⟩:=shb_int h1
 obtain ⟨b,rfl,hb⟩:=shb_int h2
 obtain ⟨c,rfl,hc⟩:=shb_int h3
 obtain ⟨d,rfl,hd⟩:=shb_int h4
 exact⟨⟨a,b,c,d⟩,rfl,i64_wf ha,i64_wf hb,i64_wf hc,u64_wf hd⟩
end
section
open Go.RowKit
def satGo:Int→List Int→Int × Bool
 | n,[]=>(n,false)
 | n,x::r=>if 18446744073709551615<n+x then (18446744073709551615,true) else satGo (n+x) r
theorem wrap_lt {n x:Int} (h:U64 n) (hx:U64 x):(IntKind.u64.wrap (n+x)<n)↔18446744073709551615<n+x:=by
 rw[IntKind.wrap_u64]
 have:=h.1;have:=h.2;have:=hx.1;have:=hx.2
 omega
theorem saturate_reads (v:Value) (zs:List Int) (hz:∀ z∈zs,U64 z) {L:List Asn} (hg:GS L 1 v zs.length (zs.flatMap u64L)) :
  Reads 91 [v] (.tuple [.int .u64 (satGo 0 zs).1,.bool (satGo 0 zs).2].toArray) L:=by
 (intro K hK w M;refine sx_enter Tryz.func91 (n:=23) rfl rfl rfl rfl ?_;intro a F)
 replace hg:=hg.imp hK
 have hlen:=hg.len_le M
 generalize hR:satGo 0 zs=R
 (try refine zI F M ?_;clear F M a;try clear w);(repeat'(first|refine zA zk91 ?_;repeat intro b|refine zB ?_ ?_<;>intro hc<;>try exact no hc|refine zH ?_ ?_<;>(intro hg;rw[hg];try exact no hg)));all_goals try refine⟨fun a w F M=>?_⟩
 refine sv_loop (σ:=Nat × Int) (fun s=>[(4,.int .u64 s.2),(7,v),(8,.int .i64 zs.length),(9,.int .i64 s.1)]) (fun _=>K) (fun s=>s.1≤zs.length∧U64 s.2∧R=satGo s.2 (zs.drop s.1)) (fun s=>zs.length - s.1) F M (0,0) kpA permsA ⟨by omega,⟨by omega,by omega⟩,by simp[hR]⟩ ?_
 rintro⟨k,x⟩ ⟨h1,h2,h3⟩ a w F M
 simp only at h1 h2 h3 F ⊢
 by_cases hlt:k<zs.length
 ·obtain ⟨y,hy⟩:∃ y,zs[k]? = some y:=⟨zs[k],by simp[hlt]⟩
  have hyr:=hz y (List.mem_of_getElem? hy)
  have hd:=drop_cons hy
  by_cases hov:18446744073709551615<x+y
  ·have hw:=(wrap_lt h2 hyr).2 hov
   (try refine zI F M ?_;clear F M a;try clear w);(repeat'(first|refine zA zk91 ?_;repeat intro b|refine zB ?_ ?_<;>intro hc<;>try exact no hc|refine zH ?_ ?_<;>(intro hg;rw[hg];try exact no hg)));all_goals try refine⟨fun a w F M=>?_⟩
   (all_goals((first|(refine svEnd F M ?_)|(refine svRet F M ?_));refine⟨?_,M.perms permsA⟩))
   rw[h3,hd,satGo,if_pos hov];rfl
  ·have hw:¬(IntKind.u64.wrap (x+y)<x):=fun h=>hov ((wrap_lt h2 hyr).1 h)
   have:=h2.1;have:=hyr.1
   (try refine zI F M ?_;clear F M a;try clear w);(repeat'(first|refine zA zk91 ?_;repeat intro b|refine zB ?_ ?_<;>intro hc<;>try exact no hc|refine zH ?_ ?_<;>(intro hg;rw[hg];try exact no hg)));all_goals try refine⟨fun a w F M=>?_⟩
   (refine sv_again F M (k+1,x+y) kpA permsA ?_ ?_)
   ·exact⟨by omega,⟨by omega,by omega⟩,by rw[h3,hd,satGo,if_neg hov]⟩
   ·simp only[];omega
 ·(try refine zI F M ?_;clear F M a;try clear w);(repeat'(first|refine zA zk91 ?_;repeat intro b|refine zB ?_ ?_<;>intro hc<;>try exact no hc|refine zH ?_ ?_<;>(intro hg;rw[hg];try exact no hg)));all_goals try refine⟨fun a w F M=>?_⟩
  (all_goals((first|(refine svEnd F M ?_)|(refine svRet F M ?_));refine⟨?_,M.perms permsA⟩))
  have hk:k=zs.length:=by omega
  rw[h3,hk,List.drop_length,satGo];rfl
def addR (zs:List Int):Int × Bool:=if (satGo 0 zs).2 then (0,false) else ((satGo 0 zs).1,true)
theorem gadd_reads (v:Value) (zs:List Int) (hz:∀ z∈zs,U64 z) {L:List Asn} (hg:GS L 1 v zs.length (zs.flatMap u64L)) :
  Reads 39 [v] (.tuple [.int .u64 (addR zs).1,.bool (addR zs).2].toArray) L:=by
 (intro K hK w M;refine sx_enter Tryz.func39 (n:=13) rfl rfl rfl rfl ?_;intro a F)
 replace hg:=hg.imp hK
 have HS:=Lib.hid (saturate_reads v zs hz hg)
 unfold addR
 generalize satGo 0 zs=R at *
 (try refine zI F M ?_;clear F M a;try clear w);(repeat'(first|refine zA zk39 ?_;repeat intro b|refine zC ?_;refine acCall (k:=91) ?_;refine Spec.of_reads HS.out rfl ?_|refine zB ?_ ?_<;>intro hc<;>try exact no hc|refine zH ?_ ?_<;>(intro hg;rw[hg];try exact no hg)));all_goals try refine⟨fun a w F M=>?_⟩
 (all_goals((first|(refine svEnd F M ?_)|(refine svRet F M ?_));refine⟨?_,M.perms permsA⟩))
 all_goals simp_all [tupOf]
theorem rmax_reads {L:List Asn}:Reads 167 [] (.int .u64 18446744073709551615) L:=by
 (intro K hK w M;refine sx_enter Tryz.func167 (n:=1) rfl rfl rfl rfl ?_;intro a F)
 (try refine zI F M ?_;clear F M a;try clear w);(repeat'(first|refine zA zk167 ?_;repeat intro b|refine zC ?_;refine acCall (k:=91) ?_;refine Spec.of_reads HS.out rfl ?_|refine zB ?_ ?_<;>intro hc<;>try exact no hc|refine zH ?_ ?_<;>(intro hg;rw[hg];try exact no hg)));all_goals try refine⟨fun a w F M=>?_⟩
 (all_goals((first|(refine svEnd F M ?_)|(refine svRet F M ?_));refine⟨?_,M.perms permsA⟩))
 all_goals rfl
def raddGo:Int→List Int→Int × Bool
 | n,[]=>(n,true)
 | n,x::r=>if 18446744073709551615 - n<x then (0,false) else raddGo (n+x) r
theorem raddGo_eq:∀ (l:List Int) (n:Int),raddGo n l=if (satGo n l).2 then (0,false) else ((satGo n l).1,true)
 | [],n=>by simp[raddGo,satGo]
 | x::r,n=>by
  rw[raddGo,satGo]
  by_cases h:18446744073709551615<n+x
  ·rw[if_pos h,if_pos (by omega)];rfl
  ·rw[if_neg h,if_neg (by omega),raddGo_eq r]
theorem radd_reads (v:Value) (zs:List Int) (hz:∀ z∈zs,U64 z) {L:List Asn} (hg:GS L 1 v zs.length (zs.flatMap u64L)) :
  Reads 89 [v] (.tuple [.int .u64 (addR zs).1,.bool (addR zs).2].toArray) L:=by
 (intro K hK w M;refine sx_enter Tryz.func89 (n:=27) rfl rfl rfl rfl ?_;intro a F)
 replace hg:=hg.imp hK
 have hlen:=hg.len_le M
 have hR:addR zs=raddGo 0 zs:=(raddGo_eq zs 0).symm
 generalize addR zs=R at *
 (try refine zI F M ?_;clear F M a;try clear w);(repeat'(first|refine zA zk89 ?_;repeat intro b|refine zC ?_;refine acCall (k:=167) ?_;refine Spec.of_reads rmax_reads rfl ?_|refine zB ?_ ?_<;>intro hc<;>try exact no hc|refine zH ?_ ?_<;>(intro hg;rw[hg];try exact no hg)));all_goals try refine⟨fun a w F M=>?_⟩
 refine sv_loop (σ:=Nat × Int) (fun s=>[(4,.int .u64 s.2),(0,v),(5,.int .i64 s.1)]) (fun _=>K) (fun s=>s.1≤zs.length∧U64 s.2∧R=raddGo s.2 (zs.drop s.1)) (fun s=>zs.length - s.1) F M (0,0) kpA permsA ⟨by omega,⟨by omega,by omega⟩,by simp[hR]⟩ ?_
 rintro⟨k,x⟩ ⟨h1,h2,h3⟩ a w F M
 simp only at h1 h2 h3 F ⊢
 have h21:=h2.1;have h22:=h2.2
 by_cases hlt:k<zs.length
 ·obtain ⟨y,hy⟩:∃ y,zs[k]? = some y:=⟨zs[k],by simp[hlt]⟩
  have hyr:=hz y (List.mem_of_getElem? hy)
  have hy1:=hyr.1;have hy2:=hyr.2
  have hd:=drop_cons hy
  by_cases hov:18446744073709551615 - x<y
  ·(try refine zI F M ?_;clear F M a;try clear w);(repeat'(first|refine zA zk89 ?_;repeat intro b|refine zC ?_;refine acCall (k:=167) ?_;refine Spec.of_reads rmax_reads rfl ?_|refine zB ?_ ?_<;>intro hc<;>try exact no hc|refine zH ?_ ?_<;>(intro hg;rw[hg];try exact no hg)));all_goals try refine⟨fun a w F M=>?_⟩
   (all_goals((first|(refine svEnd F M ?_)|(refine svRet F M ?_));refine⟨?_,M.perms permsA⟩))
   rw[h3,hd,raddGo,if_pos hov];rfl
  ·(try refine zI F M ?_;clear F M a;try clear w);(repeat'(first|refine zA zk89 ?_;repeat intro b|refine zC ?_;refine acCall (k:=167) ?_;refine Spec.of_reads rmax_reads rfl ?_|refine zB ?_ ?_<;>intro hc<;>try exact no hc|refine zH ?_ ?_<;>(intro hg;rw[hg];try exact no hg)));all_goals try refine⟨fun a w F M=>?_⟩
   (refine sv_again F M (k+1,x+y) kpA permsA ?_ ?_)
   ·exact⟨by omega,⟨by omega,by omega⟩,by rw[h3,hd,raddGo,if_neg hov]⟩
   ·simp only[];omega
 ·(try refine zI F M ?_;clear F M a;try clear w);(repeat'(first|refine zA zk89 ?_;repeat intro b|refine zC ?_;refine acCall (k:=167) ?_;refine Spec.of_reads rmax_reads rfl ?_|refine zB ?_ ?_<;>intro hc<;>try exact no hc|refine zH ?_ ?_<;>(intro hg;rw[hg];try exact no hg)));all_goals try refine⟨fun a w F M=>?_⟩
  (all_goals((first|(refine svEnd F M ?_)|(refine svRet F M ?_));refine⟨?_,M.perms permsA⟩))
  have hk:k=zs.length:=by omega
  rw[h3,hk,List.drop_length,raddGo];rfl
end
section
open Go.RowKit
structure St where
 bk:Nat
 V:List Val
 dep:Int
 pd:Int
 bu:Int
 pe:List Nat
 fo:List Nat
 vo:List Nat
 me:List (Nat × Nat)
 pa:List (Nat × Int)
 at':Nat
 ca:Int
 lv:List Nat
 bo:List (Int × Nat)
def St.ini:St:=⟨0,[],0,0,0,[],[],[],[],[],0,0,[],[]⟩
def epo (c:Cfg) (s:St):Int:=(s.bk:Int) / c.epochLen
def Val.live (v:Val):Bool:=decide (v.st=2) || decide (v.st=3)
def bals (V:List Val):List Int:=V.map (·.bal)
def actv (V:List Val):Int:=(bals (V.filter Val.live)).sum
def wAt (W:List Int) (i:Nat):Int:=W.getD i 0
def newV (x:Int):Val:=⟨x,1,false,-1,-1,-1,-1⟩
structure Rs where
 c:Int
 ix:Int
 dl:Int
 s:St
def no' (s:St) (e:Int):Rs:=⟨e,-1,-1,s⟩
def ceilD (a d:Int):Int:=(a+d - 1) / d
def swpB (c:Cfg):Int:=(c.capacity - 1) / (min (c.visits - c.partials) (c.payments - c.partials)) / c.epochLen
def payD (c:Cfg) (ep ahead bal:Int):Option Int :=
 if 18446744073709551615<ahead+bal+c.forcedCap then none
 else if 1099511627776<ceilD (ahead+bal+c.forcedCap) c.minChurn then none
 else
  let t:=ep+max (ceilD (ahead+bal+c.forcedCap) c.minChurn) 1+1+c.unbonding+swpB c
  if 1099511627776<t then none else some t
def opDep (c:Cfg) (s:St) (x:Int):Rs :=
 if x<c.minDeposit∨c.maxDeposit<x then no' s 3
 else if c.capacity≤s.V.length then no' s 5
 else if c.queueSize≤s.pe.length then no' s 6
 else if c.supplyCap<x+(s.dep - s.pd - s.bu) then no' s 4
 else if 18446744073709551615<s.dep+x then no' s 10
 else ⟨0,s.V.length,-1,{s with V:=s.V++[newV x],pe:=s.pe++[s.V.length],dep:=s.dep+x}⟩
def aheadW (s:St) (cl:Int):Int:=((if cl=0 then s.fo else s.fo++s.vo).map (wAt (bals s.V))).sum
def opLeave (c:Cfg) (s:St) (cl ix:Int):Rs :=
 if ix<0 then no' s 7 else
 match s.V[ix.toNat]? with
 | none=>no' s 7
 | some v =>
  if (accR v (epo c s)).1≠0 then no' s (accR v (epo c s)).1
  else if c.queueSize≤(if cl=0 then s.fo else s.vo).length then no' s 6
  else match payD c (epo c s) (aheadW s cl) v.bal with
   | none=>no' s 10
   | some t =>
    let V':=s.V.set ix.toNat {(accR v (epo c s)).2.1 with dl:=t}
    ⟨0,ix,t,if cl=0 then {s with V:=V',fo:=s.fo++[ix.toNat]} else {s with V:=V',vo:=s.vo++[ix.toNat]}⟩
def opSlash (c:Cfg) (s:St) (ix:Int):Rs :=
 if ix<0 then no' s 7 else
 match s.V[ix.toNat]? with
 | none=>no' s 7
 | some v =>
  let r:=slaR v (epo c s) c.slashDelay c.penNum c.penDen
  if r.1≠0 then no' s r.1
  else if v.st=2∧c.queueSize≤s.fo.length then no' s 6
  else
   ⟨0,ix,-1,{s with V:=s.V.set ix.toNat r.2.1,bu:=s.bu+r.2.2,fo:=if v.st=2 then s.fo++[ix.toNat] else s.fo,bo:=if v.st=5 then s.bo++[(r.2.1.wd,ix.toNat)] else s.bo}⟩
def merC (c:Cfg) (a b:Val):Int :=
 if a.st≠2∨b.st≠2 then 8
 else if a.sl=true∨b.sl=true then 9
 else if c.maxBalance<a.bal+b.bal∨18446744073709551615<a.bal+b.bal then 3
 else 0
def merR (c:Cfg) (V:List Val) (i j:Int):Int :=
 if i<0∨j<0 then 7 else
 match V[i.toNat]?,V[j.toNat]? with
 | some a,some b=>if i=j then 12 else merC c a b
 | _,_=>7
def opMerge (c:Cfg) (s:St) (i j:Int):Rs :=
 if merR c s.V i j≠0 then no' s (merR c s.V i j)
 else if c.queueSize≤s.me.length then no' s 6
 else ⟨0,i,-1,{s with me:=s.me++[(i.toNat,j.toNat)]}⟩
def parC (V:List Val) (i x:Int):Int :=
 if i<0 then 7 else
 match V[i.toNat]? with
 | none=>7
 | some v=>if x=0 then 3 else if v.st≠2 then 8 else 0
def opPart (c:Cfg) (s:St) (i x:Int):Rs :=
 if parC s.V i x≠0 then no' s (parC s.V i x)
 else if c.queueSize≤s.pa.length then no' s 6
 else ⟨0,i,-1,{s with pa:=s.pa++[(i.toNat,x)]}⟩
def leaveV (e:Int) (v:Val):Val:=if v.st=3∧v.ex=e then {v with st:=4} else v
def ripeV (e:Int) (v:Val):Val:=if v.st=4∧v.wd≤e then {v with st:=5} else v
def churn (c:Cfg) (V:List Val):Int:=max c.minChurn (actv V / c.quotient)
def takeW (W:List Int):Int→List Nat→Nat × Int
 | x,[]=>(0,x)
 | x,i::r=>if wAt W i≤x then ((takeW W (x - wAt W i) r).1+1,(takeW W (x - wAt W i) r).2) else (0,x)
def granted (ca ch:Int):Int:=ca+min ch (18446744073709551615 - ca)
def setAsg (c:Cfg) (e:Int) (v:Val):Val:={v with ex:=e,wd:=max v.wd (e+c.unbonding)}
def mods (f:Val→Val) (V:List Val) (l:List Nat):List Val:=l.foldl (fun V i=>V.modify i f) V
def actGo (W:List Int) (lim:Int):Int→List Nat→Nat
 | _,[]=>0
 | s,i::r=>if lim<s+wAt W i∨18446744073709551615<s+wAt W i then 0 else actGo W lim (s+wAt W i) r+1
def actN (W:List Int) (lim:Int):List Nat→Nat
 | []=>0
 | i::r=>actGo W lim (wAt W i) r+1
def actV (v:Val):Val:={v with st:=2}
def merV (c:Cfg) (V:List Val) (p:Nat × Nat):List Val :=
 if merR c V p.1 p.2=0 then (V.modify p.1 fun a=>{a with bal:=0,st:=7}).modify p.2 fun b=>{b with bal:=b.bal+(V.getD p.1 Val.zero).bal} else V
def asgs (e:Int) (fo vo:List Nat) (k:Nat):List Asg:=(fo.take k).map (fun i=>⟨i,0,e⟩)++(vo.take (k - fo.length)).map (fun i=>⟨i,1,e⟩)
structure Bd where
 ag:List Asg
 s:St
def boundM (c:Cfg) (s:St):Bd :=
 let e:=epo c s
 let V1:=s.V.map (leaveV e)
 let V2:=V1.map (ripeV e)
 let ch:=churn c V2
 let t:=takeW (bals V2) (granted s.ca ch) (s.fo++s.vo)
 let ix:=(s.fo++s.vo).take t.1
 let V3:=mods (setAsg c (e+1)) V2 ix
 let n:=actN (bals V3) ch s.pe
 let V4:=mods actV V3 (s.pe.take n)
 let V5:=(s.me.take c.merges.toNat).foldl (merV c) V4
 let due:=(s.bo.filter fun x=>decide (x.1=e)).map (·.2)
 ⟨asgs (e+1) s.fo s.vo t.1,{s with
  V:=V5,fo:=s.fo.drop t.1,vo:=s.vo.drop (t.1 - s.fo.length),ca:=if t.1=(s.fo++s.vo).length then 0 else t.2,
  pe:=s.pe.drop n,me:=s.me.drop c.merges.toNat,lv:=ix,
  bo:=(s.bo.filter fun x=>decide (x.1≠e))++((due.filter fun i=>decide (e<(V1.getD i Val.zero).wd)).map fun i=>((V1.getD i Val.zero).wd,i))++ix.map fun i=>((V3.getD i Val.zero).wd,i)}⟩
def availV (c:Cfg) (v:Val):Int:=if v.st≠2∨v.sl=true∨v.bal≤c.minBalance then 0 else v.bal - c.minBalance
def parV (c:Cfg) (Z:List Val × List Pm) (r:Nat × Int):List Val × List Pm :=
 match Z.1[r.1]? with
 | none=>Z
 | some v =>
  let x:=min r.2 (availV c v)
  (Z.1.set r.1 {v with bal:=v.bal - x},if 0<x then Z.2++[⟨r.1,x,false⟩] else Z.2)
def sweepGo (V:List Val) (pays:Nat):Nat→Nat→List Nat→List Nat × Nat × Nat
 | 0,at',l=>(l,0,at')
 | k+1,at',l =>
  if l.length=pays then (l,0,at')
  else
   let i:=at' % V.length
   let r:=sweepGo V pays k ((i+1) % V.length) (if (V.getD i Val.zero).st=5 then l++[i] else l)
   (r.1,r.2.1+1,r.2.2)
def payV (v:Val):Val:={v with bal:=0,st:=6}
structure Py where
 pm:List Pm
 vi:Nat
 s:St
def payM (c:Cfg) (s:St):Py :=
 let q:=s.pa.take c.partials.toNat
 let Z:=q.foldl (parV c) (s.V,[])
 let r:=sweepGo Z.1 (c.payments.toNat - Z.2.length) (min (c.visits.toNat - q.length) Z.1.length) s.at' []
 let pm:=Z.2++r.1.map fun (i:Nat)=>(⟨i,(Z.1.getD i Val.zero).bal,true⟩:Pm)
 ⟨pm,q.length+r.2.1,{s with V:=mods payV Z.1 r.1,pa:=s.pa.drop c.partials.toNat,at':=r.2.2,pd:=s.pd+(pm.map (·.am)).sum}⟩
def tickM (c:Cfg) (s:St):Rc × St :=
 let s1:={s with bk:=s.bk+1}
 let b:=if ((s.bk+1:Nat):Int) % c.epochLen=0 then boundM c s1 else ⟨[],s1⟩
 let p:=payM c b.s
 (⟨7,0,-1,s.bk+1,epo c s1,-1,p.vi,b.ag,p.pm⟩,p.s)
def opM (c:Cfg) (s:St) (o:Opn):Rs :=
 if o.k=1 then opDep c s o.am
 else if o.k=2 then opLeave c s 1 o.ix
 else if o.k=3 then opLeave c s 0 o.ix
 else if o.k=4 then opSlash c s o.ix
 else if o.k=5 then opMerge c s o.ix o.tg
 else if o.k=6 then opPart c s o.ix o.am
 else no' s 11
def stepM (c:Cfg) (s:St) (o:Opn):Rc × St :=
 if o.k=7 then tickM c s
 else (⟨o.k,(opM c s o).c,(opM c s o).ix,s.bk,epo c s,(opM c s o).dl,0,[],[]⟩,(opM c s o).s)
def runM (c:Cfg):St→List Opn→List Rc × St
 | s,[]=>([],s)
 | s,o::r=>((stepM c s o).1::(runM c (stepM c s o).2 r).1,(runM c (stepM c s o).2 r).2)
end
section
open Go.RowKit
abbrev ckC (b k:Nat) (e:Int):Asn:=pt b [.int .i64 (k:Int),.int .i64 e] 184
section
variable (b k:Nat) (e:Int) (he:1≤e∧e≤4096) (hk:k≤1000000001) (R:List Asn)
include he in
theorem clk_new:Spec 54 [.int .i64 e] R fun u L'=>∃ b,u=ptr b∧L'=ckC b 0 e::R:=by
 refine zGz Tryz.func54 ?_;intro G;(repeat'(first|refine zA zk54 ?_;repeat intro nb|refine zB ?_ ?_<;>intro hc<;>try exact no hc|refine zH ?_ ?_<;>(intro hg;rw[hg];try exact no hg)));all_goals try refine⟨fun a w F M=>?_⟩
 (all_goals(refine zE F M ?_;exact⟨_,_,rfl,⟨nb,rfl,rfl⟩,M.perms permsA⟩))
theorem clk_now:Spec 157 [ptr b] (ckC b k e::R) fun u L'=>u=.int .i64 k∧L'=ckC b k e::R:=by
 refine zGz Tryz.func157 ?_;intro G;(repeat'(first|refine zA zk157 ?_;repeat intro nb|refine zB ?_ ?_<;>intro hc<;>try exact no hc|refine zH ?_ ?_<;>(intro hg;rw[hg];try exact no hg)));all_goals exact zXz
include hk in
theorem clk_next:Spec 192 [ptr b] (ckC b k e::R) fun u L'=>u=.tuple #[]∧L'=ckC b (k+1) e::R:=by
 refine zGz Tryz.func192 ?_;intro G;(repeat'(first|refine zA zk192 ?_;repeat intro nb|refine zB ?_ ?_<;>intro hc<;>try exact no hc|refine zH ?_ ?_<;>(intro hg;rw[hg];try exact no hg)));all_goals try refine⟨fun a w F M=>?_⟩
 all_goals refine zE F M ?_
 have e1:(k:Int)+1=((k+1:Nat):Int):=by omega
 rw[e1] at M
 exact⟨_,_,rfl,⟨rfl,rfl⟩,M.perms permsA⟩
theorem clk_block:Spec 73 [ptr b] (ckC b k e::R) fun u L'=>u=.int .i64 k∧L'=ckC b k e::R:=by
 refine zGz Tryz.func73 ?_;intro G;(repeat'(first|refine zA zk73 ?_;repeat intro nb|refine zC ?_;refine kp (k:=157) (clk_now b k e _) ?_|refine zB ?_ ?_<;>intro hc<;>try exact no hc|refine zH ?_ ?_<;>(intro hg;rw[hg];try exact no hg)));all_goals exact zXz
include he hk in
theorem epochOf_spec:Spec 158 [.int .i64 k,.int .i64 e] R fun u L'=>u=.int .i64 ((k:Int) / e)∧L'=R:=by
 have hd0:0≤(k:Int) / e:=Int.ediv_nonneg (by omega) (by omega)
 have hd1:(k:Int) / e≤k:=Int.ediv_le_self _ (by omega)
 have hw:IntKind.i64.wrap ((k:Int) / e)=(k:Int) / e:=IntWalk.i64_in _ ⟨by omega,by omega⟩
 refine zGz Tryz.func158 ?_;intro G;(repeat'(first|refine zA zk158 ?_;repeat intro nb|refine zC ?_;refine kp (k:=157) (clk_now b k e _) ?_|refine zB ?_ ?_<;>intro hc<;>try exact no hc|refine zH ?_ ?_<;>(intro hg;rw[hg];try exact no hg)));all_goals exact zXz
include he hk in
theorem clk_epoch:Spec 74 [ptr b] (ckC b k e::R) fun u L'=>u=.int .i64 ((k:Int) / e)∧L'=ckC b k e::R:=by
 refine zGz Tryz.func74 ?_;intro G;(repeat'(first|refine zA zk74 ?_;repeat intro nb|refine zC ?_;(first|refine kp (k:=157) (clk_now b k e _) ?_|refine kpW (k:=158) (epochOf_spec k e he hk _) ?_)|refine zB ?_ ?_<;>intro hc<;>try exact no hc|refine zH ?_ ?_<;>(intro hg;rw[hg];try exact no hg)));all_goals exact zXz
include he hk in
theorem clk_tick:Spec 137 [ptr b] (ckC b k e::R) fun u L'=>u=.bool (decide (((k+1:Nat):Int) % e=0))∧L'=ckC b (k+1) e::R:=by
 refine zGz Tryz.func137 ?_;intro G;(repeat'(first|refine zA zk137 ?_;repeat intro nb|refine zC ?_;(first|refine kp (k:=157) (clk_now b (k+1) e _) ?_|refine kp (k:=192) (clk_next b k e hk _) ?_)|refine zB ?_ ?_<;>intro hc<;>try exact no hc|refine zH ?_ ?_<;>(intro hg;rw[hg];try exact no hg)));all_goals exact zXz
end
abbrev ldC (b:Nat) (d p u c:Int):Asn:=pt b [.int .u64 d,.int .u64 p,.int .u64 u,.int .u64 c] 188
theorem addR_one {x:Int} (h:U64 x):addR [x]=(x,true):=by
 have:=h.1;have:=h.2
 have e:satGo 0 [x]=(x,false):=by rw[satGo,if_neg (by omega),satGo,Int.zero_add]
 rw[addR,e];rfl
theorem addR_two {x y:Int} (h:U64 x) (k:U64 y):addR [x,y]=if 18446744073709551615<x+y then (0,false) else (x+y,true):=by
 have:=h.1;have:=h.2;have:=k.1;have:=k.2
 by_cases h:18446744073709551615<x+y
 ·have e:satGo 0 [x,y]=(18446744073709551615,true):=by rw[satGo,if_neg (by omega),satGo,if_pos (by omega)]
  rw[addR,e,if_pos h];rfl
 ·have e:satGo 0 [x,y]=(x+y,false):=by rw[satGo,if_neg (by omega),satGo,if_neg (by omega),satGo,Int.zero_add]
  rw[addR,e,if_neg h];rfl
section
variable (b:Nat) (d p u c:Int) (h0:0≤p∧0≤u∧p+u≤d∧d≤18446744073709551615) (R:List Asn)
theorem led_new:Spec 55 [.int .u64 c] R fun v L'=>∃ b,v=ptr b∧L'=ldC b 0 0 0 c::R:=by
 refine zGz Tryz.func55 ?_;intro G;(repeat'(first|refine zA zk55 ?_;repeat intro nb|refine zC ?_;(first|refine kp (k:=157) (clk_now b (k+1) e _) ?_|refine kp (k:=192) (clk_next b k e hk _) ?_)|refine zB ?_ ?_<;>intro hc<;>try exact no hc|refine zH ?_ ?_<;>(intro hg;rw[hg];try exact no hg)));all_goals try refine⟨fun a w F M=>?_⟩
 (all_goals(refine zE F M ?_;exact⟨_,_,rfl,⟨nb,rfl,rfl⟩,M.perms permsA⟩))
theorem led_totals:Spec 77 [ptr b] (ldC b d p u c::R) fun v L'=>v=.agg [.int .u64 d,.int .u64 p,.int .u64 u].toArray∧L'=ldC b d p u c::R:=by
 refine zGz Tryz.func77 ?_;intro G;(repeat'(first|refine zA zk77 ?_;repeat intro nb|refine zC ?_;(first|refine kp (k:=157) (clk_now b (k+1) e _) ?_|refine kp (k:=192) (clk_next b k e hk _) ?_)|refine zB ?_ ?_<;>intro hc<;>try exact no hc|refine zH ?_ ?_<;>(intro hg;rw[hg];try exact no hg)));all_goals exact zXz
include h0 in
theorem led_rest:Spec 207 [ptr b] (ldC b d p u c::R) fun v L'=>v=.int .u64 (d - p - u)∧L'=ldC b d p u c::R:=by
 refine zGz Tryz.func207 ?_;intro G;(repeat'(first|refine zA zk207 ?_;repeat intro nb|refine zC ?_;(first|refine kp (k:=157) (clk_now b (k+1) e _) ?_|refine kp (k:=192) (clk_next b k e hk _) ?_)|refine zB ?_ ?_<;>intro hc<;>try exact no hc|refine zH ?_ ?_<;>(intro hg;rw[hg];try exact no hg)));all_goals exact zXz
include h0 in
theorem led_dep (x:Int) (hx:U64 x) (hc:d - p - u≤c∧c≤18446744073709551615):Spec 142 [ptr b,.int .u64 x] (ldC b d p u c::R) fun v L'=>v=.int .i64 (if c<x+(d - p - u) then 4 else if 18446744073709551615<d+x then 10 else 0)∧L'=ldC b (if c<x+(d - p - u) then d else if 18446744073709551615<d+x then d else d+x) p u c::R:=by
 have hd:U64 d:=⟨by omega,by omega⟩
 have:=hx.1;have:=hx.2
 have ha:∀ {L:List Asn} {v:Value},GS L 1 v 2 ([d,x].flatMap u64L)→Reads 39 [v] (.tuple [.int .u64 (addR [d,x]).1,.bool (addR [d,x]).2].toArray) L:=fun hg=>gadd_reads _ [d,x] (by simp;exact⟨hd,hx⟩) hg
 rw[addR_two hd hx] at ha
 by_cases h1:c<x+(d - p - u)
 ·simp only[h1,if_true]
  refine zGz Tryz.func142 ?_;intro G;(repeat'(first|refine zA zk142 ?_;repeat intro nb|refine zC ?_;refine kp (k:=207) (led_rest b d p u c h0 _) ?_|refine zB ?_ ?_<;>intro hc<;>try exact no hc|refine zH ?_ ?_<;>(intro hg;rw[hg];try exact no hg)));all_goals exact zXz
 ·simp only[h1,if_false]
  by_cases h2:18446744073709551615<d+x
  ·simp only[h2,if_true] at ha ⊢
   refine zGz Tryz.func142 ?_;intro G;(repeat'(first|refine zA zk142 ?_;repeat intro nb|refine zC ?_;(first|refine kp (k:=207) (led_rest b d p u c h0 _) ?_|refine acCall (k:=39) ?_;refine Spec.of_reads (ha (gs_own (by(focus ((repeat (first|exact Pull.here|apply Pull.there));done))))) rfl ?_)|refine zB ?_ ?_<;>intro hc<;>try exact no hc|refine zH ?_ ?_<;>(intro hg;rw[hg];try exact no hg)));all_goals exact zXz
  ·simp only[h2,if_false] at ha ⊢
   refine zGz Tryz.func142 ?_;intro G;(repeat'(first|refine zA zk142 ?_;repeat intro nb|refine zC ?_;(first|refine kp (k:=207) (led_rest b d p u c h0 _) ?_|refine acCall (k:=39) ?_;refine Spec.of_reads (ha (gs_own (by(focus ((repeat (first|exact Pull.here|apply Pull.there));done))))) rfl ?_)|refine zB ?_ ?_<;>intro hc<;>try exact no hc|refine zH ?_ ?_<;>(intro hg;rw[hg];try exact no hg)));all_goals exact zXz
include h0 in
theorem led_pay (x:Int) (hx:0≤x∧x≤d - p - u):Spec 206 [ptr b,.int .u64 x] (ldC b d p u c::R) fun v L'=>v=.int .i64 0∧L'=ldC b d (p+x) u c::R:=by
 have hx':U64 x:=⟨by omega,by omega⟩
 have ha:∀ {L:List Asn} {v:Value},GS L 1 v 1 ([x].flatMap u64L)→Reads 39 [v] (.tuple [.int .u64 (addR [x]).1,.bool (addR [x]).2].toArray) L:=fun hg=>gadd_reads _ [x] (by simp;exact hx') hg
 rw[addR_one hx'] at ha
 have hb:∀ (nb:Nat) (R:List Asn),Spec 221 [ptr b,.pointer (some ⟨b,1,none⟩),.slice (some ⟨nb,0,none⟩) 1 1] (ldC b d p u c::own 23 1 (.slice (some ⟨nb,0,none⟩) 1 1) 1 (cellsL [.int .u64 x])::R) fun v L'=>v=.int .i64 0∧L'=ldC b d (p+x) u c::R:=fun nb R=>by
  refine zGz Tryz.func221 ?_;intro G;(repeat'(first|refine zA zk221 ?_;repeat intro nb|refine zC ?_;(first|refine kp (k:=207) (led_rest b d p u c h0 _) ?_|refine acCall (k:=39) ?_;refine Spec.of_reads (ha (gs_own (by(focus ((repeat (first|exact Pull.here|apply Pull.there));done))))) rfl ?_)|refine zB ?_ ?_<;>intro hc<;>try exact no hc|refine zH ?_ ?_<;>(intro hg;rw[hg];try exact no hg)));all_goals exact zXz
 refine zGz Tryz.func206 ?_;intro G;(repeat'(first|refine zA zk206 ?_;repeat intro nb|refine zC ?_;refine kp (k:=221) (hb _ _) ?_|refine zB ?_ ?_<;>intro hc<;>try exact no hc|refine zH ?_ ?_<;>(intro hg;rw[hg];try exact no hg)));all_goals exact zXz
include h0 in
theorem led_burn (x:Int) (hx:0≤x∧x≤d - p - u):Spec 150 [ptr b,.int .u64 x] (ldC b d p u c::R) fun v L'=>v=.int .i64 0∧L'=ldC b d p (u+x) c::R:=by
 have hx':U64 x:=⟨by omega,by omega⟩
 have ha:∀ {L:List Asn} {v:Value},GS L 1 v 1 ([x].flatMap u64L)→Reads 39 [v] (.tuple [.int .u64 (addR [x]).1,.bool (addR [x]).2].toArray) L:=fun hg=>gadd_reads _ [x] (by simp;exact hx') hg
 rw[addR_one hx'] at ha
 have hb:∀ (nb:Nat) (R:List Asn),Spec 221 [ptr b,.pointer (some ⟨b,2,none⟩),.slice (some ⟨nb,0,none⟩) 1 1] (ldC b d p u c::own 23 1 (.slice (some ⟨nb,0,none⟩) 1 1) 1 (cellsL [.int .u64 x])::R) fun v L'=>v=.int .i64 0∧L'=ldC b d p (u+x) c::R:=fun nb R=>by
  refine zGz Tryz.func221 ?_;intro G;(repeat'(first|refine zA zk221 ?_;repeat intro nb|refine zC ?_;(first|refine kp (k:=207) (led_rest b d p u c h0 _) ?_|refine acCall (k:=39) ?_;refine Spec.of_reads (ha (gs_own (by(focus ((repeat (first|exact Pull.here|apply Pull.there));done))))) rfl ?_)|refine zB ?_ ?_<;>intro hc<;>try exact no hc|refine zH ?_ ?_<;>(intro hg;rw[hg];try exact no hg)));all_goals exact zXz
 refine zGz Tryz.func150 ?_;intro G;(repeat'(first|refine zA zk150 ?_;repeat intro nb|refine zC ?_;refine kp (k:=221) (hb _ _) ?_|refine zB ?_ ?_<;>intro hc<;>try exact no hc|refine zH ?_ ?_<;>(intro hg;rw[hg];try exact no hg)));all_goals exact zXz
end
structure MtZ where
 g:Int
 t:Int
 d:Int
 f:Int
abbrev mtP (b:Nat) (z:MtZ):Asn:=pt b [.int .u64 z.g,.int .u64 z.t,.int .u64 z.d,.int .u64 z.f] 199
def MtOk (ca:Int) (z:MtZ):Prop:=IntKind.u64.wrap (IntKind.u64.wrap (z.g - z.t) - z.d)=ca∧U64 z.g∧U64 z.t∧U64 z.d
def mtA (b:Nat) (ca:Int):Asn:=exA fun z:MtZ=>[factA (MtOk ca z),mtP b z]
theorem mt_open {w:World} {L:List Asn} {b:Nat} {ca:Int} (M:Mem w (mtA b ca::L)):∃ z,MtOk ca z∧Mem w (mtP b z::L):=by
 obtain ⟨z,M⟩:=M.exo
 obtain ⟨h,M⟩:=Mem.factO M
 exact⟨z,h,M⟩
theorem mt_close {w:World} {L:List Asn} {b:Nat} {ca:Int} {z:MtZ} (h:MtOk ca z) (M:Mem w (mtP b z::L)):Mem w (mtA b ca::L):=Mem.exc z (Mem.fact h M)
section
variable (b:Nat) (ca:Int) (R:List Asn)
theorem mt_new:Spec 58 [] R fun u L'=>∃ b,u=ptr b∧L'=mtA b 0::R:=by
 refine zGz Tryz.func58 ?_;intro G;(repeat'(first|refine zA zk58 ?_;repeat intro nb|refine zC ?_;refine kp (k:=221) (hb _ _) ?_|refine zB ?_ ?_<;>intro hc<;>try exact no hc|refine zH ?_ ?_<;>(intro hg;rw[hg];try exact no hg)));all_goals try refine⟨fun a w F M=>?_⟩
 all_goals refine zE F M ?_
 exact⟨_,_,rfl,⟨nb,rfl,rfl⟩,mt_close (z:=⟨0,0,0,0⟩) ⟨by decide,⟨by decide,by decide⟩,⟨by decide,by decide⟩,⟨by decide,by decide⟩⟩ (M.perms permsA)⟩
theorem mt_bal0 (z:MtZ) (h:MtOk ca z):Spec 166 [ptr b] (mtP b z::R) fun u L'=>u=.int .u64 ca∧L'=mtP b z::R:=by
 obtain ⟨h1,h2,h3,h4⟩:=h
 refine zGz Tryz.func166 ?_;intro G;(repeat'(first|refine zA zk166 ?_;repeat intro nb|refine zC ?_;refine kp (k:=221) (hb _ _) ?_|refine zB ?_ ?_<;>intro hc<;>try exact no hc|refine zH ?_ ?_<;>(intro hg;rw[hg];try exact no hg)));all_goals try refine⟨fun a w F M=>?_⟩
 all_goals refine zE F M ?_
 exact⟨_,_,rfl,⟨by rw[← h1];rfl,rfl⟩,M.perms permsA⟩
theorem mt_bal (h0:U64 ca):Spec 85 [ptr b] (mtA b ca::R) fun u L'=>u=.int .u64 ca∧L'=mtA b ca::R:=by
 intro G w M
 obtain ⟨z,h,M2⟩:=mt_open (L:=R++G) M
 clear M;have M:=M2;clear M2
 (refine zGe Tryz.func85 ?_;intro a F;(try simp only[zc,zn] at M))
 (try refine zI F M ?_;clear F M a;try clear w);(repeat'(first|refine zA zk85 ?_;repeat intro nb|refine zC ?_;refine kp (k:=166) (mt_bal0 b ca _ z h) ?_|refine zB ?_ ?_<;>intro hc<;>try exact no hc|refine zH ?_ ?_<;>(intro hg;rw[hg];try exact no hg)));all_goals try refine⟨fun a w F M=>?_⟩
 all_goals refine zE F M ?_
 exact⟨_,_,rfl,⟨rfl,rfl⟩,mt_close h (M.perms permsA)⟩
theorem mt_free (z:MtZ) (h:MtOk ca z) (h0:U64 ca):Spec 333 [ptr b] (mtP b z::R) fun u L'=>u=.int .u64 (18446744073709551615 - ca)∧L'=mtP b z::R:=by
 have:=h0.1;have:=h0.2
 refine zGz Tryz.func333 ?_;intro G;(repeat'(first|refine zA zk333 ?_;repeat intro nb|refine zC ?_;refine kp (k:=166) (mt_bal0 b ca _ z h) ?_|refine zB ?_ ?_<;>intro hc<;>try exact no hc|refine zH ?_ ?_<;>(intro hg;rw[hg];try exact no hg)));all_goals exact zXz
theorem mt_grant_ok {ca x:Int} {z:MtZ} (h:MtOk ca z) (h0:0≤x) (h1:ca+x≤18446744073709551615):MtOk (ca+x) ⟨IntKind.u64.wrap (z.g+x),z.t,z.d,z.t⟩:=by
 obtain ⟨h2,h3,h4,h5⟩:=h
 unfold MtOk U64 at *
 simp only[IntKind.wrap_u64] at *
 omega
theorem mt_take_ok {ca x:Int} {z:MtZ} (h:MtOk ca z) (h0:0≤x) (h1:x≤ca):MtOk (ca - x) ⟨z.g,IntKind.u64.wrap (z.t+x),z.d,z.f⟩:=by
 obtain ⟨h2,h3,h4,h5⟩:=h
 unfold MtOk U64 at *
 simp only[IntKind.wrap_u64] at *
 omega
theorem mt_drop_ok {ca:Int} {z:MtZ} (h:MtOk ca z):MtOk 0 ⟨z.g,z.t,IntKind.u64.wrap (z.d+ca),z.f⟩:=by
 obtain ⟨h2,h3,h4,h5⟩:=h
 unfold MtOk U64 at *
 simp only[IntKind.wrap_u64] at *
 omega
theorem u64_wrap_id {x:Int} (h:U64 x):IntKind.u64.wrap x=x:=by rw[IntKind.wrap_u64];have:=h.1;have:=h.2;omega
theorem rt_addW {o:Oper} {n:Nat} {l:List (Nat × Value)} {L:List Asn} {t ty:TypeId} {x y:Operand} (ho:o.op=.binOp .add t x y ty) {m p:Int} (hx:evl l x=some (.int .u64 m)) (hy:evl l y=some (.int .u64 p)):RT o l L n (.int .u64 (IntKind.u64.wrap (m+p))):=rt_arith ho hx hy rfl
theorem mt_grant (x:Int) (h0:U64 ca) (hx:0≤x):Spec 308 [ptr b,.int .u64 x] (mtA b ca::R) fun u L'=>u=.int .u64 (ca+min x (18446744073709551615 - ca))∧L'=mtA b (ca+min x (18446744073709551615 - ca))::R:=by
 intro G w M
 obtain ⟨z,h,M2⟩:=mt_open (L:=R++G) M
 clear M;have M:=M2;clear M2
 have c1:=h0.1;have c2:=h0.2
 obtain ⟨y,hy⟩:∃ y,min x (18446744073709551615 - ca)=y:=⟨_,rfl⟩
 have hmin:(if 18446744073709551615 - ca<x then 18446744073709551615 - ca else x)=y:=by split<;>omega
 have hok:=mt_grant_ok (x:=y) h (by omega) (by omega)
 rw[hy]
 (refine zGe Tryz.func308 ?_;intro a F;(try simp only[zc,zn] at M))
 (try refine zI F M ?_;clear F M a;try clear w);(repeat'(first|refine zV (h:=⟨_,by((first|(apply rt_min2;(exact rfl);(exact rfl);(exact hmin))|(apply rt_addW;(exact rfl);(exact rfl);(exact rfl)))),?_⟩)|refine zA1 zk308 ?_;repeat intro(nb:Nat)|refine zC ?_;(first|refine kp (k:=333) (mt_free b ca _ z h h0) ?_|refine kp (k:=166) (mt_bal0 b (ca+y) _ _ hok) ?_)|refine zB ?_ ?_<;>intro hc<;>try exact no hc|refine zH ?_ ?_<;>(intro hg;rw[hg];try exact no hg)));all_goals try refine⟨fun a w F M=>?_⟩
 all_goals refine zE F M ?_
 exact⟨_,_,rfl,⟨rfl,rfl⟩,mt_close hok (M.perms permsA)⟩
theorem gsub_spec (a x:Int) (ha:U64 a) (hx:U64 x):Spec 334 [.int .u64 a,.int .u64 x] R fun u L'=>u=.tuple [.int .u64 (if a<x then 0 else a - x),.bool (!decide (a<x))].toArray∧L'=R:=by
 have:=ha.1;have:=ha.2;have:=hx.1;have:=hx.2
 by_cases h:a<x
 ·refine zGz Tryz.func334 ?_;intro G;(repeat'(first|refine zA zk334 ?_;repeat intro nb|refine zB ?_ ?_<;>intro hc<;>try exact no hc|refine zH ?_ ?_<;>(intro hg;rw[hg];try exact no hg)));all_goals try refine⟨fun a w F M=>?_⟩
  (all_goals(refine zE F M ?_;exact⟨_,_,rfl,⟨by simp[h,tupOf],rfl⟩,M.perms permsA⟩))
 ·refine zGz Tryz.func334 ?_;intro G;(repeat'(first|refine zA zk334 ?_;repeat intro nb|refine zB ?_ ?_<;>intro hc<;>try exact no hc|refine zH ?_ ?_<;>(intro hg;rw[hg];try exact no hg)));all_goals try refine⟨fun a w F M=>?_⟩
  (all_goals(refine zE F M ?_;exact⟨_,_,rfl,⟨by simp[h,tupOf],rfl⟩,M.perms permsA⟩))
theorem mt_take (x:Int) (h0:U64 ca) (hx:U64 x):Spec 309 [ptr b,.int .u64 x] (mtA b ca::R) fun u L'=>u=.bool (decide (x≤ca))∧L'=mtA b (if x≤ca then ca - x else ca)::R:=by
 intro G w M
 obtain ⟨z,h,M2⟩:=mt_open (L:=R++G) M
 clear M;have M:=M2;clear M2
 have c1:=h0.1;have c2:=h0.2;have c3:=hx.1;have c4:=hx.2
 by_cases hle:x≤ca
 ·have hlt:¬ca<x:=by omega
  have hok:=mt_take_ok (x:=x) h (by omega) (by omega)
  have hs:=fun R=>gsub_spec R ca x h0 hx
  simp only[hlt,decide_false,Bool.not_false,if_false] at hs
  (refine zGe Tryz.func309 ?_;intro a F;(try simp only[zc,zn] at M))
  (try refine zI F M ?_;clear F M a;try clear w);(repeat'(first|refine zV (h:=⟨_,by((apply rt_addW;(exact rfl);(exact rfl);(exact rfl))),?_⟩)|refine zA1 zk309 ?_;repeat intro(nb:Nat)|refine zC ?_;(first|refine kp (k:=166) (mt_bal0 b ca _ z h) ?_|refine kpW (k:=334) (hs _) ?_)|refine zB ?_ ?_<;>intro hc<;>try exact no hc|refine zH ?_ ?_<;>(intro hg;rw[hg];try exact no hg)));all_goals try refine⟨fun a w F M=>?_⟩
  all_goals refine zE F M ?_
  exact⟨_,_,rfl,⟨by simp[hle,tupOf],by rw[if_pos hle]⟩,mt_close hok (M.perms permsA)⟩
 ·have hlt:ca<x:=by omega
  have hs:=fun R=>gsub_spec R ca x h0 hx
  simp only[hlt,decide_true,Bool.not_true,if_true] at hs
  (refine zGe Tryz.func309 ?_;intro a F;(try simp only[zc,zn] at M))
  (try refine zI F M ?_;clear F M a;try clear w);(repeat'(first|refine zV (h:=⟨_,by((apply rt_addW;(exact rfl);(exact rfl);(exact rfl))),?_⟩)|refine zA1 zk309 ?_;repeat intro(nb:Nat)|refine zC ?_;(first|refine kp (k:=166) (mt_bal0 b ca _ z h) ?_|refine kpW (k:=334) (hs _) ?_)|refine zB ?_ ?_<;>intro hc<;>try exact no hc|refine zH ?_ ?_<;>(intro hg;rw[hg];try exact no hg)));all_goals try refine⟨fun a w F M=>?_⟩
  all_goals refine zE F M ?_
  exact⟨_,_,rfl,⟨by simp[hle,tupOf],by rw[if_neg hle]⟩,mt_close h (M.perms permsA)⟩
theorem mt_drop (h0:U64 ca):Spec 312 [ptr b] (mtA b ca::R) fun u L'=>u=.int .u64 ca∧L'=mtA b 0::R:=by
 intro G w M
 obtain ⟨z,h,M2⟩:=mt_open (L:=R++G) M
 clear M;have M:=M2;clear M2
 have hok:=mt_drop_ok h
 (refine zGe Tryz.func312 ?_;intro a F;(try simp only[zc,zn] at M))
 (try refine zI F M ?_;clear F M a;try clear w);(repeat'(first|refine zV (h:=⟨_,by((apply rt_addW;(exact rfl);(exact rfl);(exact rfl))),?_⟩)|refine zA1 zk312 ?_;repeat intro(nb:Nat)|refine zC ?_;refine kp (k:=166) (mt_bal0 b ca _ z h) ?_|refine zB ?_ ?_<;>intro hc<;>try exact no hc|refine zH ?_ ?_<;>(intro hg;rw[hg];try exact no hg)));all_goals try refine⟨fun a w F M=>?_⟩
 all_goals refine zE F M ?_
 exact⟨_,_,rfl,⟨rfl,rfl⟩,mt_close hok (M.perms permsA)⟩
end
end
section
open Go.RowKit Go.Maps
instance:MT 178 3 3:=⟨by kernel_rfl,int_keyed (q:=.i64) (by kernel_rfl)⟩
instance:ZV 3 (.int .i64 0):=⟨by kernel_rfl⟩
theorem intKey {i:Int} (h:I64 i):keyOf Tryz.prog 3 (.int .i64 i)=some (.int .i64 i):=keyOf_int_mk (q:=.i64) (by kernel_rfl) (by
 have:=h.1;have:=h.2;simp[Lit.wf,IntKind.min,IntKind.max,IntKind.signed,IntKind.bits];omega)
instance:DecidableEq Val:=fun a b=>decidable_of_iff (a.bal=b.bal∧a.st=b.st∧a.sl=b.sl∧a.rq=b.rq∧a.ex=b.ex∧a.wd=b.wd∧a.dl=b.dl) (by cases a;cases b;simp)
def valL (v:Val):List Value:=[.int .u64 v.bal,.int .i64 v.st,.bool v.sl,.int .i64 v.rq,.int .i64 v.ex,.int .i64 v.wd,.int .i64 v.dl]
abbrev valV (v:Val):Value:=.agg (valL v).toArray
instance:EL valL 7:=⟨fun _=>rfl,fun x u h=>by simp[valL] at h;rcases h with rfl|rfl|rfl|rfl|rfl|rfl|rfl<;>rfl⟩
instance:EQF valL [.int,.int,.bool,.int,.int,.int,.int]:=⟨fun x y=>by
 obtain ⟨a,b,c,d,e,f,g⟩:=x;obtain ⟨a',b',c',d',e',f',g'⟩:=y
 simp only[valL,cellsEq,scEq,if_true,Bool.and_true,Val.mk.injEq,Option.some.injEq]
 rw[Bool.eq_iff_iff];simp⟩
theorem live_spec (s:Int) (R:List Asn):Spec 111 [.int .i64 s] R fun u L'=>u=.bool (decide (s=2) || decide (s=3))∧L'=R:=by
 refine zGz Tryz.func111 ?_;intro G;(repeat'(first|refine zA zk111 ?_;repeat intro nb|refine zB ?_ ?_<;>intro hc<;>try exact no hc|refine zH ?_ ?_<;>(intro hg;rw[hg];try exact no hg)));all_goals try refine⟨fun a w F M=>?_⟩
 all_goals refine zE F M ?_
 all_goals exact⟨_,_,rfl,⟨by simp_all [tupOf],rfl⟩,M.perms permsA⟩
def cntA (m:Nat):Asn:=exA fun P:List (Value × Value)=>[factA (∀ p∈P,∃ v,p.2=.int .i64 v),mp m 3 P]
theorem cnt_open {w:World} {L:List Asn} {m:Nat} (M:Mem w (cntA m::L)):∃ P:List (Value × Value),(∀ p∈P,∃ v,p.2=.int .i64 v)∧Mem w (mp m 3 P::L):=by
 obtain ⟨P,M⟩:=M.exo
 obtain ⟨h,M⟩:=Mem.factO M
 exact⟨P,h,M⟩
theorem cnt_close {w:World} {L:List Asn} {m:Nat} {P:List (Value × Value)} (h:∀ p∈P,∃ v,p.2=.int .i64 v) (M:Mem w (mp m 3 P::L)):Mem w (cntA m::L):=Mem.exc P (Mem.fact h M)
abbrev rgC (b:Nat) (cap:Int) (h:SlH) (act tot:Int) (m:Nat):Asn:=pt b [.int .i64 cap,sl h,.int .u64 act,.int .u64 tot,.map (some m)] 180
def wr (x:Int):Int:=IntKind.u64.wrap x
def cnX (v:Val) (add:Bool):Int:=if add then v.bal else IntKind.u64.wrap (-v.bal)
def cnT (tot:Int) (v:Val) (add:Bool):Int:=IntKind.u64.wrap (tot+cnX v add)
def cnA (act:Int) (v:Val) (add:Bool):Int:=if v.live then IntKind.u64.wrap (act+cnX v add) else act
theorem count_key (P:List (Value × Value)) (hP:∀ p∈P,∃ v,p.2=.int .i64 v) (s:Int):(∃ n,(Value.int .i64 s,Value.int .i64 n)∈P)∨∀ p∈P,p.1≠.int .i64 s:=by
 by_cases h:∃ p∈P,p.1=.int .i64 s
 ·obtain ⟨⟨k,u⟩,hp,hk⟩:=h
  obtain ⟨v,hv⟩:=hP _ hp
  simp only at hk hv
  subst hk;subst hv
  exact .inl ⟨v,hp⟩
 ·exact .inr fun p hp hk=>h ⟨p,hp,hk⟩
theorem count_vals {P:List (Value × Value)} (hP:∀ p∈P,∃ v,p.2=.int .i64 v) (k n:Int):∀ p∈updP k (.int .i64 n) P,∃ v,p.2=.int .i64 v:=fun p hp=>by
 obtain ⟨q,hq,rfl⟩:=List.mem_map.1 hp
 unfold updF
 split
 ·split
  ·exact⟨n,rfl⟩
  ·exact hP q hq
 ·exact hP q hq
theorem count_new {P:List (Value × Value)} (hP:∀ p∈P,∃ v,p.2=.int .i64 v) (k n:Int):∀ p∈(Value.int .i64 k,Value.int .i64 n)::P,∃ v,p.2=.int .i64 v:=fun p hp=>by
 rcases List.mem_cons.1 hp with rfl|hp
 ·exact⟨n,rfl⟩
 ·exact hP p hp
section
variable (b:Nat) (cap:Int) (h:SlH) (act tot:Int) (m:Nat) (v:Val) (hst:I64 v.st) (R:List Asn)
include hst in
theorem count_spec (add:Bool):Spec 208 [ptr b,valV v,.bool add] (rgC b cap h act tot m::cntA m::R) fun u L'=>u=.tuple #[]∧L'=rgC b cap h (cnA act v add) (cnT tot v add) m::cntA m::R:=by
 intro G w M
 obtain ⟨P,hP,M2⟩:=cnt_open (L:=rgC b cap h act tot m::(R++G)) (M.perms permsA)
 clear M;have M:=M2;clear M2
 have hk:=count_key P hP v.st
 have hlv:v.live=(decide (v.st=2) || decide (v.st=3)):=rfl
 cases hl:v.live
 all_goals cases add
 all_goals rw[hl] at hlv
 all_goals rcases hk with⟨n,hin⟩|hno
 all_goals refine sx_enter (vs:=([ptr b,valV v,.bool _]:List Value)) Tryz.func208 (n:=42) rfl rfl rfl rfl ?_
 all_goals intro a F
 all_goals((try refine zI F M ?_;clear F M a;try clear w);(repeat'(first|refine zV (h:=⟨_,by((first|(apply rt_hit1;(exact rfl);(exact rfl);(exact rfl);(exact inferInstance);(exact gives_mp pullA);(exact intKey hst);(exact hin))|(apply rt_miss1;(exact rfl);(exact rfl);(exact rfl);(exact inferInstance);(exact gives_mp pullA);(exact intKey hst);(exact hno);(exact inferInstance))|(apply rt_addW;(exact rfl);(exact rfl);(exact rfl))|(apply rt_neg;(exact rfl);(exact rfl);(exact rfl)))),?_⟩)|refine zA1 zk208 ?_;repeat intro(nb:Nat)|refine zC ?_;(first|(first|apply ac_mapHit;exact rfl;exact rfl;exact rfl;exact rfl;exact inferInstance;exact intKey hst;(focus ((repeat (first|exact Rep.here|apply Rep.there));done));exact hin|refine ac_mapNew rfl rfl rfl rfl inferInstance (intKey hst) (by(focus ((repeat (first|exact Rep.here|apply Rep.there));done))) hno (List.Perm.refl _) ?_)|refine acW (k:=111) (live_spec v.st _) ?_;rw[← hlv];rintro u L' ⟨rfl,rfl⟩)|refine zB ?_ ?_<;>intro hc<;>try exact no hc|refine zH ?_ ?_<;>(intro hg;rw[hg];try exact no hg)));all_goals try refine⟨fun a w F M=>?_⟩)
 all_goals refine zE F M ?_
 all_goals refine⟨_,_,rfl,⟨rfl,rfl⟩,?_⟩
 all_goals simp only[cnA,cnT,cnX,hl,if_true,if_false,Bool.false_eq_true,zc]
 all_goals first
  | exact(cnt_close (count_vals hP _ _) (M.perms permsA)).perms permsA
  | exact(cnt_close (count_new hP _ _) (M.perms permsA)).perms permsA
include hst in
theorem count_specD (add:Bool):SpecD 208 [ptr b,valV v,.bool add] (rgC b cap h act tot m::cntA m::R) fun L'=>L'=rgC b cap h (cnA act v add) (cnT tot v add) m::cntA m::R:=by
 intro G uu w M
 obtain ⟨P,hP,M2⟩:=cnt_open (L:=rgC b cap h act tot m::(R++G)) (M.perms permsA)
 clear M;have M:=M2;clear M2
 have hk:=count_key P hP v.st
 have hlv:v.live=(decide (v.st=2) || decide (v.st=3)):=rfl
 cases hl:v.live
 all_goals cases add
 all_goals rw[hl] at hlv
 all_goals rcases hk with⟨n,hin⟩|hno
 all_goals refine sx_enterC (vs:=([ptr b,valV v,.bool _]:List Value)) Tryz.func208 (n:=42) rfl rfl rfl rfl ?_
 all_goals intro a F
 all_goals((try refine zI F M ?_;clear F M a;try clear w);(repeat'(first|refine zV (h:=⟨_,by((first|(apply rt_hit1;(exact rfl);(exact rfl);(exact rfl);(exact inferInstance);(exact gives_mp pullA);(exact intKey hst);(exact hin))|(apply rt_miss1;(exact rfl);(exact rfl);(exact rfl);(exact inferInstance);(exact gives_mp pullA);(exact intKey hst);(exact hno);(exact inferInstance))|(apply rt_addW;(exact rfl);(exact rfl);(exact rfl))|(apply rt_neg;(exact rfl);(exact rfl);(exact rfl)))),?_⟩)|refine zA1 zk208 ?_;repeat intro(nb:Nat)|refine zC ?_;(first|(first|apply ac_mapHit;exact rfl;exact rfl;exact rfl;exact rfl;exact inferInstance;exact intKey hst;(focus ((repeat (first|exact Rep.here|apply Rep.there));done));exact hin|refine ac_mapNew rfl rfl rfl rfl inferInstance (intKey hst) (by(focus ((repeat (first|exact Rep.here|apply Rep.there));done))) hno (List.Perm.refl _) ?_)|refine acW (k:=111) (live_spec v.st _) ?_;rw[← hlv];rintro u L' ⟨rfl,rfl⟩)|refine zB ?_ ?_<;>intro hc<;>try exact no hc|refine zH ?_ ?_<;>(intro hg;rw[hg];try exact no hg)));all_goals try refine⟨fun a w F M=>?_⟩)
 all_goals refine zE F M ?_
 all_goals refine⟨_,_,rfl,rfl,?_⟩
 all_goals simp only[cnA,cnT,cnX,hl,if_true,if_false,Bool.false_eq_true,zc]
 all_goals first
  | exact(cnt_close (count_vals hP _ _) (M.perms permsA)).perms permsA
  | exact(cnt_close (count_new hP _ _) (M.perms permsA)).perms permsA
def regA (b:Nat) (cap:Int) (V:List Val):Asn:=exA fun z:SlH × Nat=>[rgC b cap z.1 (IntKind.u64.wrap (actv V)) (IntKind.u64.wrap (bals V).sum) z.2,cntA z.2,ownT 48 valL 7 (sl z.1) V]
end
section
variable (b:Nat) (cap:Int) (V:List Val) (R:List Asn)
theorem reg_open {w:World} {L:List Asn} {b:Nat} {cap:Int} {V:List Val} (M:Mem w (regA b cap V::L)):∃ h m,Mem w (rgC b cap h (IntKind.u64.wrap (actv V)) (IntKind.u64.wrap (bals V).sum) m::cntA m::ownT 48 valL 7 (sl h) V::L):=by
 obtain ⟨⟨h,m⟩,M⟩:=M.exo
 exact⟨h,m,M⟩
theorem reg_close {w:World} {L:List Asn} {b:Nat} {cap:Int} {V:List Val} {h:SlH} {m:Nat} (M:Mem w (rgC b cap h (IntKind.u64.wrap (actv V)) (IntKind.u64.wrap (bals V).sum) m::cntA m::ownT 48 valL 7 (sl h) V::L)):Mem w (regA b cap V::L):=Mem.exc (f:=fun z:SlH × Nat=>[rgC b cap z.1 (IntKind.u64.wrap (actv V)) (IntKind.u64.wrap (bals V).sum) z.2,cntA z.2,ownT 48 valL 7 (sl z.1) V]) (h,m) M
theorem reg_new (hc:1≤cap∧cap≤4096):Spec 53 [.int .i64 cap] R fun u L'=>∃ b,u=ptr b∧L'=regA b cap []::R:=by
 obtain ⟨h1,h2⟩:=hc
 refine zGz Tryz.func53 ?_;intro G;(repeat'(first|refine zA zk53 ?_;repeat intro nb|refine zC ?_;apply ac_makeMap;exact rfl;exact inferInstance;intro nm|refine zB ?_ ?_<;>intro hc<;>try exact no hc|refine zH ?_ ?_<;>(intro hg;rw[hg];try exact no hg)));all_goals try refine⟨fun a w F M=>?_⟩
 all_goals refine zE F M ?_
 refine⟨_,_,rfl,⟨nb,rfl,rfl⟩,?_⟩
 have M:=cnt_close (P:=[]) (by simp) (M.perms (permsA:Perms _ (mp nm 3 []::_)))
 have M:=M.own_nil 48 7
 exact reg_close (h:=nilH) (m:=nm) (M.perms permsA)
theorem reg_len:Spec 140 [ptr b] (regA b cap V::R) fun u L'=>u=.int .i64 V.length∧L'=regA b cap V::R:=by
 (intro G w M;obtain ⟨h,m,M2⟩:=reg_open (L:=R++G) M;clear M;have M:=M2;clear M2)
 (refine zGe Tryz.func140 ?_;intro a F;(try simp only[zc,zn] at M))
 (try refine zI F M ?_;clear F M a;try clear w);(repeat'(first|refine zA zk140 ?_;repeat intro nb|refine zB ?_ ?_<;>intro hc<;>try exact no hc|refine zH ?_ ?_<;>(intro hg;rw[hg];try exact no hg)));all_goals try refine⟨fun a w F M=>?_⟩
 all_goals refine zE F M ?_
 exact⟨_,_,rfl,⟨rfl,rfl⟩,reg_close (M.perms permsA)⟩
theorem reg_active (ha:U64 (actv V)):Spec 79 [ptr b] (regA b cap V::R) fun u L'=>u=.int .u64 (actv V)∧L'=regA b cap V::R:=by
 (intro G w M;obtain ⟨h,m,M2⟩:=reg_open (L:=R++G) M;clear M;have M:=M2;clear M2)
 (refine zGe Tryz.func79 ?_;intro a F;(try simp only[zc,zn] at M))
 (try refine zI F M ?_;clear F M a;try clear w);(repeat'(first|refine zA zk79 ?_;repeat intro nb|refine zB ?_ ?_<;>intro hc<;>try exact no hc|refine zH ?_ ?_<;>(intro hg;rw[hg];try exact no hg)));all_goals try refine⟨fun a w F M=>?_⟩
 all_goals refine zE F M ?_
 exact⟨_,_,rfl,⟨by rw[u64_wrap_id ha];rfl,rfl⟩,reg_close (M.perms permsA)⟩
theorem reg_len0 (h:SlH) (act tot:Int) (m:Nat):Spec 140 [ptr b] (rgC b cap h act tot m::ownT 48 valL 7 (sl h) V::R) fun u L'=>u=.int .i64 V.length∧L'=rgC b cap h act tot m::ownT 48 valL 7 (sl h) V::R:=by
 refine zGz Tryz.func140 ?_;intro G;(repeat'(first|refine zA zk140 ?_;repeat intro nb|refine zB ?_ ?_<;>intro hc<;>try exact no hc|refine zH ?_ ?_<;>(intro hg;rw[hg];try exact no hg)));all_goals exact zXz
theorem reg_get0 (h:SlH) (act tot:Int) (m:Nat) (i:Nat) (v:Val) (hv:V[i]? = some v) (hl:V.length≤4096):Spec 76 [ptr b,.int .i64 i] (rgC b cap h act tot m::ownT 48 valL 7 (sl h) V::R) fun u L'=>u=.tuple [valV v,.bool true].toArray∧L'=rgC b cap h act tot m::ownT 48 valL 7 (sl h) V::R:=by
 have hi:i<V.length:=(List.getElem?_eq_some_iff.1 hv).1
 refine zGz Tryz.func76 ?_;intro G;(repeat'(first|refine zA zk76 ?_;repeat intro nb|refine zC ?_;refine kp (k:=140) (reg_len0 b cap V _ h act tot m) ?_|refine zB ?_ ?_<;>intro hc<;>try exact no hc|refine zH ?_ ?_<;>(intro hg;rw[hg];try exact no hg)));all_goals exact zXz
theorem reg_get (i:Nat) (v:Val) (hv:V[i]? = some v) (hl:V.length≤4096):Spec 76 [ptr b,.int .i64 i] (regA b cap V::R) fun u L'=>u=.tuple [valV v,.bool true].toArray∧L'=regA b cap V::R:=by
 intro G w M
 obtain ⟨h,m,M2⟩:=reg_open (L:=R++G) M
 refine(reg_get0 b cap V (cntA m::R) h _ _ m i v hv hl G w (M2.perms permsA)).mono ?_
 rintro e w' ⟨u,L',k1,⟨k2,rfl⟩,k3⟩
 exact⟨u,_,k1,⟨k2,rfl⟩,reg_close (k3.perms permsA)⟩
theorem reg_getN (i:Int) (hi:i<0∨(V.length:Int)≤i):Spec 76 [ptr b,.int .i64 i] (regA b cap V::R) fun u L'=>u=.tuple [valV Val.zero,.bool false].toArray∧L'=regA b cap V::R:=by
 rcases hi with hi|hi
 ·refine zGz Tryz.func76 ?_;intro G;(repeat'(first|refine zA zk76 ?_;repeat intro nb|refine zC ?_;refine kp (k:=140) (reg_len b cap V _) ?_|refine zB ?_ ?_<;>intro hc<;>try exact no hc|refine zH ?_ ?_<;>(intro hg;rw[hg];try exact no hg)));all_goals exact zXz
 ·have hi':¬i<0:=by omega
  refine zGz Tryz.func76 ?_;intro G;(repeat'(first|refine zA zk76 ?_;repeat intro nb|refine zC ?_;refine kp (k:=140) (reg_len b cap V _) ?_|refine zB ?_ ?_<;>intro hc<;>try exact no hc|refine zH ?_ ?_<;>(intro hg;rw[hg];try exact no hg)));all_goals exact zXz
end
end
section
open Go.RowKit
theorem mods_get (f:Val→Val):∀ (l:List Nat) (V:List Val) (i:Nat),l.Nodup→(mods f V l)[i]? = if i∈l then (V[i]?).map f else V[i]?
 | [],V,i,_=>by simp[mods]
 | j::r,V,i,h=>by
  have hj:j∉r:=(List.nodup_cons.1 h).1
  have ih:=mods_get f r (V.modify j f) i (List.nodup_cons.1 h).2
  simp only[mods,List.foldl_cons] at ih ⊢
  rw[ih,List.getElem?_modify]
  by_cases h1:i∈r
  ·have:j≠i:=fun e=>hj (e ▸ h1)
   simp[h1,this]
  ·by_cases h2:j=i
   ·subst h2;simp[h1]
   ·simp[h1,h2,Ne.symm h2]
theorem mods_len (f:Val→Val):∀ (l:List Nat) (V:List Val),(mods f V l).length=V.length
 | [],V=>rfl
 | j::r,V=>by
  have:=mods_len f r (V.modify j f)
  simp only[mods,List.foldl_cons] at this ⊢
  rw[this,List.length_modify]
theorem mods_cons (f:Val→Val) (V:List Val) (i:Nat) (r:List Nat):mods f V (i::r)=mods f (V.modify i f) r:=rfl
theorem mods_append (f:Val→Val) (V:List Val) (a b:List Nat):mods f V (a++b)=mods f (mods f V a) b:=by simp[mods]
theorem bals_modify {f:Val→Val} (hf:∀ v,(f v).bal=v.bal):∀ (V:List Val) (i:Nat),bals (V.modify i f)=bals V
 | [],i=>by cases i<;>rfl
 | v::V,0=>by simp[bals,List.modify,hf]
 | v::V,i+1=>by
  have:=bals_modify hf V i
  simp only[bals] at this ⊢
  simp[List.modify_succ_cons,this]
theorem bals_mods {f:Val→Val} (hf:∀ v,(f v).bal=v.bal):∀ (l:List Nat) (V:List Val),bals (mods f V l)=bals V
 | [],V=>rfl
 | j::r,V=>by rw[mods_cons,bals_mods hf r,bals_modify hf]
theorem bals_map {f:Val→Val} (hf:∀ v,(f v).bal=v.bal) (V:List Val):bals (V.map f)=bals V:=by simp[bals,Function.comp_def,hf]
theorem sum_app (a b:List Int):(a++b).sum=a.sum+b.sum:=by simp
theorem sum_set:∀ (l:List Int) (i:Nat) (x y:Int),l[i]? = some x→(l.set i y).sum=l.sum - x+y
 | [],i,x,y,h=>by simp at h
 | a::l,0,x,y,h=>by
  simp at h;subst h
  simp only[List.set_cons_zero,List.sum_cons];omega
 | a::l,i+1,x,y,h=>by
  have:=sum_set l i x y (by simpa using h)
  simp only[List.set_cons_succ,List.sum_cons,this];omega
theorem bals_set (V:List Val) (i:Nat) (v:Val):bals (V.set i v)=(bals V).set i v.bal:=by simp[bals,List.map_set]
theorem bals_get {V:List Val} {i:Nat} {v:Val} (h:V[i]? = some v):(bals V)[i]? = some v.bal:=by simp[bals,h]
theorem sum_nonneg:∀ (l:List Int),(∀ x∈l,0≤x)→0≤l.sum
 | [],_=>by simp
 | a::l,h=>by
  have:=sum_nonneg l fun x hx=>h x (by simp[hx])
  have:=h a (by simp)
  simp only[List.sum_cons];omega
theorem sum_mem_le:∀ (l:List Int),(∀ x∈l,0≤x)→∀ x∈l,x≤l.sum
 | [],_,x,h=>by simp at h
 | a::l,h,x,hx=>by
  have h1:=sum_nonneg l fun x hx=>h x (by simp[hx])
  have h2:=h a (by simp)
  rcases List.mem_cons.1 hx with rfl|hx
  ·simp only[List.sum_cons];omega
  ·have:=sum_mem_le l (fun x hx=>h x (by simp[hx])) x hx
   simp only[List.sum_cons];omega
theorem modify_eq_set {V:List Val} {i:Nat} {v:Val} (f:Val→Val) (h:V[i]? = some v):V.modify i f=V.set i (f v):=by
 apply List.ext_getElem?
 intro j
 rw[List.getElem?_modify,List.getElem?_set]
 by_cases hij:i=j
 ·subst hij
  obtain ⟨hl,he⟩:=List.getElem?_eq_some_iff.1 h
  simp[hl,he]
 ·simp[hij]
theorem sum_sub:∀ (l:List Nat) (W:List Int),l.Nodup→(∀ x∈W,0≤x)→(l.map (wAt W)).sum≤W.sum
 | [],W,_,h=>by simpa using sum_nonneg W h
 | i::r,W,hn,h=>by
  have hi:i∉r:=(List.nodup_cons.1 hn).1
  have hr:=(List.nodup_cons.1 hn).2
  cases hW:W[i]? with
  | none =>
   have:=sum_sub r W hr h
   have h0:wAt W i=0:=by simp[wAt,List.getD_eq_getElem?_getD,hW]
   simp only[List.map_cons,List.sum_cons,h0];omega
  | some x =>
   have hx:0≤x:=h x (List.mem_of_getElem? hW)
   have h1:∀ y∈W.set i 0,0≤y:=fun y hy=>by
    rcases List.mem_or_eq_of_mem_set hy with hy|rfl
    ·exact h y hy
    ·omega
   have:=sum_sub r (W.set i 0) hr h1
   rw[sum_set W i x 0 hW] at this
   have e:r.map (wAt (W.set i 0))=r.map (wAt W):=by
    apply List.map_congr_left
    intro j hj
    have hij:i≠j:=fun e=>hi (e ▸ hj)
    simp[wAt,List.getD_eq_getElem?_getD,List.getElem?_set,hij]
   rw[e] at this
   have h0:wAt W i=x:=by simp[wAt,List.getD_eq_getElem?_getD,hW]
   simp only[List.map_cons,List.sum_cons,h0];omega
theorem laterB_one {e d:Int} (h0:0≤e) (h1:0≤d) (h2:e+d≤1099511627776):laterB e [d]=true∧laterF e [d]=e+d:=by
 have e1:laterGo 0 [e,d]=(e+d,true):=by
  rw[laterGo,if_neg (by omega),laterGo,if_neg (by omega),laterGo]
  simp
 exact⟨by rw[laterB,e1],by rw[laterF,e1]⟩
theorem laterB_nil' {e:Int} (h0:0≤e) (h2:e≤1099511627776):laterB e []=true:=by
 rw[laterB,laterGo,if_neg (by omega),laterGo]
theorem accR_eq (v:Val) {e:Int} (h0:0≤e) (h2:e≤1099511627776):accR v e=if v.st=2 then (0,{v with rq:=e,st:=3},0) else (8,Val.zero,0):=by
 simp only[accR,foldG,gRequest,laterB_nil' h0 h2,if_true,gEvent,nextF]
 by_cases h:v.st=2
 ·simp[h]
 ·simp[h]
theorem asgR_eq (v:Val) {e d:Int} (h0:0≤e) (h1:0≤d) (h2:e+d≤1099511627776):asgR v e d=if v.st=3∧v.ex = -1 then (0,{v with ex:=e,wd:=max v.wd (e+d)},0) else (8,Val.zero,0):=by
 obtain ⟨b1,b2⟩:=laterB_one h0 h1 h2
 simp only[asgR,foldG,gFresh,gDelay,b1,b2,maxF_max,if_true]
 by_cases h:v.st=3∧v.ex = -1
 ·obtain ⟨q1,q2⟩:=h;simp[q1,q2]
 ·have:v.st≠3∨v.ex≠-1:=by omega
  simp only[if_neg h,if_pos this];simp
def slaS (s:Int):Int:=if s=2∨s=3 then 3 else 4
theorem slaR_eq (v:Val) {e d pn pd:Int} (h0:0≤e) (h1:0≤d) (h2:e+d≤1099511627776):slaR v e d pn pd=if v.sl=true then (9,Val.zero,0) else if v.st=2∨v.st=3∨v.st=4∨v.st=5 then
  (0,⟨v.bal - penF v.bal pn pd,slaS v.st,true,if v.st=2 then e else v.rq,v.ex,max v.wd (e+d),-1⟩,penF v.bal pn pd) else (8,Val.zero,0):=by
 obtain ⟨b1,b2⟩:=laterB_one h0 h1 h2
 simp only[slaR,foldG,gMark,gEvent,gDelay,gBurn,nextF,b1,b2,maxF_max,slaS,if_true]
 by_cases hs:v.sl=true
 ·simp[hs]
 ·by_cases h3:v.st=2∨v.st=3
  ·have h4:v.st=2∨v.st=3∨v.st=4∨v.st=5:=by omega
   simp[hs,h3,h4]
  ·by_cases h5:v.st=4∨v.st=5
   ·have h4:v.st=2∨v.st=3∨v.st=4∨v.st=5:=by omega
    simp[hs,h3,h4,h5]
   ·have h4:¬(v.st=2∨v.st=3∨v.st=4∨v.st=5):=by omega
    simp[hs,h3,h4,h5]
theorem payR_eq (v:Val) (e:Int):payR v e=if v.st=5∧v.wd≤e then (0,payV v,0) else (8,Val.zero,0):=by
 simp only[payR,foldG,gEvent,gDue,nextF,payV]
 by_cases h:v.st=5
 ·by_cases h2:e<v.wd
  ·have:¬(v.wd≤e):=by omega
   simp[h,h2,this]
  ·have:v.wd≤e:=by omega
   simp[h,h2,this]
 ·have:¬(1≤(5:Int)∧(5:Int)≤5∧v.st=5):=by omega
  simp[h]
theorem penF_range {b n d:Int} (hb:0≤b) (hn:0≤n) (hnd:n≤d) (hd:1≤d):0≤penF b n d∧penF b n d≤b:=by
 unfold penF mulF
 rw[if_neg (by omega)]
 split
 ·constructor
  ·exact Int.ediv_nonneg (Int.mul_nonneg hb hn) (by omega)
  ·have h1:b*n≤b*d:=Int.mul_le_mul_of_nonneg_left hnd hb
   have h2:b*n / d≤b*d / d:=Int.ediv_le_ediv (by omega) h1
   rw[Int.mul_ediv_cancel b (by omega)] at h2
   exact h2
 ·omega
end
section
open Go.RowKit
section
variable {o:Oper} {n:Nat} {l:List (Nat × Value)} {L:List Asn} {C:Value→List Asn→Prop}
abbrev fromH (h:SlH) (j size:Nat):SlH:=⟨if h.c=j then h.a else h.a.map (·.add (j*size)),h.n - j,h.c - j⟩
theorem own_h {w:World} {L:List Asn} {e:TypeId} {size m:Nat} {h:SlH} {xs:List Value} (M:Mem w (own e size (sl h) m xs::L)):h.n=m∧m≤h.c∧xs.length=m*size∧m≤maxLen:=by
 obtain ⟨s,hs,_⟩:=M.head
 obtain ⟨h1,⟨h2,h3,_⟩|⟨g,cap,cur,h2,_,_,h3,h4,_,_⟩⟩:=hs
 ·obtain ⟨a,n,c⟩:=h
  simp only[sl,Value.slice.injEq] at h2
  obtain ⟨rfl,rfl,rfl⟩:=h2
  exact⟨h3.symm,by omega,h1,by simp[h3]⟩
 ·obtain ⟨a,n,c⟩:=h
  simp only[sl,Value.slice.injEq] at h2
  obtain ⟨rfl,rfl,rfl⟩:=h2
  exact⟨rfl,h3,h1,by omega⟩
theorem rt_from {t:TypeId} {x y:Operand} (ho:o.op=.slice t x (some y) none none) {h:SlH} (hx:evl l x=some (sl h)) {k:IntKind} {j:Nat} (hy:evl l y=some (.int k (j:Int))) {e:TypeId} {z:Value} {size bytes:Nat} (ht:ST t e z size bytes) (h1:j≤h.n):RT o l L n (sl (fromH h j size)):=fun a w F M=>by
 unfold execOp
 rw[ho]
 obtain ⟨hu,_⟩:=ht.k
 have e2:Tryz.prog.elem t=e:=by simp[Program.elem,hu]
 have ht':Tryz.prog.underlying t=some (.slice (Tryz.prog.elem t)):=by rw[e2];exact hu
 have hr:=run_sliceAt_slice (P:=Tryz.prog) w t (sl h) (some (.int k j)) none none ht'
 have hs:=run_slice_l (P:=Tryz.prog) w t h.a h.n h.c ht' k j (by omega) (by omega)
 rw[e2,st_size ht] at hs
 simp only[Result.andThen_ok,sliced,Int.toNat_natCast] at hs
 simp[F.eval hx,F.eval hy,hr,hs,sl]
theorem rt_to {t:TypeId} {x y:Operand} (ho:o.op=.slice t x none (some y) none) {h:SlH} (hx:evl l x=some (sl h)) {k:IntKind} {j:Nat} (hy:evl l y=some (.int k (j:Int))) {e:TypeId} {z:Value} {size bytes:Nat} (ht:ST t e z size bytes) (h1:j≤h.c):RT o l L n (sl ⟨h.a,j,h.c⟩):=fun a w F M=>by
 unfold execOp
 rw[ho]
 obtain ⟨hu,_⟩:=ht.k
 have e2:Tryz.prog.elem t=e:=by simp[Program.elem,hu]
 have ht':Tryz.prog.underlying t=some (.slice (Tryz.prog.elem t)):=by rw[e2];exact hu
 have hr:=run_sliceAt_slice (P:=Tryz.prog) w t (sl h) none (some (.int k j)) none ht'
 have hs:=run_slice_h (P:=Tryz.prog) w t h.a h.n h.c ht' k j (by omega) (by omega)
 rw[e2,st_size ht] at hs
 simp only[Result.andThen_ok,sliced,Int.toNat_natCast] at hs
 have:(if h.c=0 then h.a else h.a.map (·.add (0*size)))=h.a:=by
  split
  ·rfl
  ·cases h.a with
   | none=>rfl
   | some q=>obtain ⟨pb,po,pn⟩:=q;simp[Addr.add]
 rw[this] at hs
 simp[F.eval hx,F.eval hy,hr,hs,sl]
theorem own_cut {w:World} {L:List Asn} {e:TypeId} {size m j:Nat} {h:SlH} {xs:List Value} (M:Mem w (own e size (sl h) m xs::L)) (hj:j≤m):Mem w (own e size (sl ⟨h.a,j,h.c⟩) j (xs.take (j*size))::L):=by
 refine M.imp fun s w' hs=>?_
 obtain ⟨h1,h2⟩:=hs
 have hle:j*size≤m*size:=Nat.mul_le_mul_right _ hj
 refine⟨by rw[List.length_take];omega,?_⟩
 rcases h2 with⟨h2,h3,h4⟩|⟨g,cap,cur,h2,hs,h3,h4,h5,h6,h7⟩
 ·obtain ⟨a,n',c⟩:=h
  simp only[sl,Value.slice.injEq] at h2
  obtain ⟨rfl,rfl,rfl⟩:=h2
  obtain rfl:j=0:=by omega
  exact .inl ⟨rfl,rfl,h4⟩
 ·obtain ⟨a,n',c⟩:=h
  simp only[sl,Value.slice.injEq] at h2
  obtain ⟨rfl,rfl,rfl⟩:=h2
  exact .inr ⟨g,c,cur,rfl,hs,h3,by omega,h5,h6,by rw[← h7,List.take_take,Nat.min_eq_left hle]⟩
theorem zeroCells_len (z:Array Value) (k:Nat):(Builtin.zeroCells z k).toList.length=k*z.size:=by simp[Builtin.zeroCells]
theorem zeroCells_one {z:Array Value} (hz:∀ v∈z.toList,v.oneCell'=true) (k:Nat):∀ v∈(Builtin.zeroCells z k).toList,v.oneCell'=true:=fun v hv=>by
 simp only[Builtin.zeroCells,Array.toList_map,Array.toList_range,List.mem_map,List.mem_range] at hv
 obtain ⟨i,hi,rfl⟩:=hv
 have hp:0<z.size:=by rcases Nat.eq_zero_or_pos z.size with h|h;(· rw[h] at hi;simp at hi);exact h
 have:=Nat.mod_lt i hp
 rw[getElem!_pos z (i % z.size) this]
 exact hz _ (by simp)
theorem ac_clear {x:Operand} {ats:Array TypeId} {t:TypeId} (ho:o.op=.call {callee:=.builtin .clear,args:=#[x],argTypes:=ats}) (hat:ats = #[t]) {e:TypeId} {z:Value} {size bytes:Nat} (ht:ST t e z size bytes) {h:SlH} {j:Nat} (hx:evl l x=some (sl (fromH h j size))) (hz:z.cells.toList.all (·.oneCell')=true)
  {m:Nat} {xs:List Value} {L':List Asn} (hp:Pull L (own e size (sl h) m xs) L') (hj:j≤m) (hc:∀ ys:List Value,ys.take (j*size)=xs.take (j*size)→C (.tuple #[]) (own e size (sl h) m ys::L')):AC o l L n C:=fun G a w F M=>by
 subst hat
 have M1:=M.pull (hp.app G)
 obtain ⟨hn,hm,hlen,_⟩:=own_h M1
 obtain ⟨s,hs,hlt⟩:=M1.head
 obtain ⟨i,hu,hi,hzi,hsz,_,hzs,hpos⟩:=st_info ht
 have hzv:(zeroValue e).run Tryz.prog w=.ok z w:=by simp[zeroValue,typeInfo,hi,hzi]
 have fin:∀ w',(Builtin.clear_ #[t] o.type #[sl (fromH h j size)]).run Tryz.prog w=.ok (.tuple #[]) w'→(∃ ys,ys.take (j*size)=xs.take (j*size)∧Mem w' (own e size (sl h) m ys::(L'++G)))→UponD Tryz.prog (fun v w'=>∃ L'',C v L''∧Mem w' (L''++G)) ((execOp a.eval o).run Tryz.prog w):=by
  intro w' hr ⟨ys,h1,h2⟩
  have:(execOp a.eval o).run Tryz.prog w=.ok (.value (.tuple #[])) w':=by
   unfold execOp
   rw[ho]
   simp[resolve,invoke,builtin,F.eval hx,hr]
  rw[this]
  exact⟨_,hc ys h1,h2⟩
 by_cases hjm:j=m
 ·refine fin w ?_ ⟨xs,rfl,M1⟩
  have:h.n - j=0:=by omega
  cases ha:(if h.c=j then h.a else h.a.map (·.add (j*size)))<;>simp[Builtin.clear_,run_underlying hu,fromH,sl,this,ha]
 ·obtain ⟨a',n',c'⟩:=h
  rcases hs.2 with⟨h2,h3,h4⟩|⟨g,cap,cur,h2,_,h3,h4,h5,h6,h7⟩
  ·omega
  ·simp only[sl,Value.slice.injEq] at h2
   obtain ⟨rfl,rfl,rfl⟩:=h2
   have hcj:¬c'=j:=by simp only at hm;omega
   have hle:j*size+(n' - j)*size=n'*size:=by rw[← Nat.add_mul];congr 1;omega
   have hle2:n'*size≤c'*size:=Nat.mul_le_mul_right _ h4
   have lZ:=zeroCells_len z.cells (n' - j)
   rw[hzs] at lZ
   have oZ:=zeroCells_one (all_one hz) (n' - j)
   simp only at hm hlen hn
   have lc:cur.toList.length=c'*size:=by rw[Array.length_toList];exact h6
   obtain ⟨Z,hZ⟩:∃ Z,(Builtin.zeroCells z.cells (n' - j)).toList=Z:=⟨_,rfl⟩
   rw[hZ] at lZ oZ
   obtain ⟨A,hA⟩:∃ A,j*size=A:=⟨_,rfl⟩
   obtain ⟨B,hB⟩:∃ B,(n' - j)*size=B:=⟨_,rfl⟩
   obtain ⟨N,hN⟩:∃ N,n'*size=N:=⟨_,rfl⟩
   rw[hA,hB,hN] at hle
   rw[hN] at hle2 hlen h7
   rw[hB] at lZ
   obtain ⟨D,hD⟩:∃ D,c'*size=D:=⟨_,rfl⟩
   rw[hD] at hle2 lc
   have hst:=run_storeCells_at (P:=Tryz.prog) g A e Z 0 cur w h3 (by rw[← Array.length_toList];omega) oZ
   simp only[Nat.add_zero] at hst
   rw[hA] at fin
   refine fin (w.setRow g (cur.toList.take A++Z++cur.toList.drop (A+Z.length)).toArray) ?_ ⟨xs.take A++Z,?_,?_⟩
   ·have hsome:((if c'=j then (some ⟨g,0,none⟩:Option Addr) else (some ⟨g,0,none⟩:Option Addr).map (·.add (j*size))))=some ⟨g,A,none⟩:=by
     rw[if_neg hcj];simp[add0,hA]
    obtain ⟨d,hd⟩:∃ d,n' - j=d+1:=⟨n' - j - 1,by omega⟩
    simp only[fromH,sl,hsome]
    rw[hd] at hZ ⊢
    simp[Builtin.clear_,run_underlying hu,hzv,hZ,hst]
   ·rw[List.take_append_of_le_length (by rw[List.length_take];omega),List.take_take,Nat.min_self]
   ·refine M1.change fun s' hs'=>?_
    obtain ⟨_,h8|⟨g2,cap2,cur2,h8,rfl,_⟩⟩:=hs'.now
    ·simp[sl] at h8
    simp only[sl,Value.slice.injEq,Option.some.injEq,Addr.mk.injEq] at h8
    obtain ⟨⟨rfl,_⟩,_⟩:=h8
    refine⟨chg_setRow,[g],ok_own (by rw[hN,List.length_append,List.length_take,lZ];omega) (setRow_heap w g cur _ e _ h3) h4 h5 ?_ ?_,fun x hx=>.inl hx⟩
    ·simp only[List.size_toArray,List.length_append,List.length_take,List.length_drop,lZ,lc,hD]
     omega
    ·rw[hN,List.take_append_of_le_length (by simp only[List.length_append,List.length_take,lZ,lc];omega),List.take_of_length_le (by simp only[List.length_append,List.length_take,lZ,lc];omega),← h7,List.take_take,Nat.min_eq_left (by omega)]
theorem ac_storeEA {α:Type} {f:α→List Value} {t:TypeId} {x y:Operand} (ho:o.op=.store t x y) {v:Value} {j k:Nat} (hx:evl l x=some (.pointer (some ⟨vb v,vo v+j*k,none⟩))) (hkt:KT t (some k)) (y':α) (hy:evl l y=some (.agg (f y').toArray))
  {e:TypeId} {xs:List α} {L2:List Asn} {z:α} (hz:xs[j]? = some z) (he:EL f k) (hp:Rep L (ownT e f k v xs) (ownT e f k v (xs.set j y')) L2) (h:C undef L2):AC o l L n C:=fun G a w F M=>by
 obtain ⟨L',h1,h2⟩:=hp.both
 have hj:j<xs.length:=(List.getElem?_eq_some_iff.1 hz).1
 have hlen:=flat_lenE he xs
 have hjk:j*k+k≤xs.length*k:=by
  have:(j+1)*k≤xs.length*k:=Nat.mul_le_mul_right k hj
  rw[Nat.succ_mul] at this;omega
 have hfl:(f y').length=k:=he.len y'
 have hset:(xs.set j y').flatMap f=(xs.flatMap f).take (j*k)++f y'++(xs.flatMap f).drop (j*k+k):=by
  rw[flat_take he.len,show j*k+k=(j+1)*k by rw[Nat.succ_mul],flat_drop he.len,List.set_eq_take_append_cons_drop,if_pos hj]
  simp
 obtain ⟨s,hs,hlt⟩:=(M.pull (h1.app G)).head
 rcases hs.2 with⟨_,h0,_⟩|⟨g,cap,cur,hv,_,hg,hn,hc,hsz,ht⟩
 ·omega
 ·have hvb:vb v=g∧vo v=0:=by rw[hv];exact⟨rfl,rfl⟩
  rw[hvb.1,hvb.2,Nat.zero_add] at hx
  have hle:xs.length*k≤cap*k:=Nat.mul_le_mul_right k hn
  have h3:=run_storeCells_at (P:=Tryz.prog) g (j*k) e (f y') 0 cur w hg (by omega) (fun u hu=>he.one y' u hu)
  simp only[Nat.add_zero] at h3
  have hcs:(Value.agg (f y').toArray).cells.size=k:=by simp[Value.cells,hfl]
  have:(execOp a.eval o).run Tryz.prog w=.ok .skip (w.setRow g (cur.toList.take (j*k)++f y'++cur.toList.drop (j*k+k)).toArray):=by
   unfold execOp
   rw[ho]
   simp only[F.eval hx,F.eval hy,Instr.storeAt,Instr.sureAddr,storeVar,Sem.run_bind,Sem.run_pure,Result.andThen_ok,(run_isAgg (t:=t) w).2,hcs]
   simp[Value.cells,h3,hfl]
  rw[this]
  refine⟨L2,h,M.rep (hp.app G) fun s' hs'=>?_⟩
  obtain ⟨_,h8|⟨g2,cap2,cur2,h8,rfl,_⟩⟩:=hs'.now
  ·rw[hv] at h8;simp at h8
  rw[hv] at h8
  simp only[Value.slice.injEq,Option.some.injEq,Addr.mk.injEq] at h8
  obtain ⟨⟨rfl,_⟩,_⟩:=h8
  refine⟨chg_setRow,[g],?_,fun x hx=>.inl hx⟩
  rw[hv]
  unfold ownT
  rw[List.length_set]
  refine ok_own (by rw[flat_lenE he,List.length_set]) (setRow_heap w g cur _ e _ hg) hn hc ?_ ?_
  ·simp only[List.size_toArray,List.length_append,List.length_take,List.length_drop,Array.length_toList,hfl]
   omega
  ·rw[hset]
   simp only[List.toList_toArray]
   have e1:(xs.flatMap f).take (j*k)=cur.toList.take (j*k):=by rw[← ht,List.take_take,Nat.min_eq_left (by omega)]
   have e2:(xs.flatMap f).drop (j*k+k)=(cur.toList.drop (j*k+k)).take (xs.length*k - (j*k+k)):=by rw[← ht,List.drop_take]
   rw[e1,e2,List.take_append,List.take_append]
   have l1:(cur.toList.take (j*k)).length=j*k:=by rw[List.length_take,Array.length_toList];omega
   rw[List.take_of_length_le (l:=cur.toList.take (j*k)) (by omega),l1,List.take_of_length_le (l:=f y') (by omega),List.length_append,l1,hfl]
def idxP {α:Type} (p:α→Bool):List α→Nat→Int
 | [],_=>-1
 | x::r,i=>if p x=true then (i:Int) else idxP p r (i+1)
theorem idxP_spec {α:Type} (p:α→Bool):∀ (xs:List α) (k:Nat),(idxP p xs k = -1∧∀ x∈xs,p x=false)∨∃ i x,xs[i]? = some x∧idxP p xs k=((k+i:Nat):Int)∧(∀ y∈xs.take i,p y=false)∧p x=true
 | [],k=>.inl ⟨rfl,by simp⟩
 | x::r,k=>by
  cases hp:p x
  ·rcases idxP_spec p r (k+1) with⟨h1,h2⟩|⟨i,y,h1,h2,h3,h4⟩
   ·exact .inl ⟨by simp[idxP,hp,h1],by simpa[hp] using h2⟩
   ·refine .inr ⟨i+1,y,by simpa using h1,?_,?_,h4⟩
    ·simp only[idxP,hp,Bool.false_eq_true,if_false]
     rw[h2];congr 1;omega
    ·simpa[hp] using h3
  ·exact .inr ⟨0,x,rfl,by simp[idxP,hp],by simp,hp⟩
theorem filter_all {α:Type} (p:α→Bool):∀ (xs:List α),(∀ x∈xs,p x=false)→xs.filter (fun x=>!p x)=xs:=fun xs h=>by
 rw[List.filter_eq_self];intro x hx;simp[h x hx]
end
end
end Go.Proofs.YtopbohbkhljjgaaGreat
