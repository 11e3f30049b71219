import Derived.Test.YtjbfcacmdahnhaaGreatZkq
set_option linter.unusedVariables false
set_option linter.unusedSimpArgs false
set_option linter.unusedSectionVars false
set_option maxRecDepth 100000
set_option maxHeartbeats 8000000
namespace Go.Proofs.YtjbfcacmdahnhaaGreat
section
open Go.RowKit
section
variable (y1 y2:Val) (c:Cfg) (R:List Asn)
theorem rmcheck_spec (ha:U64 y1.bal) (hb:U64 y2.bal):Spec 217 [valV y1,valV y2,cfgV c] R fun u L'=>u=.int .i64 (merC c y1 y2)∧L'=R:=by
 have h1:=ha.1;have h2:=hb.1
 have hadd:∀ {L:List Asn} {v:Value},GS L 1 v 2 ([y1.bal,y2.bal].flatMap u64L)→Reads 207 [v] (.tuple [.int .u64 (addR [y1.bal,y2.bal]).1,.bool (addR [y1.bal,y2.bal]).2].toArray) L:=fun hg=>radd_reads _ [y1.bal,y2.bal] (by simp only[List.mem_cons,List.not_mem_nil,or_false];rintro z (rfl|rfl);exact ha;exact hb) hg
 rw[addR_sum _ (by simp only[List.mem_cons,List.not_mem_nil,or_false];rintro z (rfl|rfl)<;>omega),show [y1.bal,y2.bal].sum=y1.bal+y2.bal by simp] at hadd
 have hX:∀ X,merC c y1 y2=X→X=if y1.st≠2∨y2.st≠2 then 8 else if y1.sl=true∨y2.sl=true then 9 else if c.maxBalance<y1.bal+y2.bal∨18446744073709551615<y1.bal+y2.bal then 3 else 0:=fun X h=>by rw[← h];rfl
 generalize merC c y1 y2=X at *
 replace hX:=hX X rfl
 obtain ⟨b1,s1,l1,r1,x1,w1,d1⟩:=y1
 obtain ⟨b2,s2,l2,r2,x2,w2,d2⟩:=y2
 simp only at hX hadd h1 h2
 by_cases k1:s1=2
 ·by_cases k2:s2=2
  ·rw[if_neg (by omega)] at hX
   cases l1
   ·cases l2
    ·simp only[Bool.false_eq_true,or_self,if_false] at hX
     by_cases k3:18446744073709551615<b1+b2
     ·rw[if_pos (.inr k3)] at hX
      simp only[k3,if_true] at hadd
      subst k1;subst k2
      refine zGz zk217 Tryz.func217 ?_;intro G;(repeat'(first|refine zA ?_;repeat intro nb|refine zC ?_;refine acCall (k:=207) ?_;refine Spec.of_reads (hadd (gs_own pullA)) rfl ?_|refine zB ?_ ?_<;>intro hc<;>try exact no hc|refine zH ?_ ?_<;>(intro hg;rw[hg];try exact no hg)));all_goals try refine zO fun a w F M=>?_
      (all_goals(refine zE F M ?_;exact⟨_,_,rfl,⟨by rw[hX];rfl,rfl⟩,M.perms permsA⟩))
     ·simp only[k3,if_false,or_false] at hadd hX
      subst k1;subst k2
      by_cases k4:c.maxBalance<b1+b2
      ·rw[if_pos k4] at hX
       refine zGz zk217 Tryz.func217 ?_;intro G;(repeat'(first|refine zA ?_;repeat intro nb|refine zC ?_;refine acCall (k:=207) ?_;refine Spec.of_reads (hadd (gs_own pullA)) rfl ?_|refine zB ?_ ?_<;>intro hc<;>try exact no hc|refine zH ?_ ?_<;>(intro hg;rw[hg];try exact no hg)));all_goals try refine zO fun a w F M=>?_
       (all_goals(refine zE F M ?_;exact⟨_,_,rfl,⟨by rw[hX];rfl,rfl⟩,M.perms permsA⟩))
      ·rw[if_neg k4] at hX
       refine zGz zk217 Tryz.func217 ?_;intro G;(repeat'(first|refine zA ?_;repeat intro nb|refine zC ?_;refine acCall (k:=207) ?_;refine Spec.of_reads (hadd (gs_own pullA)) rfl ?_|refine zB ?_ ?_<;>intro hc<;>try exact no hc|refine zH ?_ ?_<;>(intro hg;rw[hg];try exact no hg)));all_goals try refine zO fun a w F M=>?_
       (all_goals(refine zE F M ?_;exact⟨_,_,rfl,⟨by rw[hX];rfl,rfl⟩,M.perms permsA⟩))
    ·simp only[Bool.false_eq_true,or_true,if_true] at hX
     subst k1;subst k2
     refine zGz zk217 Tryz.func217 ?_;intro G;(repeat'(first|refine zA ?_;repeat intro nb|refine zB ?_ ?_<;>intro hc<;>try exact no hc|refine zH ?_ ?_<;>(intro hg;rw[hg];try exact no hg)));all_goals try refine zO fun a w F M=>?_
     (all_goals(refine zE F M ?_;exact⟨_,_,rfl,⟨by rw[hX];rfl,rfl⟩,M.perms permsA⟩))
   ·simp only[true_or,if_true] at hX
    subst k1;subst k2
    refine zGz zk217 Tryz.func217 ?_;intro G;(repeat'(first|refine zA ?_;repeat intro nb|refine zB ?_ ?_<;>intro hc<;>try exact no hc|refine zH ?_ ?_<;>(intro hg;rw[hg];try exact no hg)));all_goals try refine zO fun a w F M=>?_
    (all_goals(refine zE F M ?_;exact⟨_,_,rfl,⟨by rw[hX];rfl,rfl⟩,M.perms permsA⟩))
  ·rw[if_pos (.inr k2)] at hX
   subst k1
   refine zGz zk217 Tryz.func217 ?_;intro G;(repeat'(first|refine zA ?_;repeat intro nb|refine zB ?_ ?_<;>intro hc<;>try exact no hc|refine zH ?_ ?_<;>(intro hg;rw[hg];try exact no hg)));all_goals try refine zO fun a w F M=>?_
   (all_goals(refine zE F M ?_;exact⟨_,_,rfl,⟨by rw[hX];rfl,rfl⟩,M.perms permsA⟩))
 ·rw[if_pos (.inl k1)] at hX
  refine zGz zk217 Tryz.func217 ?_;intro G;(repeat'(first|refine zA ?_;repeat intro nb|refine zB ?_ ?_<;>intro hc<;>try exact no hc|refine zH ?_ ?_<;>(intro hg;rw[hg];try exact no hg)));all_goals try refine zO fun a w F M=>?_
  (all_goals(refine zE F M ?_;exact⟨_,_,rfl,⟨by rw[hX];rfl,rfl⟩,M.perms permsA⟩))
end
section
variable (V:List Val) (v:Value) (R:List Asn) (hg:GS R 7 v V.length (V.flatMap valL)) (hl:V.length≤1000000)
include hg hl
theorem rmreq_spec (c:Cfg) (hV:∀ x∈V,U64 x.bal) (i j:Int):Spec 151 [v,.int .i64 i,.int .i64 j,cfgV c] R fun u L'=>u=.int .i64 (merR c V i j)∧L'=R:=by
 have hbad:i<0∨j<0∨(V.length:Int)≤i∨(V.length:Int)≤j→merR c V i j=7:=fun h2=>by
  unfold merR
  by_cases hn:i<0∨j<0
  ·rw[if_pos hn]
  ·rw[if_neg hn]
   cases h3:V[i.toNat]? with
   | none=>rfl
   | some x =>
    cases h4:V[j.toNat]? with
    | none=>rfl
    | some y =>
     have:=(List.getElem?_eq_some_iff.1 h3).1
     have:=(List.getElem?_eq_some_iff.1 h4).1
     omega
 have hgood:0≤i→i<V.length→0≤j→j<V.length→∃ x y,V[i.toNat]? = some x∧V[j.toNat]? = some y∧merR c V i j=if i=j then 12 else merC c x y:=fun h1 h2 h3 h4=>by
  have h5:i.toNat<V.length:=by omega
  have h6:j.toNat<V.length:=by omega
  refine⟨V[i.toNat],V[j.toNat],by simp[h5],by simp[h6],?_⟩
  unfold merR
  rw[if_neg (by omega)]
  simp[h5,h6]
 generalize merR c V i j=X at *
 by_cases h1:i<0
 ·have e:=hbad (.inl h1)
  ((refine zGo Tryz.func151 ?_;intro G w M a F);have hG:GS (R++G) 7 v V.length (V.flatMap valL):=Gives.app hg)
  (try refine zI zk151 F M ?_;clear F M a;try clear w);(repeat'(first|refine zA ?_;repeat intro nb|refine zB ?_ ?_<;>intro hc<;>try exact no hc|refine zH ?_ ?_<;>(intro hg;rw[hg];try exact no hg)));all_goals try refine zO fun a w F M=>?_
  (all_goals(refine zE F M ?_;exact⟨_,_,rfl,⟨by rw[e];rfl,rfl⟩,M.perms permsA⟩))
 by_cases h2:j<0
 ·have e:=hbad (.inr (.inl h2))
  ((refine zGo Tryz.func151 ?_;intro G w M a F);have hG:GS (R++G) 7 v V.length (V.flatMap valL):=Gives.app hg)
  (try refine zI zk151 F M ?_;clear F M a;try clear w);(repeat'(first|refine zA ?_;repeat intro nb|refine zB ?_ ?_<;>intro hc<;>try exact no hc|refine zH ?_ ?_<;>(intro hg;rw[hg];try exact no hg)));all_goals try refine zO fun a w F M=>?_
  (all_goals(refine zE F M ?_;exact⟨_,_,rfl,⟨by rw[e];rfl,rfl⟩,M.perms permsA⟩))
 by_cases h3:(V.length:Int)≤i
 ·have e:=hbad (.inr (.inr (.inl h3)))
  ((refine zGo Tryz.func151 ?_;intro G w M a F);have hG:GS (R++G) 7 v V.length (V.flatMap valL):=Gives.app hg)
  (try refine zI zk151 F M ?_;clear F M a;try clear w);(repeat'(first|refine zA ?_;repeat intro nb|refine zB ?_ ?_<;>intro hc<;>try exact no hc|refine zH ?_ ?_<;>(intro hg;rw[hg];try exact no hg)));all_goals try refine zO fun a w F M=>?_
  (all_goals(refine zE F M ?_;exact⟨_,_,rfl,⟨by rw[e];rfl,rfl⟩,M.perms permsA⟩))
 by_cases h4:(V.length:Int)≤j
 ·have e:=hbad (.inr (.inr (.inr h4)))
  ((refine zGo Tryz.func151 ?_;intro G w M a F);have hG:GS (R++G) 7 v V.length (V.flatMap valL):=Gives.app hg)
  (try refine zI zk151 F M ?_;clear F M a;try clear w);(repeat'(first|refine zA ?_;repeat intro nb|refine zB ?_ ?_<;>intro hc<;>try exact no hc|refine zH ?_ ?_<;>(intro hg;rw[hg];try exact no hg)));all_goals try refine zO fun a w F M=>?_
  (all_goals(refine zE F M ?_;exact⟨_,_,rfl,⟨by rw[e];rfl,rfl⟩,M.perms permsA⟩))
 obtain ⟨x,y,hx,hy,hXX⟩:=hgood (by omega) (by omega) (by omega) (by omega)
 have hs:=fun R=>rmcheck_spec x y c R (hV x (List.mem_of_getElem? hx)) (hV y (List.mem_of_getElem? hy))
 by_cases hij:i=j
 ·rw[if_pos hij] at hXX
  ((refine zGo Tryz.func151 ?_;intro G w M a F);have hG:GS (R++G) 7 v V.length (V.flatMap valL):=Gives.app hg)
  (try refine zI zk151 F M ?_;clear F M a;try clear w);(repeat'(first|refine zA ?_;repeat intro nb|refine zB ?_ ?_<;>intro hc<;>try exact no hc|refine zH ?_ ?_<;>(intro hg;rw[hg];try exact no hg)));all_goals try refine zO fun a w F M=>?_
  (all_goals(refine zE F M ?_;exact⟨_,_,rfl,⟨by rw[hXX];rfl,rfl⟩,M.perms permsA⟩))
 ·rw[if_neg hij] at hXX
  ((refine zGo Tryz.func151 ?_;intro G w M a F);have hG:GS (R++G) 7 v V.length (V.flatMap valL):=Gives.app hg)
  (try refine zI zk151 F M ?_;clear F M a;try clear w);(repeat'(first|refine zA ?_;repeat intro nb|refine zC ?_;refine kpW (k:=217) (hs _) ?_|refine zB ?_ ?_<;>intro hc<;>try exact no hc|refine zH ?_ ?_<;>(intro hg;rw[hg];try exact no hg)));all_goals try refine zO fun a w F M=>?_
  (all_goals(refine zE F M ?_;exact⟨_,_,rfl,⟨by rw[hXX];rfl,rfl⟩,M.perms permsA⟩))
theorem rpcheck_spec (i x:Int):Spec 150 [v,rqW i x] R fun u L'=>u=.int .i64 (parC V i x)∧L'=R:=by
 have hX:(i<0∨(V.length:Int)≤i→parC V i x=7)∧(0≤i→i<V.length→∃ y,V[i.toNat]? = some y∧parC V i x=if x=0 then 3 else if y.st≠2 then 8 else 0):=by
  refine⟨fun h=>?_,fun h1 h2=>?_⟩
  ·unfold parC
   by_cases h0:i<0
   ·rw[if_pos h0]
   ·rw[if_neg h0,List.getElem?_eq_none (by omega)]
  ·have h5:i.toNat<V.length:=by omega
   refine⟨V[i.toNat],by simp[h5],?_⟩
   unfold parC
   rw[if_neg (by omega)]
   simp[h5]
 obtain ⟨hX1,hX2⟩:=hX
 generalize parC V i x=X at *
 by_cases h0:i<0∨(V.length:Int)≤i
 ·have e:=hX1 h0
  refine zGo Tryz.func150 ?_;intro G w M a F
  have hG:GS (R++G) 7 v V.length (V.flatMap valL):=Gives.app hg
  by_cases h1:i<0
  ·(try refine zI zk150 F M ?_;clear F M a;try clear w);(repeat'(first|refine zA ?_;repeat intro nb|refine zC ?_;refine kpW (k:=217) (hs _) ?_|refine zB ?_ ?_<;>intro hc<;>try exact no hc|refine zH ?_ ?_<;>(intro hg;rw[hg];try exact no hg)));all_goals try refine zO fun a w F M=>?_
   (all_goals(refine zE F M ?_;exact⟨_,_,rfl,⟨by rw[e];rfl,rfl⟩,M.perms permsA⟩))
  ·(try refine zI zk150 F M ?_;clear F M a;try clear w);(repeat'(first|refine zA ?_;repeat intro nb|refine zC ?_;refine kpW (k:=217) (hs _) ?_|refine zB ?_ ?_<;>intro hc<;>try exact no hc|refine zH ?_ ?_<;>(intro hg;rw[hg];try exact no hg)));all_goals try refine zO fun a w F M=>?_
   (all_goals(refine zE F M ?_;exact⟨_,_,rfl,⟨by rw[e];rfl,rfl⟩,M.perms permsA⟩))
 ·have h1:¬i<0:=by omega
  have h2:¬(V.length:Int)≤i:=by omega
  obtain ⟨y,hy,e⟩:=hX2 (by omega) (by omega)
  by_cases hx:x=0
  ·subst hx
   rw[if_pos rfl] at e
   refine zGo Tryz.func150 ?_;intro G w M a F
   have hG:GS (R++G) 7 v V.length (V.flatMap valL):=Gives.app hg
   (try refine zI zk150 F M ?_;clear F M a;try clear w);(repeat'(first|refine zA ?_;repeat intro nb|refine zC ?_;refine kpW (k:=217) (hs _) ?_|refine zB ?_ ?_<;>intro hc<;>try exact no hc|refine zH ?_ ?_<;>(intro hg;rw[hg];try exact no hg)));all_goals try refine zO fun a w F M=>?_
   (all_goals(refine zE F M ?_;exact⟨_,_,rfl,⟨by rw[e];rfl,rfl⟩,M.perms permsA⟩))
  ·rw[if_neg hx] at e
   have hdx:decide (x=0)=false:=by simpa using hx
   refine zGo Tryz.func150 ?_;intro G w M a F
   have hG:GS (R++G) 7 v V.length (V.flatMap valL):=Gives.app hg
   by_cases hs:y.st=2
   ·rw[if_neg (by omega)] at e
    (try refine zI zk150 F M ?_;clear F M a;try clear w);(repeat'(first|refine zA ?_;repeat intro nb|refine zC ?_;refine kpW (k:=217) (hs _) ?_|refine zB ?_ ?_<;>intro hc<;>try exact no hc|refine zH ?_ ?_<;>(intro hg;rw[hg];try exact no hg)));all_goals try refine zO fun a w F M=>?_
    all_goals first
     | (refine zE F M ?_;exact⟨_,_,rfl,⟨by rw[e];rfl,rfl⟩,M.perms permsA⟩)
     | (exfalso;simp_all;done)
   ·rw[if_pos hs] at e
    (try refine zI zk150 F M ?_;clear F M a;try clear w);(repeat'(first|refine zA ?_;repeat intro nb|refine zC ?_;refine kpW (k:=217) (hs _) ?_|refine zB ?_ ?_<;>intro hc<;>try exact no hc|refine zH ?_ ?_<;>(intro hg;rw[hg];try exact no hg)));all_goals try refine zO fun a w F M=>?_
    all_goals first
     | (refine zE F M ?_;exact⟨_,_,rfl,⟨by rw[e];rfl,rfl⟩,M.perms permsA⟩)
     | (exfalso;simp_all;done)
end
theorem rpavail_spec (c:Cfg) (hc:CfOk c) (y:Val) (hy:U64 y.bal) (R:List Asn):Spec 224 [valV y,cfgV c] R fun u L'=>u=.int .u64 (availV c y)∧L'=R:=by
 have h1:=hc.mb
 have hX:∀ X,availV c y=X→X=if y.st≠2∨y.sl=true∨y.bal≤c.minBalance then 0 else y.bal - c.minBalance:=fun X h=>by rw[← h];rfl
 generalize availV c y=X at *
 replace hX:=hX X rfl
 obtain ⟨bal,st,s,rq,ex,wd,dl⟩:=y
 simp only at hX
 have y1:=hy.1;have y2:=hy.2
 simp only at y1 y2
 cases s
 ·by_cases k1:st=2
  ·subst k1
   simp only[ne_eq,not_true_eq_false,Bool.false_eq_true,false_or] at hX
   by_cases k2:bal≤c.minBalance
   ·rw[if_pos k2] at hX
    refine zGz zk224 Tryz.func224 ?_;intro G;(repeat'(first|refine zA ?_;repeat intro nb|refine zC ?_;refine kpW (k:=217) (hs _) ?_|refine zB ?_ ?_<;>intro hc<;>try exact no hc|refine zH ?_ ?_<;>(intro hg;rw[hg];try exact no hg)));all_goals try refine zO fun a w F M=>?_
    (all_goals(refine zE F M ?_;exact⟨_,_,rfl,⟨by rw[hX];rfl,rfl⟩,M.perms permsA⟩))
   ·rw[if_neg k2] at hX
    refine zGz zk224 Tryz.func224 ?_;intro G;(repeat'(first|refine zA ?_;repeat intro nb|refine zC ?_;refine kpW (k:=217) (hs _) ?_|refine zB ?_ ?_<;>intro hc<;>try exact no hc|refine zH ?_ ?_<;>(intro hg;rw[hg];try exact no hg)));all_goals try refine zO fun a w F M=>?_
    (all_goals(refine zE F M ?_;exact⟨_,_,rfl,⟨by rw[hX];rfl,rfl⟩,M.perms permsA⟩))
  ·rw[if_pos (.inl k1)] at hX
   refine zGz zk224 Tryz.func224 ?_;intro G;(repeat'(first|refine zA ?_;repeat intro nb|refine zC ?_;refine kpW (k:=217) (hs _) ?_|refine zB ?_ ?_<;>intro hc<;>try exact no hc|refine zH ?_ ?_<;>(intro hg;rw[hg];try exact no hg)));all_goals try refine zO fun a w F M=>?_
   (all_goals(refine zE F M ?_;exact⟨_,_,rfl,⟨by rw[hX];rfl,rfl⟩,M.perms permsA⟩))
 ·rw[if_pos (.inr (.inl rfl))] at hX
  refine zGo Tryz.func224 ?_;intro G w M a F
  by_cases k1:st=2
  ·(try refine zI zk224 F M ?_;clear F M a;try clear w);(repeat'(first|refine zA ?_;repeat intro nb|refine zC ?_;refine kpW (k:=217) (hs _) ?_|refine zB ?_ ?_<;>intro hc<;>try exact no hc|refine zH ?_ ?_<;>(intro hg;rw[hg];try exact no hg)));all_goals try refine zO fun a w F M=>?_
   (all_goals(refine zE F M ?_;exact⟨_,_,rfl,⟨by rw[hX];rfl,rfl⟩,M.perms permsA⟩))
  ·(try refine zI zk224 F M ?_;clear F M a;try clear w);(repeat'(first|refine zA ?_;repeat intro nb|refine zC ?_;refine kpW (k:=217) (hs _) ?_|refine zB ?_ ?_<;>intro hc<;>try exact no hc|refine zH ?_ ?_<;>(intro hg;rw[hg];try exact no hg)));all_goals try refine zO fun a w F M=>?_
   (all_goals(refine zE F M ?_;exact⟨_,_,rfl,⟨by rw[hX];rfl,rfl⟩,M.perms permsA⟩))
theorem parV_some {c:Cfg} {Z:List Val × List Pm} {r:Nat × Int} {v:Val} (h:Z.1[r.1]? = some v):parV c Z r=(Z.1.set r.1 {v with bal:=v.bal - min r.2 (availV c v)},if 0<min r.2 (availV c v) then Z.2++[⟨r.1,min r.2 (availV c v),false⟩] else Z.2):=by
 unfold parV;rw[h]
theorem parV_lens (c:Cfg) (Z:List Val × List Pm) (r:Nat × Int):(parV c Z r).1.length=Z.1.length∧(parV c Z r).2.length≤Z.2.length+1:=by
 unfold parV
 split
 ·exact⟨rfl,by omega⟩
 ·refine⟨by rw[List.length_set],?_⟩
  simp only
  split<;>simp
theorem parV_u64 (c:Cfg) (hc:CfOk c) (Z:List Val × List Pm) (hZ:∀ v∈Z.1,U64 v.bal) (r:Nat × Int) (hr:0≤r.2):∀ v∈(parV c Z r).1,U64 v.bal:=by
 unfold parV
 cases h:Z.1[r.1]? with
 | none=>exact hZ
 | some v =>
  intro x hx
  have hv:=hZ v (List.mem_of_getElem? h)
  have ha:=avail_le c hc v hv
  have v1:=hv.1;have v2:=hv.2
  rcases List.mem_or_eq_of_mem_set hx with hx|rfl
  ·exact hZ x hx
  ·exact⟨by simp only;omega,by simp only;omega⟩
section
variable (V:List Val) (v:Value) (R:List Asn) (hg:GS R 7 v V.length (V.flatMap valL)) (hl:V.length≤4096)
include hg hl
theorem rpstep_spec (c:Cfg) (hc:CfOk c) (hq:Value) (q:List (Nat × Int)) (hgq:GS R 2 hq q.length (q.flatMap rqL)) (hql:q.length≤4096) (hV:∀ x∈V,U64 x.bal) (hr:∀ r∈q,r.1<V.length∧U64 r.2) :
  Spec 153 [v,hq,cfgV c] R fun u L'=>∃ h h',u=.tuple [sl h,sl h',.int .i64 ((q.take c.partials.toNat).length:Int)].toArray∧L'=ownT 62 valL 7 (sl h) ((q.take c.partials.toNat).foldl (parV c) (V,[])).1::ownT 57 pmL 3 (sl h') ((q.take c.partials.toNat).foldl (parV c) (V,[])).2::R:=by
 have hpa:=hc.pa
 have hpy:=hc.py
 obtain ⟨mg,hmg⟩:∃ mg:Nat,c.partials=mg:=⟨c.partials.toNat,by omega⟩
 obtain ⟨m,hm⟩:∃ m,min q.length mg=m:=⟨_,rfl⟩
 have htk:q.take c.partials.toNat=q.take m:=by rw[hmg,Int.toNat_natCast,← hm];exact List.take_eq_take_iff.2 (by omega)
 rw[htk]
 have hX:(q.take m).foldl (parV c) (V,[])=((q.take m).drop 0).foldl (parV c) (V,[]):=by simp
 have hlt:(q.take m).length=m:=by rw[List.length_take];omega
 rw[hlt]
 have hQq:∀ k,k<m→(q.take m)[k]? = q[k]?:=fun k hk=>by rw[List.getElem?_take,if_pos hk]
 generalize q.take m=Q at *
 generalize List.foldl (parV c) (V,[]) Q=X at *
 obtain ⟨X1,X2⟩:=X
 simp only
 refine zGo Tryz.func153 ?_;intro G w M a F
 have hG:GS (R++G) 7 v V.length (V.flatMap valL):=Gives.app hg
 have hH:GS (R++G) 2 hq q.length (q.flatMap rqL):=Gives.app hgq
 have M:=M.own_nil 57 3
 (try refine zI zk153 F M ?_;clear F M a;try clear w);(repeat'(first|refine zA ?_;repeat intro nb|refine zC ?_;refine ac_appendE (f:=valL) (ys:=V) rfl rfl inferInstance rfl rfl pullA inferInstance gsA rfl rfl (by omega) ?_;intro h1|refine zB ?_ ?_<;>intro hc<;>try exact no hc|refine zH ?_ ?_<;>(intro hg;rw[hg];try exact no hg)));all_goals try refine zO fun a w F M=>?_
 refine svLoop F M ((0,h1,V,nilH,[]):Nat × SlH × List Val × SlH × List Pm) (fun s=>[(12,.int .i64 s.1),(11,.int .i64 s.1),(9,sl s.2.1),(10,sl s.2.2.2.1)]) (fun s=>[ownT 62 valL 7 (sl s.2.1) s.2.2.1,ownT 57 pmL 3 (sl s.2.2.2.1) s.2.2.2.2]) (fun s=>s.1≤m∧(X1,X2)=(Q.drop s.1).foldl (parV c) (s.2.2.1,s.2.2.2.2)∧s.2.2.1.length=V.length∧(∀ x∈s.2.2.1,U64 x.bal)∧s.2.2.2.2.length≤s.1) (fun s=>m - s.1) [] ⟨Nat.zero_le _,hX,rfl,hV,Nat.zero_le _⟩ ?_ (hR:=by(repeat (first|exact Pulls.nil|(apply Pulls.cons;(focus ((repeat (first|exact Pull.here|apply Pull.there));done))))))
 (rintro⟨k,h1,V',hd,ps⟩ ⟨q1,q2,q3,q4,q5⟩ a w F M;(try simp only[zc,zn] at F M q1 q2 q3 q4 q5 ⊢))
 by_cases hk:k<m
 ·obtain ⟨p,hp⟩:∃ p,Q[k]? = some p:=⟨Q[k],by simp[hlt,hk]⟩
  have hpq:q[k]? = some p:=by rw[← hQq k hk];exact hp
  obtain ⟨r1,r2⟩:=hr p (List.mem_of_getElem? hpq)
  rw[drop_cons hp,List.foldl_cons] at q2
  obtain ⟨i,x⟩:=p
  simp only at r1 r2
  obtain ⟨y,hy⟩:∃ y,V'[i]? = some y:=⟨V'[i]'(by omega),by rw[List.getElem?_eq_getElem]⟩
  have hyu:=q4 y (List.mem_of_getElem? hy)
  have hav:=fun R=>rpavail_spec c hc y hyu R
  obtain ⟨a1,a2⟩:=avail_le c hc y hyu
  have hu:=parV_u64 c hc (V',ps) q4 (i,x) r2.1
  have hln:=parV_lens c (V',ps) (i,x)
  rw[parV_some (r:=(i,x)) hy] at q2 hu hln
  simp only at q2 hu hln
  have x1:=r2.1
  generalize availV c y=av at *
  obtain ⟨mn,hmn⟩:∃ mn,min x av=mn:=⟨_,rfl⟩
  have hmin:(if av<x then av else x)=mn:=by split<;>omega
  have m1:0≤mn:=by omega
  have m2:mn≤y.bal:=by omega
  have y2:=hyu.2
  rw[hmn] at q2 hu hln
  have hpt:=fun (R:List Asn) hg=>rput_spec V' (sl h1) R hg (by omega) i {y with bal:=y.bal - mn} y hy
  obtain ⟨bal,st,s,rq,ex,wd,dl⟩:=y
  simp only at m2 y2 hpt hav q2 hu hln
  generalize V'.set i ⟨bal - mn,st,s,rq,ex,wd,dl⟩=V2 at *
  by_cases hm0:0<mn
  ·rw[if_pos hm0] at q2 hln
   (try refine zI zk153 F M ?_;clear F M a;try clear w);(repeat'(first|refine zV (h:=⟨_,by((apply rt_min2;(exact rfl);(exact rfl);(exact hmin))),?_⟩)|refine zA1 ?_;repeat intro(nb:Nat)|refine zC ?_;(first|refine kpW (k:=224) (hav _) ?_|refine acW (k:=146) (hpt _ ?_) ?_;exact gs_own pullA;rintro u L' ⟨h2,rfl,rfl⟩|refine ac_appendH (f:=pmL) (xs:=ps) (ys:=[⟨(i:Int),mn,false⟩]) rfl rfl inferInstance rfl rfl pullA inferInstance gsA rfl rfl (by simp;omega) ?_;intro nv)|refine zB ?_ ?_<;>intro hc<;>try exact no hc|refine zH ?_ ?_<;>(intro hg;rw[hg];try exact no hg)));all_goals try refine zO fun a w F M=>?_
   refine sv_again F M (k+1,h2,_,nv,_) kpA permsA ⟨by simp only;omega,q2,by simp only;omega,hu,by simp;omega⟩ (by simp only;omega)
  ·rw[if_neg hm0] at q2 hln
   (try refine zI zk153 F M ?_;clear F M a;try clear w);(repeat'(first|refine zV (h:=⟨_,by((apply rt_min2;(exact rfl);(exact rfl);(exact hmin))),?_⟩)|refine zA1 ?_;repeat intro(nb:Nat)|refine zC ?_;(first|refine kpW (k:=224) (hav _) ?_|refine acW (k:=146) (hpt _ ?_) ?_;exact gs_own pullA;rintro u L' ⟨h2,rfl,rfl⟩|refine ac_appendH (f:=pmL) (xs:=ps) (ys:=[⟨(i:Int),mn,false⟩]) rfl rfl inferInstance rfl rfl pullA inferInstance gsA rfl rfl (by simp;omega) ?_;intro nv)|refine zB ?_ ?_<;>intro hc<;>try exact no hc|refine zH ?_ ?_<;>(intro hg;rw[hg];try exact no hg)));all_goals try refine zO fun a w F M=>?_
   refine sv_again F M (k+1,h2,_,hd,_) kpA permsA ⟨by simp only;omega,q2,by simp only;omega,hu,by simp only;omega⟩ (by simp only;omega)
 ·obtain rfl:k=m:=by omega
  rw[List.drop_of_length_le (by omega),List.foldl_nil] at q2
  simp only[Prod.mk.injEq] at q2
  obtain ⟨rfl,rfl⟩:=q2
  by_cases hlast:k<q.length
  ·(try refine zI zk153 F M ?_;clear F M a;try clear w);(repeat'(first|refine zA ?_;repeat intro nb|refine zB ?_ ?_<;>intro hc<;>try exact no hc|refine zH ?_ ?_<;>(intro hg;rw[hg];try exact no hg)));all_goals try refine zO fun a w F M=>?_
   (all_goals(refine zE F M ?_;exact⟨_,_,rfl,⟨h1,hd,rfl,rfl⟩,M.perms permsA⟩))
  ·(try refine zI zk153 F M ?_;clear F M a;try clear w);(repeat'(first|refine zA ?_;repeat intro nb|refine zB ?_ ?_<;>intro hc<;>try exact no hc|refine zH ?_ ?_<;>(intro hg;rw[hg];try exact no hg)));all_goals try refine zO fun a w F M=>?_
   (all_goals(refine zE F M ?_;exact⟨_,_,rfl,⟨h1,hd,rfl,rfl⟩,M.perms permsA⟩))
end
theorem rsweep_spec (v:Value) (rd:List Bool) (vi py at':Nat) (R:List Asn) (hg:GS R 1 v rd.length (rd.flatMap boL)) (hl:rd.length≤4096) (ha:at'<rd.length∨at'=0) (hv:1≤vi∧vi≤4096) (hp:1≤py∧py≤4096):Spec 154 [.int .i64 at',v,.int .i64 vi,.int .i64 py] R fun u L'=>∃ h,u=.tuple [sl h,.int .i64 (swGo rd py (min vi rd.length) at' []).2.1,.int .i64 (swGo rd py (min vi rd.length) at' []).2.2].toArray∧L'=ownT 3 natL 1 (sl h) (swGo rd py (min vi rd.length) at' []).1::R:=by
 obtain ⟨p1,p2⟩:=hp
 obtain ⟨v1,v2⟩:=hv
 by_cases h0:rd.length=0
 ·rw[h0,Nat.min_zero]
  simp only[swGo]
  rw[h0] at hg
  refine zGo Tryz.func154 ?_;intro G w M a F
  have hG:GS (R++G) 1 v 0 (rd.flatMap boL):=Gives.app hg
  have M:=M.own_nil 3 1
  (try refine zI zk154 F M ?_;clear F M a;try clear w);(repeat'(first|refine zA ?_;repeat intro nb|refine zB ?_ ?_<;>intro hc<;>try exact no hc|refine zH ?_ ?_<;>(intro hg;rw[hg];try exact no hg)));all_goals try refine zO fun a w F M=>?_
  (all_goals(refine zE F M ?_;exact⟨_,_,rfl,⟨nilH,rfl,rfl⟩,M.perms permsA⟩))
 ·obtain ⟨m,hm⟩:∃ m,min vi rd.length=m:=⟨_,rfl⟩
  obtain ⟨n,hn⟩:∃ n,rd.length=n:=⟨_,rfl⟩
  rw[hm]
  have hX:∃ X,swGo rd py m at' []=X∧swGo rd py (m - 0) at' []=(X.1,X.2.1 - 0,X.2.2):=⟨_,rfl,rfl⟩
  obtain ⟨⟨X1,X2,X3⟩,hX1,hX⟩:=hX
  rw[hX1]
  simp only at hX ⊢
  have hn1:1≤n:=by omega
  have hn2:n≤4096:=by omega
  have ha2:at'<n:=by omega
  rw[hn] at hg hm
  have ea:(at':Int) % (n:Int)=(at':Int):=Int.emod_eq_of_lt (by omega) (by omega)
  have en:¬((n:Int)=0):=by omega
  refine zGo Tryz.func154 ?_;intro G w M a F
  have hG:GS (R++G) 1 v n (rd.flatMap boL):=Gives.app hg
  have M:=M.own_nil 3 1
  (try refine zI zk154 F M ?_;clear F M a;try clear w);(repeat'(first|refine zV (h:=⟨_,by((apply rt_rem' (r:=(at':Int));(exact rfl);(exact rfl);(exact rfl);omega;omega;(exact ea))),?_⟩)|refine zA1 ?_;repeat intro(nb:Nat)|refine zB ?_ ?_<;>intro hc<;>try exact no hc|refine zH ?_ ?_<;>(intro hg;rw[hg];try exact no hg)));all_goals try refine zO fun a w F M=>?_
  refine svLoop F M ((0,at',nilH,[]):Nat × Nat × SlH × List Nat) (fun s=>[(13,.int .i64 s.1),(0,.int .i64 s.2.1),(12,sl s.2.2.1)]) (fun s=>[ownT 3 natL 1 (sl s.2.2.1) s.2.2.2]) (fun s=>s.1≤m∧s.2.1<n∧s.2.2.2.length≤s.1∧s.2.2.2.length≤py∧swGo rd py (m - s.1) s.2.1 s.2.2.2=(X1,X2 - s.1,X3)∧s.1≤X2) (fun s=>m - s.1) [] ⟨Nat.zero_le _,ha2,Nat.zero_le _,Nat.zero_le _,hX,Nat.zero_le _⟩ ?_ (hR:=by(repeat (first|exact Pulls.nil|(apply Pulls.cons;(focus ((repeat (first|exact Pull.here|apply Pull.there));done))))))
  (rintro⟨k,c,h,l⟩ ⟨q1,q2,q3,q6,q4,q5⟩ a w F M;(try simp only[zc,zn] at F M q1 q2 q3 q4 q5 q6 ⊢))
  by_cases hk:k<m
  ·have hk2:m - k=(m - (k+1))+1:=by omega
   have kv:(k:Int)<vi:=by omega
   have kn:(k:Int)<n:=by omega
   rw[hk2,swGo] at q4
   by_cases hlp:l.length=py
   ·rw[if_pos hlp] at q4
    simp only[Prod.mk.injEq] at q4
    obtain ⟨e1,e2,e3⟩:=q4
    have e4:X2=k:=by omega
    have hlp2:¬((l.length:Int)<(py:Int)):=by omega
    (try refine zI zk154 F M ?_;clear F M a;try clear w);(repeat'(first|refine zA ?_;repeat intro nb|refine zB ?_ ?_<;>intro hc<;>try exact no hc|refine zH ?_ ?_<;>(intro hg;rw[hg];try exact no hg)));all_goals try refine zO fun a w F M=>?_
    all_goals refine zE F M ?_
    subst e1;subst e3;subst e4
    exact⟨_,_,rfl,⟨h,rfl,rfl⟩,M.perms permsA⟩
   ·rw[if_neg hlp] at q4
    simp only[hn] at q4
    rw[Nat.mod_eq_of_lt q2] at q4
    obtain ⟨y,hy⟩:∃ y,rd[c]? = some y:=⟨rd[c]'(by omega),by rw[List.getElem?_eq_getElem (by omega)]⟩
    have hgd:rd.getD c false=y:=by rw[List.getD_eq_getElem?_getD,hy];rfl
    rw[hgd] at q4
    have hlp2:(l.length:Int)<(py:Int):=by omega
    have hj:=Nat.mod_lt (c+1) hn1
    have e9:((c:Int)+1) % (n:Int)=(((c+1) % n:Nat):Int):=by rw[Int.natCast_emod (c+1) n,Int.natCast_add];rfl
    generalize (c+1) % n=j at *
    cases y
    ·simp only[Bool.false_eq_true,if_false,Prod.mk.injEq] at q4
     obtain ⟨e1,e2,e3⟩:=q4
     (try refine zI zk154 F M ?_;clear F M a;try clear w);(repeat'(first|refine zV (h:=⟨_,by((apply rt_rem' (r:=(j:Int));(exact rfl);(exact rfl);(exact rfl);omega;omega;(exact e9))),?_⟩)|refine zA1 ?_;repeat intro(nb:Nat)|refine zC ?_;refine ac_appendH (f:=natL) (xs:=l) (ys:=[c]) rfl rfl inferInstance rfl rfl pullA inferInstance gsA rfl rfl (by simp;omega) ?_;intro nv|refine zB ?_ ?_<;>intro hc<;>try exact no hc|refine zH ?_ ?_<;>(intro hg;rw[hg];try exact no hg)));all_goals try refine zO fun a w F M=>?_
     refine sv_again F M (k+1,j,h,l) kpA permsA ⟨by simp only;omega,by simp only;omega,by simp only;omega,by simp only;omega,?_,by simp only;omega⟩ (by simp only;omega)
     exact Prod.ext e1 (Prod.ext (by simp only;omega) e3)
    ·simp only[if_true,Prod.mk.injEq] at q4
     obtain ⟨e1,e2,e3⟩:=q4
     (try refine zI zk154 F M ?_;clear F M a;try clear w);(repeat'(first|refine zV (h:=⟨_,by((apply rt_rem' (r:=(j:Int));(exact rfl);(exact rfl);(exact rfl);omega;omega;(exact e9))),?_⟩)|refine zA1 ?_;repeat intro(nb:Nat)|refine zC ?_;refine ac_appendH (f:=natL) (xs:=l) (ys:=[c]) rfl rfl inferInstance rfl rfl pullA inferInstance gsA rfl rfl (by simp;omega) ?_;intro nv|refine zB ?_ ?_<;>intro hc<;>try exact no hc|refine zH ?_ ?_<;>(intro hg;rw[hg];try exact no hg)));all_goals try refine zO fun a w F M=>?_
     refine sv_again F M (k+1,j,nv,l++[c]) kpA permsA ⟨by simp only;omega,by simp only;omega,by simp;omega,by simp;omega,?_,by simp only;omega⟩ (by simp only;omega)
     exact Prod.ext e1 (Prod.ext (by simp only;omega) e3)
  ·obtain rfl:k=m:=by omega
   rw[Nat.sub_self] at q4
   simp only[swGo,Prod.mk.injEq] at q4
   obtain ⟨e1,e2,e3⟩:=q4
   have e4:X2=k:=by omega
   subst e1;subst e3;subst e4
   by_cases kv:(X2:Int)<vi
   ·have kn:¬(X2:Int)<n:=by omega
    (try refine zI zk154 F M ?_;clear F M a;try clear w);(repeat'(first|refine zA ?_;repeat intro nb|refine zC ?_;refine ac_appendH (f:=natL) (xs:=l) (ys:=[c]) rfl rfl inferInstance rfl rfl pullA inferInstance gsA rfl rfl (by simp;omega) ?_;intro nv|refine zB ?_ ?_<;>intro hc<;>try exact no hc|refine zH ?_ ?_<;>(intro hg;rw[hg];try exact no hg)));all_goals try refine zO fun a w F M=>?_
    (all_goals(refine zE F M ?_;exact⟨_,_,rfl,⟨h,rfl,rfl⟩,M.perms permsA⟩))
   ·(try refine zI zk154 F M ?_;clear F M a;try clear w);(repeat'(first|refine zA ?_;repeat intro nb|refine zC ?_;refine ac_appendH (f:=natL) (xs:=l) (ys:=[c]) rfl rfl inferInstance rfl rfl pullA inferInstance gsA rfl rfl (by simp;omega) ?_;intro nv|refine zB ?_ ?_<;>intro hc<;>try exact no hc|refine zH ?_ ?_<;>(intro hg;rw[hg];try exact no hg)));all_goals try refine zO fun a w F M=>?_
    (all_goals(refine zE F M ?_;exact⟨_,_,rfl,⟨h,rfl,rfl⟩,M.perms permsA⟩))
end
section
open Go.RowKit
section
variable (V:List Val) (v:Value) (R:List Asn) (hg:GS R 7 v V.length (V.flatMap valL)) (hl:V.length≤1000000)
include hg hl
theorem rmove_spec (i j:Nat) (y z:Val) (hy:V[i]? = some y) (hz:V[j]? = some z) (hij:i≠j) (h1:0≤y.bal) (h2:0≤z.bal) (h3:y.bal+z.bal≤18446744073709551615):Spec 300 [v,.int .i64 i,.int .i64 j] R fun u L'=>∃ h,u=sl h∧L'=ownT 62 valL 7 (sl h) ((V.set i (mSrc y)).set j (mDst z y))::R:=by
 have hil:i<V.length:=(List.getElem?_eq_some_iff.1 hy).1
 have hjl:j<V.length:=(List.getElem?_eq_some_iff.1 hz).1
 have hp1:=fun (R:List Asn) hg=>rput_spec V v R hg hl i (mSrc y) y hy
 have hz2:(V.set i (mSrc y))[j]? = some z:=by rw[List.getElem?_set_ne hij,hz]
 have hp2:=fun (h:SlH) (R:List Asn) hg=>rput_spec (V.set i (mSrc y)) (sl h) R hg (by rw[List.length_set];exact hl) j (mDst z y) z hz2
 obtain ⟨b1,s1,l1,r1,x1,w1,d1⟩:=y
 obtain ⟨b2,s2,l2,r2,x2,w2,d2⟩:=z
 simp only[mSrc,mDst] at *
 generalize hU:V.set i ⟨0,7,l1,r1,x1,w1,d1⟩=U at *
 refine zGo Tryz.func300 ?_;intro G w M a F
 have hG:GS (R++G) 7 v V.length (V.flatMap valL):=Gives.app hg
 (try refine zI zk300 F M ?_;clear F M a;try clear w);(repeat'(first|refine zA ?_;repeat intro nb|refine zC ?_;(first|refine acW (k:=146) (hp1 _ ?_) ?_;exact gsA;rintro u L' ⟨q1,rfl,rfl⟩|refine acW (k:=146) (hp2 q1 _ ?_) ?_;exact gs_own pullA;rintro u L' ⟨q2,rfl,rfl⟩)|refine zB ?_ ?_<;>intro hc<;>try exact no hc|refine zH ?_ ?_<;>(intro hg;rw[hg];try exact no hg)));all_goals try refine zO fun a w F M=>?_
 (all_goals(refine zE F M ?_;exact⟨_,_,rfl,⟨q2,rfl,rfl⟩,M.perms permsA⟩))
theorem rmstep_spec (c:Cfg) (hc:CfOk c) (hq:Value) (q:List (Nat × Nat)) (hgq:GS R 2 hq q.length (q.flatMap prL)) (hql:q.length≤4096) (hl2:V.length≤4096) (hV:∀ x∈V,U64 x.bal) :
  Spec 223 [v,hq,cfgV c] R fun u L'=>∃ h v2,u=.tuple [sl h,v2].toArray∧L'=ownT 62 valL 7 (sl h) ((q.take c.merges.toNat).foldl (merV c) V)::R:=by
 have hme:=hc.me
 obtain ⟨mg,hmg⟩:∃ mg:Nat,c.merges=mg:=⟨c.merges.toNat,by omega⟩
 obtain ⟨m,hm⟩:∃ m,min q.length mg=m:=⟨_,rfl⟩
 have htk:q.take c.merges.toNat=q.take m:=by rw[hmg,Int.toNat_natCast,← hm];exact List.take_eq_take_iff.2 (by omega)
 rw[htk]
 have hX:(q.take m).foldl (merV c) V=((q.take m).drop 0).foldl (merV c) V:=by simp
 have hlt:(q.take m).length=m:=by rw[List.length_take];omega
 have hQq:∀ k,k<m→(q.take m)[k]? = q[k]?:=fun k hk=>by rw[List.getElem?_take,if_pos hk]
 generalize q.take m=Q at *
 generalize List.foldl (merV c) V Q=X at *
 refine zGo Tryz.func223 ?_;intro G w M a F
 have hG:GS (R++G) 7 v V.length (V.flatMap valL):=Gives.app hg
 have hH:GS (R++G) 2 hq q.length (q.flatMap prL):=Gives.app hgq
 have M:=M.own_nil 4 1
 (try refine zI zk223 F M ?_;clear F M a;try clear w);(repeat'(first|refine zA ?_;repeat intro nb|refine zC ?_;refine ac_appendE (f:=valL) (ys:=V) rfl rfl inferInstance rfl rfl pullA inferInstance gsA rfl rfl (by omega) ?_;intro h1|refine zB ?_ ?_<;>intro hc<;>try exact no hc|refine zH ?_ ?_<;>(intro hg;rw[hg];try exact no hg)));all_goals try refine zO fun a w F M=>?_
 refine svLoop F M ((0,h1,V,nilH,[]):Nat × SlH × List Val × SlH × List Bool) (fun s=>[(10,.int .i64 s.1),(8,sl s.2.1),(9,sl s.2.2.2.1)]) (fun s=>[ownT 62 valL 7 (sl s.2.1) s.2.2.1,ownT 4 boL 1 (sl s.2.2.2.1) s.2.2.2.2]) (fun s=>s.1≤m∧X=(Q.drop s.1).foldl (merV c) s.2.2.1∧s.2.2.1.length=V.length∧(∀ x∈s.2.2.1,U64 x.bal)∧s.2.2.2.2.length≤s.1) (fun s=>m - s.1) [] ⟨Nat.zero_le _,hX,rfl,hV,Nat.zero_le _⟩ ?_ (hR:=by(repeat (first|exact Pulls.nil|(apply Pulls.cons;(focus ((repeat (first|exact Pull.here|apply Pull.there));done))))))
 (rintro⟨k,h1,V',hd,bs⟩ ⟨q1,q2,q3,q4,q5⟩ a w F M;(try simp only[zc,zn] at F M q1 q2 q3 q4 q5 ⊢))
 by_cases hk:k<m
 ·obtain ⟨p,hp⟩:∃ p,Q[k]? = some p:=⟨Q[k],by simp[hlt,hk]⟩
  have hpq:q[k]? = some p:=by rw[← hQq k hk];exact hp
  rw[drop_cons hp,List.foldl_cons] at q2
  have hrq:=fun (R:List Asn) hg=>rmreq_spec V' (sl h1) R hg (by omega) c q4 p.1 p.2
  obtain ⟨p1,p2⟩:=p
  simp only at hrq
  by_cases hz:merR c V' p1 p2=0
  ·rw[hz] at hrq
   obtain ⟨y,z,k1,k2,k3,k4,k5,k6⟩:=merV_some (p:=(p1,p2)) hz
   simp only at k1 k2 k4 k5 k6
   obtain ⟨e1,e2,e3⟩:=merC_zero k3
   have hmv:=fun (R:List Asn) hg=>rmove_spec V' (sl h1) R hg (by omega) p1 p2 y z k1 k2 k4 (q4 y (List.mem_of_getElem? k1)).1 (q4 z (List.mem_of_getElem? k2)).1 e3
   have hu:=merV_u64 (c:=c) (p1,p2) q4
   have hln:=merV_len c V' (p1,p2)
   rw[k5] at q2 hu hln
   ((try(refine zI (⟨List.range 64,(zk223).d,[]⟩) F M ?_;clear F M a;(try clear w)));(repeat'(first|(refine zDL (id:=8) [11] [] [] [0,1,2,3,4,5,6,7,8,9,10,11] ?_)|with_reducible refine zQo ?_|(refine zA1 ?_;(repeat intro(nb:Nat)))|((refine zC ?_);((first|(refine acW (k:=151) (hrq _ ?_) ?_;(exact gs_own pullA);rintro u L' ⟨rfl,rfl⟩)|(refine acW (k:=300) (hmv _ ?_) ?_;(exact gs_own pullA);rintro u L' ⟨h2,rfl,rfl⟩)|(refine ac_appendH (f:=boL) (xs:=bs) (ys:=[_]) rfl rfl inferInstance rfl rfl pullA inferInstance gsA rfl rfl (by simp;omega) ?_;intro nv))))|(refine zB ?_ ?_<;>intro hc<;>(try exact no hc))|(refine zH ?_ ?_<;>(intro hg;rw[hg];(try exact no hg)))));(all_goals(try refine zO fun a w F M=>?_)))
   refine sv_again F M (k+1,h2,_,nv,_) kpA permsA ⟨by simp only;omega,q2,by simp only;omega,hu,by simp;omega⟩ (by simp only;omega)
  ·have hne:merV c V' (p1,p2)=V':=by unfold merV;rw[if_neg hz]
   rw[hne] at q2
   have hdz:decide (merR c V' p1 p2=0)=false:=by simpa using hz
   (try refine zI zk223 F M ?_;clear F M a;try clear w);(repeat'(first|refine zA ?_;repeat intro nb|refine zC ?_;(first|refine acW (k:=151) (hrq _ ?_) ?_;exact gs_own pullA;rintro u L' ⟨rfl,rfl⟩|refine ac_appendH (f:=boL) (xs:=bs) (ys:=[_]) rfl rfl inferInstance rfl rfl pullA inferInstance gsA rfl rfl (by simp;omega) ?_;intro nv)|refine zB ?_ ?_<;>intro hc<;>try exact no hc|refine zH ?_ ?_<;>(intro hg;rw[hg];try exact no hg)));all_goals try refine zO fun a w F M=>?_
   rw[hdz] at F
   (try refine zI zk223 F M ?_;clear F M a;try clear w);(repeat'(first|refine zA ?_;repeat intro nb|refine zC ?_;(first|refine acW (k:=151) (hrq _ ?_) ?_;exact gs_own pullA;rintro u L' ⟨rfl,rfl⟩|refine ac_appendH (f:=boL) (xs:=bs) (ys:=[_]) rfl rfl inferInstance rfl rfl pullA inferInstance gsA rfl rfl (by simp;omega) ?_;intro nv)|refine zB ?_ ?_<;>intro hc<;>try exact no hc|refine zH ?_ ?_<;>(intro hg;rw[hg];try exact no hg)));all_goals try refine zO fun a w F M=>?_
   refine sv_again F M (k+1,h1,_,nv,_) kpA permsA ⟨by simp only;omega,q2,q3,q4,by simp;omega⟩ (by simp only;omega)
 ·obtain rfl:k=m:=by omega
  rw[List.drop_of_length_le (by omega),List.foldl_nil] at q2
  subst q2
  by_cases hlast:k<q.length
  ·(try refine zI zk223 F M ?_;clear F M a;try clear w);(repeat'(first|refine zA ?_;repeat intro nb|refine zB ?_ ?_<;>intro hc<;>try exact no hc|refine zH ?_ ?_<;>(intro hg;rw[hg];try exact no hg)));all_goals try refine zO fun a w F M=>?_
   (all_goals(refine zE F M ?_;exact⟨_,_,rfl,⟨h1,_,rfl,rfl⟩,M.perms permsA⟩))
  ·(try refine zI zk223 F M ?_;clear F M a;try clear w);(repeat'(first|refine zA ?_;repeat intro nb|refine zB ?_ ?_<;>intro hc<;>try exact no hc|refine zH ?_ ?_<;>(intro hg;rw[hg];try exact no hg)));all_goals try refine zO fun a w F M=>?_
   (all_goals(refine zE F M ?_;exact⟨_,_,rfl,⟨h1,_,rfl,rfl⟩,M.perms permsA⟩))
end
end
section
open Go.RowKit
section
variable (b:Nat) (H:EH) (c:Cfg) (s:St) (hc:CfOk c) (hi:Inv c s) (R:List Asn)
include hc hi
theorem slash_spec (o:Opn):Spec 83 [ptr b,opV o] (engL b H c s R) fun u L'=>u=rsV (opSlash c s o.ix)∧L'=engL b H c (opSlash c s o.ix).s R:=by
 obtain ⟨k1,k2,k3,k4,k5,k6⟩:=inv_sum c s hc hi
 have hl3:s.V.length≤4096:=by omega
 have hsz:qS c≤4096:=k6
 obtain ⟨l1,l2,l3,l4,l5⟩:=hi.ql
 have hbk:=hi.bk
 have hep:=epo_range hc (s:=s) (by omega)
 have hepo:epo c s=(s.bk:Int) / c.epochLen:=rfl
 have hck:=fun R=>clk_epoch H.ck s.bk c.epochLen hc.el (by omega) R
 rw[← hepo] at hck
 obtain ⟨ok,ix,oj,x⟩:=o
 simp only
 by_cases hix:ix<0∨(s.V.length:Int)≤ix
 ·have e:opSlash c s ix=no' s 7:=by
   unfold opSlash
   by_cases h0:ix<0
   ·rw[if_pos h0]
   ·rw[if_neg h0,List.getElem?_eq_none (by omega)]
  rw[e]
  have hg:=fun R=>reg_getN H.rg c.capacity s.V R ix hix
  ((refine zGo Tryz.func83 ?_;intro G w M a F))
  (try refine zI zk83 F M ?_;clear F M a;try clear w);(repeat'(first|refine zA ?_;repeat intro nb|refine zC ?_;(first|refine kp (k:=43) (hck _) ?_|refine kpW (k:=86) (efail_spec _ _) ?_|refine kpW (k:=129) (edone_spec _ _ _) ?_|refine kp (k:=58) (hg _) ?_)|refine zB ?_ ?_<;>intro hc<;>try exact no hc|refine zH ?_ ?_<;>(intro hg;rw[hg];try exact no hg)));all_goals exact zXz
 obtain ⟨i,rfl⟩:∃ i:Nat,ix=i:=⟨ix.toNat,by omega⟩
 obtain ⟨v,hv⟩:∃ v,s.V[i]? = some v:=⟨s.V[i]'(by omega),by rw[List.getElem?_eq_getElem]⟩
 obtain ⟨hwf,hb0,hble,hvo⟩:=vwf c s hc hi hv
 have hg:=fun R=>reg_get H.rg c.capacity s.V R i v hv hl3
 have hwfe:(Lit.int .i64 (epo c s)).wf=true:=WalkArith.wf_i64 (by omega)
 have hsd:=hc.sd;have hun:=hc.un;have hpn:=hc.pn;have hpd:=hc.pd
 have hsl:=fun R=>pnSla_spec v (epo c s) hep.1 hwf.2.1 R c ⟨hb0,by omega⟩ (by omega) (by omega) hpn hpd
 have hX:opSlash c s i=if (slaR v (epo c s) c.slashDelay c.penNum c.penDen).1≠0 then no' s (slaR v (epo c s) c.slashDelay c.penNum c.penDen).1 else if v.st=2∧c.queueSize≤s.fo.length then no' s 6 else
   ⟨0,i,-1,{s with V:=s.V.set i (slaR v (epo c s) c.slashDelay c.penNum c.penDen).2.1,bu:=s.bu+(slaR v (epo c s) c.slashDelay c.penNum c.penDen).2.2,fo:=if v.st=2 then s.fo++[i] else s.fo,bo:=if v.st=5 then s.bo++[((slaR v (epo c s) c.slashDelay c.penNum c.penDen).2.1.wd,i)] else s.bo}⟩:=by
  unfold opSlash
  rw[if_neg (by omega)]
  simp only[Int.toNat_natCast,hv]
 have hrr:=slaR_eq v (pn:=c.penNum) (pd:=c.penDen) hep.1 (show 0≤c.slashDelay by omega) (by omega)
 have hpen:=penF_range hb0 hpn.1 hpn.2 (by omega)
 rw[hX]
 clear hX
 have hwd:=hvo.wd
 have hst7:=hvo.st
 have hbo:=hi.bo.len
 rw[List.length_map] at hbo
 by_cases h1:v.sl=true
 ·rw[if_pos h1] at hrr
  rw[hrr] at hsl ⊢
  simp only[ne_eq,show ¬((9:Int)=0) by decide,not_false_eq_true,if_true] at hsl ⊢
  ((refine zGo Tryz.func83 ?_;intro G w M a F))
  (try refine zI zk83 F M ?_;clear F M a;try clear w);(repeat'(first|refine zA ?_;repeat intro nb|refine zC ?_;(first|refine kp (k:=43) (hck _) ?_|refine kpW (k:=86) (efail_spec _ _) ?_|refine kpW (k:=129) (edone_spec _ _ _) ?_|refine kp (k:=58) (hg _) ?_|refine kpW (k:=131) (hsl _) ?_|refine kp (k:=132) (lfree0 H.ln H.r0 H.r1 (qS c) s.fo s.vo _) ?_)|refine zB ?_ ?_<;>intro hc<;>try exact no hc|refine zH ?_ ?_<;>(intro hg;rw[hg];try exact no hg)));all_goals exact zXz
 rw[if_neg h1] at hrr
 by_cases h2:v.st=2∨v.st=3∨v.st=4∨v.st=5
 ·rw[if_pos h2] at hrr
  rw[hrr] at hsl ⊢
  simp only[ne_eq,not_true_eq_false,if_false] at hsl ⊢
  obtain ⟨P,hP⟩:∃ P,penF v.bal c.penNum c.penDen=P:=⟨_,rfl⟩
  obtain ⟨D,hD⟩:∃ D,max v.wd (epo c s+c.slashDelay)=D:=⟨_,rfl⟩
  rw[hP] at hpen
  have hD1:0≤D∧D≤1099511627776:=by omega
  have hsum:=hi.sum
  obtain ⟨t1,t2,t3⟩:=hi.tot
  have hbu:=fun R=>led_burn H.ld s.dep s.pd s.bu c.supplyCap ⟨t1,t2,by omega,t3⟩ R P ⟨hpen.1,by omega⟩
  have hsS:I64 (slaS v.st):=by unfold slaS;split<;>exact⟨by decide,by decide⟩
  have hch:=fun R=>tchange_spec H.rg c.capacity s.V R i v ⟨v.bal - P,slaS v.st,true,if v.st=2 then epo c s else v.rq,v.ex,D,-1⟩ hv hl3 ⟨hsS,⟨by omega,by omega⟩⟩ hb0 (by simp only;omega) ⟨hble,by omega,by simp only;omega⟩
  simp only[hP,hD] at hsl ⊢
  have hput:=fun R=>bk_put H.bo c.ringLen.toNat s.bo R (D,i) hD1 (by omega)
  simp only at hput
  obtain ⟨bal,st,slz,rq,ex,wd,dl⟩:=v
  simp only at h1 h2 hsl hch hput hpen hst7 ⊢
  rcases h2 with rfl|rfl|rfl|rfl
  ·simp only[if_true,true_and,show ¬((2:Int)=5) by decide,if_false] at hsl hch ⊢
   by_cases hq:c.queueSize≤s.fo.length
   ·rw[if_pos hq]
    have hq':(qS c:Int) - s.fo.length=0:=by omega
    ((refine zGo Tryz.func83 ?_;intro G w M a F))
    (try refine zI zk83 F M ?_;clear F M a;try clear w);(repeat'(first|refine zA ?_;repeat intro nb|refine zC ?_;(first|refine kp (k:=43) (hck _) ?_|refine kpW (k:=86) (efail_spec _ _) ?_|refine kpW (k:=129) (edone_spec _ _ _) ?_|refine kp (k:=58) (hg _) ?_|refine kpW (k:=131) (hsl _) ?_|refine kp (k:=132) (lfree0 H.ln H.r0 H.r1 (qS c) s.fo s.vo _) ?_)|refine zB ?_ ?_<;>intro hc<;>try exact no hc|refine zH ?_ ?_<;>(intro hg;rw[hg];try exact no hg)));all_goals exact zXz
   ·rw[if_neg hq]
    have hq':¬(qS c:Int) - s.fo.length=0:=by omega
    have hqq:s.fo.length<qS c:=by omega
    ((refine zGo Tryz.func83 ?_;intro G w M a F))
    (try refine zI zk83 F M ?_;clear F M a;try clear w);(repeat'(first|refine zA ?_;repeat intro nb|refine zC ?_;(first|refine kp (k:=43) (hck _) ?_|refine kpW (k:=86) (efail_spec _ _) ?_|refine kpW (k:=129) (edone_spec _ _ _) ?_|refine kp (k:=58) (hg _) ?_|refine kpW (k:=131) (hsl _) ?_|refine kp (k:=132) (lfree0 H.ln H.r0 H.r1 (qS c) s.fo s.vo _) ?_|refine kp (k:=133) (hch _) ?_|refine kp (k:=134) (hbu _) ?_|refine kp (k:=135) (lpush0 H.ln H.r0 H.r1 (qS c) s.fo s.vo _ i hqq hsz) ?_)|refine zB ?_ ?_<;>intro hc<;>try exact no hc|refine zH ?_ ?_<;>(intro hg;rw[hg];try exact no hg)));all_goals exact zXz
  ·simp only[show ¬((3:Int)=2) by decide,show ¬((3:Int)=5) by decide,if_false,false_and] at hsl hch ⊢
   ((refine zGo Tryz.func83 ?_;intro G w M a F))
   (try refine zI zk83 F M ?_;clear F M a;try clear w);(repeat'(first|refine zA ?_;repeat intro nb|refine zC ?_;(first|refine kp (k:=43) (hck _) ?_|refine kpW (k:=86) (efail_spec _ _) ?_|refine kpW (k:=129) (edone_spec _ _ _) ?_|refine kp (k:=58) (hg _) ?_|refine kpW (k:=131) (hsl _) ?_|refine kp (k:=132) (lfree0 H.ln H.r0 H.r1 (qS c) s.fo s.vo _) ?_|refine kp (k:=133) (hch _) ?_|refine kp (k:=134) (hbu _) ?_|refine kp (k:=135) (lpush0 H.ln H.r0 H.r1 (qS c) s.fo s.vo _ i hqq hsz) ?_)|refine zB ?_ ?_<;>intro hc<;>try exact no hc|refine zH ?_ ?_<;>(intro hg;rw[hg];try exact no hg)));all_goals exact zXz
  ·simp only[show ¬((4:Int)=2) by decide,show ¬((4:Int)=5) by decide,if_false,false_and] at hsl hch ⊢
   ((refine zGo Tryz.func83 ?_;intro G w M a F))
   (try refine zI zk83 F M ?_;clear F M a;try clear w);(repeat'(first|refine zA ?_;repeat intro nb|refine zC ?_;(first|refine kp (k:=43) (hck _) ?_|refine kpW (k:=86) (efail_spec _ _) ?_|refine kpW (k:=129) (edone_spec _ _ _) ?_|refine kp (k:=58) (hg _) ?_|refine kpW (k:=131) (hsl _) ?_|refine kp (k:=132) (lfree0 H.ln H.r0 H.r1 (qS c) s.fo s.vo _) ?_|refine kp (k:=133) (hch _) ?_|refine kp (k:=134) (hbu _) ?_|refine kp (k:=135) (lpush0 H.ln H.r0 H.r1 (qS c) s.fo s.vo _ i hqq hsz) ?_)|refine zB ?_ ?_<;>intro hc<;>try exact no hc|refine zH ?_ ?_<;>(intro hg;rw[hg];try exact no hg)));all_goals exact zXz
  ·simp only[show ¬((5:Int)=2) by decide,if_true,if_false,false_and] at hsl hch ⊢
   ((refine zGo Tryz.func83 ?_;intro G w M a F))
   (try refine zI zk83 F M ?_;clear F M a;try clear w);(repeat'(first|refine zA ?_;repeat intro nb|refine zC ?_;(first|refine kp (k:=43) (hck _) ?_|refine kpW (k:=86) (efail_spec _ _) ?_|refine kpW (k:=129) (edone_spec _ _ _) ?_|refine kp (k:=58) (hg _) ?_|refine kpW (k:=131) (hsl _) ?_|refine kp (k:=132) (lfree0 H.ln H.r0 H.r1 (qS c) s.fo s.vo _) ?_|refine kp (k:=133) (hch _) ?_|refine kp (k:=134) (hbu _) ?_|refine kp (k:=136) (hput _) ?_)|refine zB ?_ ?_<;>intro hc<;>try exact no hc|refine zH ?_ ?_<;>(intro hg;rw[hg];try exact no hg)));all_goals exact zXz
 ·rw[if_neg h2] at hrr
  rw[hrr] at hsl ⊢
  simp only[ne_eq,show ¬((8:Int)=0) by decide,not_false_eq_true,if_true] at hsl ⊢
  ((refine zGo Tryz.func83 ?_;intro G w M a F))
  (try refine zI zk83 F M ?_;clear F M a;try clear w);(repeat'(first|refine zA ?_;repeat intro nb|refine zC ?_;(first|refine kp (k:=43) (hck _) ?_|refine kpW (k:=86) (efail_spec _ _) ?_|refine kpW (k:=129) (edone_spec _ _ _) ?_|refine kp (k:=58) (hg _) ?_|refine kpW (k:=131) (hsl _) ?_|refine kp (k:=132) (lfree0 H.ln H.r0 H.r1 (qS c) s.fo s.vo _) ?_)|refine zB ?_ ?_<;>intro hc<;>try exact no hc|refine zH ?_ ?_<;>(intro hg;rw[hg];try exact no hg)));all_goals exact zXz
end
end
section
open Go.RowKit
section
variable (b:Nat) (H:EH) (c:Cfg) (s:St) (hc:CfOk c) (hi:Inv c s) (R:List Asn)
include hc hi
theorem merge_u64:∀ x∈s.V,U64 x.bal:=fun x hx=>by
 obtain ⟨k1,k2,_⟩:=inv_sum c s hc hi
 have hm:x.bal∈bals s.V:=List.mem_map.2 ⟨x,hx,rfl⟩
 have:=sum_mem_le _ hi.bal0 _ hm
 exact⟨hi.bal0 _ hm,by omega⟩
theorem cons_spec (o:Opn):Spec 84 [ptr b,opV o] (engL b H c s R) fun u L'=>u=rsV (opMerge c s o.ix o.tg)∧L'=engL b H c (opMerge c s o.ix o.tg).s R:=by
 obtain ⟨k1,k2,k3,k4,k5,k6⟩:=inv_sum c s hc hi
 have hl3:s.V.length≤4096:=by omega
 have hsz:qS c≤4096:=k6
 obtain ⟨l1,l2,l3,l4,l5⟩:=hi.ql
 have hU:=merge_u64 c s hc hi
 obtain ⟨ok,i,j,x⟩:=o
 have hrq:=fun (R:List Asn) (h:SlH) hg=>mreq_spec s.V (sl h) c R hg (by omega) hU i j
 unfold opMerge
 have hz:=fun (h:merR c s.V i j=0)=>merR_zero h
 obtain ⟨X,hX⟩:∃ X,merR c s.V i j=X:=⟨_,rfl⟩
 simp only[hX] at hrq hz ⊢
 by_cases h0:X=0
 ·obtain ⟨y,z,i0,j0,hne,hy,hz2,_⟩:=hz h0
  subst h0
  simp only[ne_eq,not_true_eq_false,if_false]
  obtain ⟨n,rfl⟩:∃ n:Nat,i=n:=⟨i.toNat,by omega⟩
  obtain ⟨m,rfl⟩:∃ m:Nat,j=m:=⟨j.toNat,by omega⟩
  simp only[Int.toNat_natCast]
  by_cases hq:c.queueSize≤s.me.length
  ·rw[if_pos hq]
   have hqq:s.me.length=qS c:=by omega
   refine zGz zk84 Tryz.func84 ?_;intro G;(repeat'(first|refine zA ?_;repeat intro nb|refine zC ?_;(first|refine acK (k:=44) (reg_all H.rg c.capacity s.V hl3 _) ?_;rintro u L' ⟨hv,rfl,rfl⟩|refine acW (k:=137) (hrq _ hv ?_) ?_;exact gs_own pullA;rintro u L' ⟨rfl,rfl⟩|refine kpW (k:=86) (efail_spec _ _) ?_|refine kpW (k:=129) (edone_spec _ _ _) ?_|refine acCall (k:=138) ?_;refine Spec.pre (L':=rgpA H.me (qS c) s.me::_) ?_ permsA;refine Spec.mono (rgp_pushF H.me (qS c) s.me (n,m) ⟨some ⟨nb,0,none⟩,1,1⟩ _ (by(apply gs_own;(focus ((repeat (first|exact Pull.here|apply Pull.there));done)))) ⟨rfl,Nat.le_refl 1⟩ hqq hsz) ?_;rintro u L' ⟨rfl,rfl⟩)|refine zB ?_ ?_<;>intro hc<;>try exact no hc|refine zH ?_ ?_<;>(intro hg;rw[hg];try exact no hg)));all_goals exact zXz
  ·rw[if_neg hq]
   have hqq:s.me.length<qS c:=by omega
   refine zGz zk84 Tryz.func84 ?_;intro G;(repeat'(first|refine zA ?_;repeat intro nb|refine zC ?_;(first|refine acK (k:=44) (reg_all H.rg c.capacity s.V hl3 _) ?_;rintro u L' ⟨hv,rfl,rfl⟩|refine acW (k:=137) (hrq _ hv ?_) ?_;exact gs_own pullA;rintro u L' ⟨rfl,rfl⟩|refine kpW (k:=86) (efail_spec _ _) ?_|refine kpW (k:=129) (edone_spec _ _ _) ?_|refine acCall (k:=138) ?_;refine Spec.pre (L':=rgpA H.me (qS c) s.me::_) ?_ permsA;refine Spec.mono (rgp_push H.me (qS c) s.me (n,m) ⟨some ⟨nb,0,none⟩,1,1⟩ _ (by(apply gs_own;(focus ((repeat (first|exact Pull.here|apply Pull.there));done)))) ⟨rfl,Nat.le_refl 1⟩ hqq hsz) ?_;rintro u L' ⟨rfl,rfl⟩)|refine zB ?_ ?_<;>intro hc<;>try exact no hc|refine zH ?_ ?_<;>(intro hg;rw[hg];try exact no hg)));all_goals exact zXz
 ·rw[if_pos h0]
  have hd0:decide (X=0)=false:=by simpa using h0
  ((refine zGo Tryz.func84 ?_;intro G w M a F))
  (try refine zI zk84 F M ?_;clear F M a;try clear w);(repeat'(first|refine zA ?_;repeat intro nb|refine zC ?_;(first|refine acK (k:=44) (reg_all H.rg c.capacity s.V hl3 _) ?_;rintro u L' ⟨hv,rfl,rfl⟩|refine acW (k:=137) (hrq _ hv ?_) ?_;exact gs_own pullA;rintro u L' ⟨rfl,rfl⟩|refine kpW (k:=86) (efail_spec _ _) ?_|refine kpW (k:=129) (edone_spec _ _ _) ?_)|refine zB ?_ ?_<;>intro hc<;>try exact no hc|refine zH ?_ ?_<;>(intro hg;rw[hg];try exact no hg)));all_goals try refine zO fun a w F M=>?_
  all_goals first
   | (refine zE F M ?_;exact⟨_,_,rfl,⟨by simp[rsV,rsI,no',h0,tupOf],rfl⟩,M.perms permsA⟩)
   | (exfalso;simp_all;done)
theorem part_spec (o:Opn) (ho:U64 o.am):Spec 85 [ptr b,opV o] (engL b H c s R) fun u L'=>u=rsV (opPart c s o.ix o.am)∧L'=engL b H c (opPart c s o.ix o.am).s R:=by
 obtain ⟨k1,k2,k3,k4,k5,k6⟩:=inv_sum c s hc hi
 have hl3:s.V.length≤4096:=by omega
 have hsz:qS c≤4096:=k6
 obtain ⟨l1,l2,l3,l4,l5⟩:=hi.ql
 obtain ⟨ok,i,j,x⟩:=o
 have hrq:=fun (R:List Asn) (h:SlH) hg=>pcheck_spec s.V (sl h) R hg (by omega) i x
 unfold opPart
 have hz:parC s.V i x=0→0≤i:=fun h=>by
  unfold parC at h
  split at h
  ·cases h
  ·omega
 obtain ⟨X,hX⟩:∃ X,parC s.V i x=X:=⟨_,rfl⟩
 simp only[hX] at hrq hz ⊢
 by_cases h0:X=0
 ·have i0:=hz h0
  subst h0
  simp only[ne_eq,not_true_eq_false,if_false]
  obtain ⟨n,rfl⟩:∃ n:Nat,i=n:=⟨i.toNat,by omega⟩
  simp only[Int.toNat_natCast]
  by_cases hq:c.queueSize≤s.pa.length
  ·rw[if_pos hq]
   have hqq:s.pa.length=qS c:=by omega
   refine zGz zk85 Tryz.func85 ?_;intro G;(repeat'(first|refine zA ?_;repeat intro nb|refine zC ?_;(first|refine acK (k:=44) (reg_all H.rg c.capacity s.V hl3 _) ?_;rintro u L' ⟨hv,rfl,rfl⟩|refine acW (k:=139) (hrq _ hv ?_) ?_;exact gs_own pullA;rintro u L' ⟨rfl,rfl⟩|refine kpW (k:=86) (efail_spec _ _) ?_|refine kpW (k:=129) (edone_spec _ _ _) ?_|refine acCall (k:=140) ?_;refine Spec.pre (L':=rgqA H.pa (qS c) s.pa::_) ?_ permsA;refine Spec.mono (rgq_pushF H.pa (qS c) s.pa (n,x) ⟨some ⟨nb,0,none⟩,1,1⟩ _ (by(apply gs_own;(focus ((repeat (first|exact Pull.here|apply Pull.there));done)))) ⟨rfl,Nat.le_refl 1⟩ hqq hsz) ?_;rintro u L' ⟨rfl,rfl⟩)|refine zB ?_ ?_<;>intro hc<;>try exact no hc|refine zH ?_ ?_<;>(intro hg;rw[hg];try exact no hg)));all_goals exact zXz
  ·rw[if_neg hq]
   have hqq:s.pa.length<qS c:=by omega
   refine zGz zk85 Tryz.func85 ?_;intro G;(repeat'(first|refine zA ?_;repeat intro nb|refine zC ?_;(first|refine acK (k:=44) (reg_all H.rg c.capacity s.V hl3 _) ?_;rintro u L' ⟨hv,rfl,rfl⟩|refine acW (k:=139) (hrq _ hv ?_) ?_;exact gs_own pullA;rintro u L' ⟨rfl,rfl⟩|refine kpW (k:=86) (efail_spec _ _) ?_|refine kpW (k:=129) (edone_spec _ _ _) ?_|refine acCall (k:=140) ?_;refine Spec.pre (L':=rgqA H.pa (qS c) s.pa::_) ?_ permsA;refine Spec.mono (rgq_push H.pa (qS c) s.pa (n,x) ⟨some ⟨nb,0,none⟩,1,1⟩ _ (by(apply gs_own;(focus ((repeat (first|exact Pull.here|apply Pull.there));done)))) ⟨rfl,Nat.le_refl 1⟩ hqq hsz) ?_;rintro u L' ⟨rfl,rfl⟩)|refine zB ?_ ?_<;>intro hc<;>try exact no hc|refine zH ?_ ?_<;>(intro hg;rw[hg];try exact no hg)));all_goals exact zXz
 ·rw[if_pos h0]
  have hd0:decide (X=0)=false:=by simpa using h0
  ((refine zGo Tryz.func85 ?_;intro G w M a F))
  (try refine zI zk85 F M ?_;clear F M a;try clear w);(repeat'(first|refine zA ?_;repeat intro nb|refine zC ?_;(first|refine acK (k:=44) (reg_all H.rg c.capacity s.V hl3 _) ?_;rintro u L' ⟨hv,rfl,rfl⟩|refine acW (k:=139) (hrq _ hv ?_) ?_;exact gs_own pullA;rintro u L' ⟨rfl,rfl⟩|refine kpW (k:=86) (efail_spec _ _) ?_|refine kpW (k:=129) (edone_spec _ _ _) ?_)|refine zB ?_ ?_<;>intro hc<;>try exact no hc|refine zH ?_ ?_<;>(intro hg;rw[hg];try exact no hg)));all_goals try refine zO fun a w F M=>?_
  all_goals first
   | (refine zE F M ?_;exact⟨_,_,rfl,⟨by simp[rsV,rsI,no',h0,tupOf],rfl⟩,M.perms permsA⟩)
   | (exfalso;simp_all;done)
end
end
section
open Go.RowKit
def obA (b:Nat) (o:Obj):Asn:=fun s w=>s=[b]∧w.heap[b]? = some o
section
variable {w:World} {L:List Asn}
theorem ok_ob {b:Nat} {o:Obj} (h:w.heap[b]? = some o):Ok (obA b o) [b] w :=
 ⟨fun x hx=>(show x=b by simpa using hx) ▸ (Array.getElem?_eq_some_iff.1 h).1,fun w' hw=>⟨rfl,(hw.2.2.2 b (by simp)).trans h⟩⟩
theorem Mem.ob {b:Nat} {o:Obj} (M:Mem w (obA b o::L)):w.heap[b]? = some o:=by
 obtain ⟨s,hs,_⟩:=M.head
 exact hs.2
theorem Mem.obNew (M:Mem w L) (o:Obj):Mem (w.alloc o) (obA w.heap.size o::L) :=
 M.new ⟨rfl,rfl,rfl,by simp,fun k hk _=>(((Below.refl _ _).alloc (Nat.le_refl _) _).block k hk)⟩ ⟨[w.heap.size],ok_ob (World.alloc_heap_new w o),by simp⟩
theorem Mem.obSet {b:Nat} {o:Obj} (M:Mem w (obA b o::L)) (o':Obj):Mem (w.putObj b o') (obA b o'::L):=M.change fun s hs=>by
 obtain ⟨rfl,h⟩:=hs.now
 exact⟨⟨rfl,rfl,rfl,by simp,fun k hk hb=>World.putObj_heap_other (by simpa using hb)⟩,[b],ok_ob (World.putObj_heap_same (Array.getElem?_eq_some_iff.1 h).1),fun x hx=>.inl hx⟩
end
def FR (ro:Option Nat):Fence:={Fence.wide with round:=ro}
section
variable {ro:Option Nat} {ops:Array Oper} {Q:Exit→Act→World→Prop} {rest:List Oper} {o:Oper} {a:Act} {w:World} {n:Nat} {l:List (Nat × Value)} {L:List Asn} {C:Value→List Asn→Prop}
theorem li_upon {next:Act→World→Prop} {r:Result Next} {Φ:Value→World→Prop} (h:UponD Tryz.prog Φ r) (hn:∀ v w',Φ v w'→next (a.put o.dst v) w'):o.uponIn (FR ro) 0 Tryz.prog a next Q r:=by
 cases r with
 | ok x w =>
  cases x<;>simp only[UponD] at h
  case value u=>exact hn _ _ h
  case skip=>exact hn _ _ h
  case enter f args =>
   refine⟨(fun h=>by cases h),?_⟩
   have hc:CallsIn Fence.wide (0 - 1) Tryz.prog f args w fun e w''=>∃ v,e=.returned v∧Φ v w'':=callsIn_wide.2 h
   refine⟨trivial,fun cs hr=>?_⟩
   obtain ⟨e,w',fr,hR,hx⟩:=hc.2 cs (room_wide _)
   obtain ⟨v,rfl,hv⟩:=hR
   exact⟨_,w',fr,hn v w' hv,hx⟩
 | halt x w=>cases h
theorem li_act (F:Fr a n l) (M:Mem w L) (hw:Wanted o ops l=some true) (hnd:∀ c,o.op≠.defer c) {d:Nat} (hd:o.dst=some d) (hn:Nat.ble (d+1) n=true)
  (h:AC o l L n (fun v L'=>∀ a' w',Fr a' n ((d,v)::l)→Mem w' L'→wpListIn (FR ro) 0 Tryz.prog ops Q rest a' w')):wpListIn (FR ro) 0 Tryz.prog ops Q (o::rest) a w:=by
 unfold wpListIn
 rw[if_pos (F.wanted hw)]
 refine⟨fun _ _=>trivial,?_⟩
 rw[Oper.semAt_eq _ _ _ hnd]
 exact li_upon (h [] a w F (by simpa using M)) fun v w' ⟨L',hC,hM⟩=>by rw[hd];exact hC _ _ (F.put d v hn) (by simpa using hM)
theorem li_act0 (F:Fr a n l) (M:Mem w L) (hw:Wanted o ops l=some true) (hnd:∀ c,o.op≠.defer c) (hd:o.dst=none)
  (h:AC o l L n (fun v L'=>∀ w',Mem w' L'→wpListIn (FR ro) 0 Tryz.prog ops Q rest a w')):wpListIn (FR ro) 0 Tryz.prog ops Q (o::rest) a w:=by
 unfold wpListIn
 rw[if_pos (F.wanted hw)]
 refine⟨fun _ _=>trivial,?_⟩
 rw[Oper.semAt_eq _ _ _ hnd]
 exact li_upon (h [] a w F (by simpa using M)) fun v w' ⟨L',hC,hM⟩=>by rw[hd];exact hC _ (by simpa using hM)
theorem li_nil (h:Q .normal a w):wpListIn (FR ro) 0 Tryz.prog ops Q [] a w:=h
theorem lv1 (F:Fr a n l) (M:Mem w L) {d:Nat} {v:Value} (h:∀ a',Fr a' n ((d,v)::l)→wpListIn (FR ro) 0 Tryz.prog ops Q rest a' w)
  (hw:Wanted o ops l=some true:=by exact rfl) (hd:o.dst=some d:=by exact rfl) (hn:Nat.ble (d+1) n=true:=by exact rfl) (hr:RT o l L n v:=by exact rtA) (hnd:∀ c,o.op≠.defer c:=by(intro c h;cases h)):wpListIn (FR ro) 0 Tryz.prog ops Q (o::rest) a w:=by
 unfold wpListIn
 rw[if_pos (F.wanted hw)]
 refine⟨fun _ _=>trivial,?_⟩
 rw[Oper.semAt_eq _ _ _ hnd,hr a w F M]
 show wpListIn (FR ro) 0 Tryz.prog ops Q rest (a.put o.dst v) w
 rw[hd]
 exact h _ (F.put d v hn)
theorem lv2 (F:Fr a n l) (M:Mem w L) {d:Nat} {fv:Nat→Value} {fL:Nat→List Asn} (h:∀ b a' w',Fr a' n ((d,fv b)::l)→Mem w' (fL b)→wpListIn (FR ro) 0 Tryz.prog ops Q rest a' w')
  (hw:Wanted o ops l=some true:=by exact rfl) (hd:o.dst=some d:=by exact rfl) (hn:Nat.ble (d+1) n=true:=by exact rfl)
  (s:∀ C:Value→List Asn→Prop,(∀ b,C (fv b) (fL b))→AC o l L n C:=by(intro C h;exact acA h)) (hnd:∀ c,o.op≠.defer c:=by(intro c h;cases h)):wpListIn (FR ro) 0 Tryz.prog ops Q (o::rest) a w:=li_act F M hw hnd hd hn (s _ h)
theorem lv3 (F:Fr a n l) (M:Mem w L) {v:Value} {L':List Asn} (h:∀ w',Mem w' L'→wpListIn (FR ro) 0 Tryz.prog ops Q rest a w')
  (hw:Wanted o ops l=some true:=by exact rfl) (hd:o.dst=none:=by exact rfl)
  (s:∀ C:Value→List Asn→Prop,C v L'→AC o l L n C:=by(intro C h;exact acB h)) (hnd:∀ c,o.op≠.defer c:=by(intro c h;cases h)):wpListIn (FR ro) 0 Tryz.prog ops Q (o::rest) a w:=li_act0 F M hw hnd hd (s _ h)
theorem lvC (F:Fr a n l) (M:Mem w L) {d:Nat} (h:AC o l L n (fun v L'=>∀ a' w',Fr a' n ((d,v)::l)→Mem w' L'→wpListIn (FR ro) 0 Tryz.prog ops Q rest a' w')) (hw:Wanted o ops l=some true:=by exact rfl) (hd:o.dst=some d:=by exact rfl) (hn:Nat.ble (d+1) n=true:=by exact rfl) (hnd:∀ c,o.op≠.defer c:=by(intro c h;cases h)):wpListIn (FR ro) 0 Tryz.prog ops Q (o::rest) a w:=li_act F M hw hnd hd hn h
theorem lvK (F:Fr a n l) {d:Nat} (h:∀ a',Fr a' n ((d,undef)::l)→wpListIn (FR ro) 0 Tryz.prog ops Q rest a' w) (hw:Wanted o ops l=some false:=by exact rfl) (hd:o.dst=some d:=by exact rfl) (hn:Nat.ble (d+1) n=true:=by exact rfl):wpListIn (FR ro) 0 Tryz.prog ops Q (o::rest) a w:=by
 unfold wpListIn
 rw[if_neg (by rw[F.wanted hw];decide)]
 refine⟨fun _ _=>trivial,?_⟩
 rw[hd]
 exact h _ (F.put d undef hn)
theorem lvG (F:Fr a n l) {b:Bool} (hg:guardOf o ops l=some (.bool b)) (h1:b=true→wpListIn (FR ro) 0 Tryz.prog ops Q (o::rest) a w) (h2:b=false→wpListIn (FR ro) 0 Tryz.prog ops Q (o::rest) a w):wpListIn (FR ro) 0 Tryz.prog ops Q (o::rest) a w:=by
 cases b
 ·exact h2 rfl
 ·exact h1 rfl
theorem isI (h:wpListIn (FR ro) 0 Tryz.prog ops Q rest a w):wpListIn (FR ro) 0 Tryz.prog ops Q rest a w:=h
theorem reg_in {id:Nat} {os:List Oper} (h:wpListIn (FR ro) 0 Tryz.prog os.toArray Q os a w):(Code.region id os.toArray false).wpIn (FR ro) 0 Tryz.prog Q a w:=wpIn_region_lit h
theorem reg_out {id:Nat} {os:List Oper} (h:wpListIn (FR none) 0 Tryz.prog os.toArray Q os a w):(Code.region id os.toArray false).wp Tryz.prog Q a w:=(wpIn_wide (n:=0)).1 (wpIn_region_lit (F:=Fence.wide) h)
def lpR (fn:FuncId) (tmps:Array Value) (p:Nat) (asg bod:Code) (D:Nat) (st:LoopState):Loop:={state:=st,pending:=none,fn,tmps,params:=#[p],assign:=asg,body:=bod,defers:=D}
def RoundC (lp:Nat) (fn:FuncId) (tmps:Array Value) (p:Nat) (asg bod:Code) (x:Value) (L L2:List Asn):Prop :=
 ∀ G w,Mem w (L++G)→RoundIn Fence.wide 0 Tryz.prog lp fn (tmps.setIfInBounds p x) asg bod w fun e w'=>e=.returned (.bool true)∧Mem w' (L2++G)
theorem lvY (F:Fr a n l) (M:Mem w L) {d:Nat} {fo:Operand} {xs:Array Operand} {ats:Array TypeId} {lp:Nat} {x:Value} {fn:FuncId} {tmps:Array Value} {p:Nat} {asg bod:Code} {D:Nat} {L1 L2 R:List Asn}
  (hR:RoundC lp fn tmps p asg bod x (obA lp (.loop (lpR fn tmps p asg bod D .ready))::L1) L2) (hp:Perms L ((obA lp (.loop (lpR fn tmps p asg bod D .ready))::L1)++R))
  (h:∀ a' w',Fr a' n ((d,.bool true)::l)→Mem w' (L2++R)→wpListIn (FR none) 0 Tryz.prog ops Q rest a' w')
  (ho:o.op=.call {callee:=.value fo,args:=xs,argTypes:=ats}:=by exact rfl) (hf:evl l fo=some (.func (.yield lp) #[] #[]):=by exact rfl) (hx:evls l xs.toList=some [x]:=by exact rfl)
  (hw:Wanted o ops l=some true:=by exact rfl) (hd:o.dst=some d:=by exact rfl) (hn:Nat.ble (d+1) n=true:=by exact rfl):wpListIn (FR none) 0 Tryz.prog ops Q (o::rest) a w:=by
 unfold wpListIn
 rw[if_pos (F.wanted hw)]
 refine⟨fun _ _=>trivial,?_⟩
 rw[Oper.semAt_eq _ _ _ (by rw[ho];intro c h;cases h)]
 have M2:=M.perms hp
 have hl:=Mem.ob (show Mem w (obA lp (.loop (lpR fn tmps p asg bod D .ready))::(L1++R)) from M2)
 have e1:xs.map a.eval=[x].toArray:=by have:=F.evals hx;apply Array.toList_inj.1;simpa using this
 have hy:=run_yield (P:=Tryz.prog) (args:=#[x]) hl rfl
 have hrun:(execOp a.eval o).run Tryz.prog w=.ok (.round lp fn (tmps.setIfInBounds p x) asg bod) w:=by
  unfold execOp
  rw[ho]
  rw[Sem.run_bind]
  simp only[resolve,F.eval hf,Deferred.ofValue,Sem.run_pure,Result.andThen_ok,invoke,e1]
  simpa[lpR] using hy
 rw[hrun,Oper.uponIn_round]
 refine⟨(fun h=>by cases h),?_⟩
 refine RoundIn.mono (hR R w M2) ?_
 rintro e w' ⟨rfl,M3⟩
 rw[hd]
 exact h _ _ (F.put d _ hn) M3
theorem round_mk {lp:Nat} {fn:FuncId} {a0:Act} {p D:Nat} {asg bod:Code} {x:Value} {L1 L2:List Asn} (F0:Fr a0 n l) (hp:Nat.ble (p+1) n=true)
  (h:∀ G a w,Fr a n ((p,x)::l)→Mem w (obA lp (.loop (lpR fn a0.tmps p asg bod D .ready))::(L1++G))→asg.wpIn (FR (some lp)) 0 Tryz.prog (Exit.then (fun a1 w1=>∃ G1,Mem w1 (obA lp (.loop (lpR fn a0.tmps p asg bod D .ready))::G1)∧∀ w2,Mem w2 (obA lp (.loop (lpR fn a0.tmps p asg bod D .busy))::G1) →
   bod.wpIn (FR (some lp)) 0 Tryz.prog (fun e a w=>e=.normal∧Mem w (obA lp (.loop (lpR fn a0.tmps p asg bod D .busy))::(L2++G))) a1 w2) (fun _ _ _=>False)) a w) :
  RoundC lp fn a0.tmps p asg bod x (obA lp (.loop (lpR fn a0.tmps p asg bod D .ready))::L1) (obA lp (.loop (lpR fn a0.tmps p asg bod D .ready))::L2):=fun G w M=>by
 refine roundIn_of_wpIn trivial ?_
 have hF:=F0.put p x hp
 have e:(a0.put (some p) x)={tmps:=a0.tmps.setIfInBounds p x,defers:=[]}:=by
  have:=F0.ds
  obtain ⟨t,ds⟩:=a0
  simp only at this
  subst this;rfl
 rw[e] at hF
 refine wpIn_mono (h G _ w hF M) ?_
 intro e a1 w1 hq
 cases e with
 | normal =>
  obtain ⟨G1,M1,hb⟩:=hq
  refine⟨_,run_beginRound (Mem.ob M1) rfl,?_⟩
  refine wpIn_mono (hb _ (M1.obSet _)) ?_
  rintro e a2 w2 ⟨rfl,M2⟩
  exact⟨_,_,run_endRound none (Mem.ob M2),rfl,M2.obSet _⟩
 | _=>exact hq.elim
theorem rf_range {g:Operand} {p:Nat} {asg bod:Code} {k:FuncId} {caps:Array Value} (F:Fr a n l) (M:Mem w L) (hg:evl l g=some (.func (.func k) #[] caps)) (hfk:FK k) {C:List Asn→Prop}
  (hit:∀ (fn:FuncId) lp D,Spec k (.func (.yield lp) #[] #[]::caps.toList) (obA lp (.loop (lpR fn a.tmps p asg bod D .ready))::L) fun _ L'=>∃ L2,C L2∧L'=obA lp (.loop (lpR fn a.tmps p asg bod D .ready))::L2)
  (h:∀ D w' L2,C L2→Mem w' (obA D (.deferred (some []))::L2)→Q .normal (sh [{target:=.collected D,args:=#[]}] a) w'):(Code.rangeFunc g #[p] asg bod).wp Tryz.prog Q a w:=by
 refine(wpIn_wide (n:=0)).1 (wpIn_rangeFunc (F:=Fence.wide) ?_)
 intro fn _
 have M1:=Mem.back (R:=[]) (show Mem _ (obA w.heap.size (.deferred (some []))::(L++[])) by rw[List.append_nil];exact M.obNew (.deferred (some [])))
 have M2:=M1.obNew (.loop (lpR fn a.tmps p asg bod w.heap.size .ready))
 have hsz:(w.alloc (.deferred (some []))).heap.size=w.heap.size+1:=by simp
 rw[hsz] at M2
 obtain ⟨W1,hW1⟩:∃ W1,(w.alloc (.deferred (some []))).alloc (.loop (lpR fn a.tmps p asg bod w.heap.size .ready))=W1:=⟨_,rfl⟩
 have hent:(Instr.enterLoop fn a.tmps #[p] asg bod Fence.wide.round).run Tryz.prog w=.ok (w.heap.size+1,[{target:=.collected w.heap.size,args:=#[]}]) W1:=by rw[← hW1];exact run_enterLoop_outer _ _ _ _ _
 rw[hW1] at M2
 refine⟨w.heap.size+1,[{target:=.collected w.heap.size,args:=#[]}],W1,{target:=.fn (.func k) caps,args:=#[.func (.yield (w.heap.size+1)) #[] #[]]},W1,k,#[.func (.yield (w.heap.size+1)) #[] #[]]++caps,W1,hent,?_,fun _ _=>trivial,?_,(fun h=>by cases h),?_⟩
 ·simp only[rangeCall,resolve,F.eval hg,Deferred.ofValue]
  simp[Act.eval]
 ·have:=@run_callFunc k hfk (#[.func (.yield (w.heap.size+1)) #[] #[]]++caps) W1
  simpa[invoke] using this
 ·refine callsIn_wide.2 ?_
  have e:(#[.func (.yield (w.heap.size+1)) #[] #[]]++caps:Array Value)=(Value.func (.yield (w.heap.size+1)) #[] #[]::caps.toList).toArray:=by
   apply Array.toList_inj.1;simp
  rw[e]
  refine(hit fn (w.heap.size+1) w.heap.size [obA w.heap.size (.deferred (some []))] W1 M2).mono ?_
  rintro e w3 ⟨v,L',rfl,⟨L2,hC,rfl⟩,M4⟩
  have M4':Mem w3 (obA (w.heap.size+1) (.loop (lpR fn a.tmps p asg bod w.heap.size .ready))::(L2++[obA w.heap.size (.deferred (some []))])):=M4
  refine⟨none,_,run_endLoop (Mem.ob M4') (by simp[lpR]),?_⟩
  have M5:=Mem.front (R:=[]) (M4'.obSet (.loop {lpR fn a.tmps p asg bod w.heap.size .ready with state:=.exhausted})).drop
  rw[List.append_nil] at M5
  have e2:({a with defers:=[{target:=.collected w.heap.size,args:=#[]}]++a.defers}:Act)=sh [{target:=.collected w.heap.size,args:=#[]}] a:=by
   have:=F.ds
   obtain ⟨t,ds⟩:=a
   simp only at this
   subst this;rfl
  show Q .normal {a with defers:=[{target:=.collected w.heap.size,args:=#[]}]++a.defers} _
  rw[e2]
  exact h _ _ L2 hC M5
end
section
variable {ops:Array Oper} {Q:Exit→Act→World→Prop} {D:List Deferred} {a:Act} {w:World} {n:Nat} {l:List (Nat × Value)} {L:List Asn}
theorem svBS {c:Operand} {x y:Code} (F:Fr a n l) {b:Bool} (h1:b=true→x.wp Tryz.prog Q (sh D a) w) (h2:b=false→y.wp Tryz.prog Q (sh D a) w) (hc:evl l c=some (.bool b):=by exact rfl):(Code.cond c x y).wp Tryz.prog Q (sh D a) w :=
 wp_cond_split (show(sh D a).eval c=_ from F.eval hc) h1 h2
theorem svTS {c:Operand} {x y:Code} (F:Fr a n l) {b:Bool} (hb:b=true) (h1:x.wp Tryz.prog Q (sh D a) w) (hc:evl l c=some (.bool b):=by exact rfl):(Code.cond c x y).wp Tryz.prog Q (sh D a) w:=svBS F (fun _=>h1) (fun e=>by rw[hb] at e;cases e) hc
theorem svFS {c:Operand} {x y:Code} (F:Fr a n l) {b:Bool} (hb:b=false) (h1:y.wp Tryz.prog Q (sh D a) w) (hc:evl l c=some (.bool b):=by exact rfl):(Code.cond c x y).wp Tryz.prog Q (sh D a) w:=svBS F (fun e=>by rw[hb] at e;cases e) (fun _=>h1) hc
theorem svLoopS {c:Code} {σ:Type} (F:Fr a n l) (M:Mem w L) (s0:σ) (dl:σ→List (Nat × Value)) (dL:σ→List Asn) (Pf:σ→Prop) (μ:σ→Nat) (fg:List Nat) {st:List (Nat × Value)} {R:List Asn} (hP:Pf s0)
  (round:∀ s,Pf s→∀ a w,Fr a n (dl s++st)→Mem w (dL s++R)→c.wp Tryz.prog (Exit.then (fun a' w'=>∃ s',(∃ a0,a'=sh D a0∧Fr a0 n (dl s'++st)∧Mem w' (dL s'++R)∧Pf s')∧μ s'<μ s) Q) (sh D a) w)
  (hs:restO (fg++slotsL (dl s0)) l=some st:=by exact rfl) (h0:∀ p∈dl s0,look l p.1=some p.2:=by exact kpA) (hR:Pulls L (dL s0) R:=by(first|(focus ((repeat (first|exact Pulls.nil|(apply Pulls.cons;exact pullA)));done))|fail)):(Code.loop c).wp Tryz.prog Q (sh D a) w :=
 wp_loop_ghost (fun s a w=>∃ a0,a=sh D a0∧Fr a0 n (dl s++st)∧Mem w (dL s++R)∧Pf s) μ (fun s a w ⟨a0,h0,h1,h2,h3⟩=>by subst h0;exact round s h3 a0 w h1 h2) s0 ⟨a,rfl,⟨F.ds,F.size,fun t v ht=>by
  rw[look_append] at ht
  have F1:=F.keep h0
  cases hl:look (dl s0) t with
  | some u =>
   rw[hl] at ht
   obtain rfl:=Option.some.inj ht
   exact F1.val t u hl
  | none =>
   rw[hl] at ht
   exact F.val t v (restO_look l _ hs t v ht).2⟩,Mem.pulls hR M,hP⟩
theorem sv_againS {σ:Type} {lf:σ→List (Nat × Value)} {Lf:σ→List Asn} {Pf:σ→Prop} {μ:σ→Nat} {m:Nat} (F:Fr a n l) (M:Mem w L) (s':σ) (h0:∀ p∈lf s',look l p.1=some p.2) (hL:Perms L (Lf s')) (hP:Pf s') (hμ:μ s'<m) :
  ∃ s',(∃ a0,sh D a=sh D a0∧Fr a0 n (lf s')∧Mem w (Lf s')∧Pf s')∧μ s'<m:=⟨s',⟨a,rfl,F.keep h0,M.perms hL,hP⟩,hμ⟩
theorem sx_enterM {f:FuncId} {fn:Func} {c:Code} {vs:List Value} {w:World} {R:Ending→World→Prop} (hf:Tryz.prog.funcs[f]? = some fn) (hb:fn.body=some c) {n k:Nat} (hn:fn.ntmps=n) (hle:Nat.ble vs.length n=true) (hk0:n - vs.length=k)
  (h:∀ a,Fr a n (initL 0 vs)→c.wp Tryz.prog (bodyPostM Fence.wide 0 Tryz.prog fn R) a w):Calls Tryz.prog f vs.toArray w R:=by
 have hk:vs.length+k=n:=by have:=Nat.le_of_ble_eq_true hle;omega
 subst hn
 refine callsIn_wide.1 (callsIn_of_wp_marks (n:=0) hf hb trivial ((wpIn_wide (n:=0)).2 (h _ ?_)))
 have:=Fr.init vs k
 rw[hk] at this
 rw[show fn.ntmps - vs.toArray.size=k by simp;omega]
 exact this
theorem end_col {fn:Func} {R:Ending→World→Prop} {b:Nat} {rs:List ResultVar} {vs:List Value} (F:Fr a n l) (M:Mem w (obA b (.deferred (some []))::L)) (hR:∀ w',Mem w' L→R (.returned (tupOf vs)) w') (hf:fn.results=rs.toArray:=by exact rfl) (hr:Ress (obA b (.deferred none)::L) l rs vs:=by(focus ((repeat (first|exact Ress.nil|(apply Ress.cons)|(apply Res.tmp;exact rfl)|(apply Res.agg;(exact rfl);(exact inferInstance);(exact pullA);(exact rfl))|(apply Res.one;(exact rfl);(exact inferInstance);(exact pullA);(exact rfl))));done))):bodyPostM Fence.wide 0 Tryz.prog fn R .ret (sh [{target:=.collected b,args:=#[]}] a) w:=by
 have e:(sh [({target:=.collected b,args:=#[]}:Deferred)] a).defers=[{target:=.collected b,args:=#[]}]:=by simp[sh,F.ds]
 show LeavesInM _ _ _ _ _ _ _ _ _
 rw[e]
 have M2:=M.obSet (.deferred none)
 exact⟨by simp,.inl ⟨b,_,rfl,run_takeDeferred (Mem.ob M),⟨_,(show(results fn a.tmps).run Tryz.prog _=_ from hr.run F M2 hf),hR _ M2.drop⟩⟩⟩
end
end
end Go.Proofs.YtjbfcacmdahnhaaGreat
