import Derived.Test.YtjbfcacmdahnhaaGreatZru
set_option linter.unusedVariables false
set_option linter.unusedSimpArgs false
set_option linter.unusedSectionVars false
set_option maxRecDepth 100000
set_option maxHeartbeats 8000000
namespace Go.Proofs.YtjbfcacmdahnhaaGreat
section
open Go.RowKit
section
variable (y1 y2:Val) (c:Cfg) (R:List Asn)
theorem rmcheck_spec (ha:U64 y1.bal) (hb:U64 y2.bal):Spec 217 [valV y1,valV y2,cfgV c] R fun u L'=>u=.int .i64 (merC c y1 y2)∧L'=R:=by
 have h1:=ha.1;have h2:=hb.1
 have hadd:∀ {L:List Asn} {v:Value},GS L 1 v 2 ([y1.bal,y2.bal].flatMap u64L)→Reads 207 [v] (.tuple [.int .u64 (addR [y1.bal,y2.bal]).1,.bool (addR [y1.bal,y2.bal]).2].toArray) L:=fun hg=>radd_reads _ [y1.bal,y2.bal] (by simp only[List.mem_cons,List.not_mem_nil,or_false];rintro z (rfl|rfl);exact ha;exact hb) hg
 rw[addR_sum _ (by simp only[List.mem_cons,List.not_mem_nil,or_false];rintro z (rfl|rfl)<;>omega),show [y1.bal,y2.bal].sum=y1.bal+y2.bal by simp] at hadd
 have hX:∀ X,merC c y1 y2=X→X=if y1.st≠2∨y2.st≠2 then 8 else if y1.sl=true∨y2.sl=true then 9 else if c.maxBalance<y1.bal+y2.bal∨18446744073709551615<y1.bal+y2.bal then 3 else 0:=fun X h=>by rw[← h];rfl
 generalize merC c y1 y2=X at *
 replace hX:=hX X rfl
 obtain ⟨b1,s1,l1,r1,x1,w1,d1⟩:=y1
 obtain ⟨b2,s2,l2,r2,x2,w2,d2⟩:=y2
 simp only at hX hadd h1 h2
 by_cases k1:s1=2
 ·by_cases k2:s2=2
  ·rw[if_neg (by omega)] at hX
   cases l1
   ·cases l2
    ·simp only[Bool.false_eq_true,or_self,if_false] at hX
     by_cases k3:18446744073709551615<b1+b2
     ·rw[if_pos (.inr k3)] at hX
      simp only[k3,if_true] at hadd
      subst k1;subst k2
      refine zGz zk217 Tryz.func217 ?_;intro G;(repeat'(first|refine zA ?_;repeat intro nb|refine zC ?_;refine acCall (k:=207) ?_;refine Spec.of_reads (hadd (gs_own pullA)) rfl ?_|refine zB ?_ ?_<;>intro hc<;>try exact no hc|refine zH ?_ ?_<;>(intro hg;rw[hg];try exact no hg)));all_goals try refine zO fun a w F M=>?_
      (all_goals(refine zE F M ?_;exact⟨_,_,rfl,⟨by rw[hX];rfl,rfl⟩,M.perms permsA⟩))
     ·simp only[k3,if_false,or_false] at hadd hX
      subst k1;subst k2
      by_cases k4:c.maxBalance<b1+b2
      ·rw[if_pos k4] at hX
       refine zGz zk217 Tryz.func217 ?_;intro G;(repeat'(first|refine zA ?_;repeat intro nb|refine zC ?_;refine acCall (k:=207) ?_;refine Spec.of_reads (hadd (gs_own pullA)) rfl ?_|refine zB ?_ ?_<;>intro hc<;>try exact no hc|refine zH ?_ ?_<;>(intro hg;rw[hg];try exact no hg)));all_goals try refine zO fun a w F M=>?_
       (all_goals(refine zE F M ?_;exact⟨_,_,rfl,⟨by rw[hX];rfl,rfl⟩,M.perms permsA⟩))
      ·rw[if_neg k4] at hX
       refine zGz zk217 Tryz.func217 ?_;intro G;(repeat'(first|refine zA ?_;repeat intro nb|refine zC ?_;refine acCall (k:=207) ?_;refine Spec.of_reads (hadd (gs_own pullA)) rfl ?_|refine zB ?_ ?_<;>intro hc<;>try exact no hc|refine zH ?_ ?_<;>(intro hg;rw[hg];try exact no hg)));all_goals try refine zO fun a w F M=>?_
       (all_goals(refine zE F M ?_;exact⟨_,_,rfl,⟨by rw[hX];rfl,rfl⟩,M.perms permsA⟩))
    ·simp only[Bool.false_eq_true,or_true,if_true] at hX
     subst k1;subst k2
     refine zGz zk217 Tryz.func217 ?_;intro G;(repeat'(first|refine zA ?_;repeat intro nb|refine zB ?_ ?_<;>intro hc<;>try exact no hc|refine zH ?_ ?_<;>(intro hg;rw[hg];try exact no hg)));all_goals try refine zO fun a w F M=>?_
     (all_goals(refine zE F M ?_;exact⟨_,_,rfl,⟨by rw[hX];rfl,rfl⟩,M.perms permsA⟩))
   ·simp only[true_or,if_true] at hX
    subst k1;subst k2
    refine zGz zk217 Tryz.func217 ?_;intro G;(repeat'(first|refine zA ?_;repeat intro nb|refine zB ?_ ?_<;>intro hc<;>try exact no hc|refine zH ?_ ?_<;>(intro hg;rw[hg];try exact no hg)));all_goals try refine zO fun a w F M=>?_
    (all_goals(refine zE F M ?_;exact⟨_,_,rfl,⟨by rw[hX];rfl,rfl⟩,M.perms permsA⟩))
  ·rw[if_pos (.inr k2)] at hX
   subst k1
   refine zGz zk217 Tryz.func217 ?_;intro G;(repeat'(first|refine zA ?_;repeat intro nb|refine zB ?_ ?_<;>intro hc<;>try exact no hc|refine zH ?_ ?_<;>(intro hg;rw[hg];try exact no hg)));all_goals try refine zO fun a w F M=>?_
   (all_goals(refine zE F M ?_;exact⟨_,_,rfl,⟨by rw[hX];rfl,rfl⟩,M.perms permsA⟩))
 ·rw[if_pos (.inl k1)] at hX
  refine zGz zk217 Tryz.func217 ?_;intro G;(repeat'(first|refine zA ?_;repeat intro nb|refine zB ?_ ?_<;>intro hc<;>try exact no hc|refine zH ?_ ?_<;>(intro hg;rw[hg];try exact no hg)));all_goals try refine zO fun a w F M=>?_
  (all_goals(refine zE F M ?_;exact⟨_,_,rfl,⟨by rw[hX];rfl,rfl⟩,M.perms permsA⟩))
end
section
variable (V:List Val) (v:Value) (R:List Asn) (hg:GS R 7 v V.length (V.flatMap valL)) (hl:V.length≤1000000)
include hg hl
theorem rmreq_spec (c:Cfg) (hV:∀ x∈V,U64 x.bal) (i j:Int):Spec 151 [v,.int .i64 i,.int .i64 j,cfgV c] R fun u L'=>u=.int .i64 (merR c V i j)∧L'=R:=by
 have hbad:i<0∨j<0∨(V.length:Int)≤i∨(V.length:Int)≤j→merR c V i j=7:=fun h2=>by
  unfold merR
  by_cases hn:i<0∨j<0
  ·rw[if_pos hn]
  ·rw[if_neg hn]
   cases h3:V[i.toNat]? with
   | none=>rfl
   | some x =>
    cases h4:V[j.toNat]? with
    | none=>rfl
    | some y =>
     have:=(List.getElem?_eq_some_iff.1 h3).1
     have:=(List.getElem?_eq_some_iff.1 h4).1
     omega
 have hgood:0≤i→i<V.length→0≤j→j<V.length→∃ x y,V[i.toNat]? = some x∧V[j.toNat]? = some y∧merR c V i j=if i=j then 12 else merC c x y:=fun h1 h2 h3 h4=>by
  have h5:i.toNat<V.length:=by omega
  have h6:j.toNat<V.length:=by omega
  refine⟨V[i.toNat],V[j.toNat],by simp[h5],by simp[h6],?_⟩
  unfold merR
  rw[if_neg (by omega)]
  simp[h5,h6]
 generalize merR c V i j=X at *
 by_cases h1:i<0
 ·have e:=hbad (.inl h1)
  ((refine zGo Tryz.func151 ?_;intro G w M a F);have hG:GS (R++G) 7 v V.length (V.flatMap valL):=Gives.app hg)
  (try refine zI zk151 F M ?_;clear F M a;try clear w);(repeat'(first|refine zA ?_;repeat intro nb|refine zB ?_ ?_<;>intro hc<;>try exact no hc|refine zH ?_ ?_<;>(intro hg;rw[hg];try exact no hg)));all_goals try refine zO fun a w F M=>?_
  (all_goals(refine zE F M ?_;exact⟨_,_,rfl,⟨by rw[e];rfl,rfl⟩,M.perms permsA⟩))
 by_cases h2:j<0
 ·have e:=hbad (.inr (.inl h2))
  ((refine zGo Tryz.func151 ?_;intro G w M a F);have hG:GS (R++G) 7 v V.length (V.flatMap valL):=Gives.app hg)
  (try refine zI zk151 F M ?_;clear F M a;try clear w);(repeat'(first|refine zA ?_;repeat intro nb|refine zB ?_ ?_<;>intro hc<;>try exact no hc|refine zH ?_ ?_<;>(intro hg;rw[hg];try exact no hg)));all_goals try refine zO fun a w F M=>?_
  (all_goals(refine zE F M ?_;exact⟨_,_,rfl,⟨by rw[e];rfl,rfl⟩,M.perms permsA⟩))
 by_cases h3:(V.length:Int)≤i
 ·have e:=hbad (.inr (.inr (.inl h3)))
  ((refine zGo Tryz.func151 ?_;intro G w M a F);have hG:GS (R++G) 7 v V.length (V.flatMap valL):=Gives.app hg)
  (try refine zI zk151 F M ?_;clear F M a;try clear w);(repeat'(first|refine zA ?_;repeat intro nb|refine zB ?_ ?_<;>intro hc<;>try exact no hc|refine zH ?_ ?_<;>(intro hg;rw[hg];try exact no hg)));all_goals try refine zO fun a w F M=>?_
  (all_goals(refine zE F M ?_;exact⟨_,_,rfl,⟨by rw[e];rfl,rfl⟩,M.perms permsA⟩))
 by_cases h4:(V.length:Int)≤j
 ·have e:=hbad (.inr (.inr (.inr h4)))
  ((refine zGo Tryz.func151 ?_;intro G w M a F);have hG:GS (R++G) 7 v V.length (V.flatMap valL):=Gives.app hg)
  (try refine zI zk151 F M ?_;clear F M a;try clear w);(repeat'(first|refine zA ?_;repeat intro nb|refine zB ?_ ?_<;>intro hc<;>try exact no hc|refine zH ?_ ?_<;>(intro hg;rw[hg];try exact no hg)));all_goals try refine zO fun a w F M=>?_
  (all_goals(refine zE F M ?_;exact⟨_,_,rfl,⟨by rw[e];rfl,rfl⟩,M.perms permsA⟩))
 obtain ⟨x,y,hx,hy,hXX⟩:=hgood (by omega) (by omega) (by omega) (by omega)
 have hs:=fun R=>rmcheck_spec x y c R (hV x (List.mem_of_getElem? hx)) (hV y (List.mem_of_getElem? hy))
 by_cases hij:i=j
 ·rw[if_pos hij] at hXX
  ((refine zGo Tryz.func151 ?_;intro G w M a F);have hG:GS (R++G) 7 v V.length (V.flatMap valL):=Gives.app hg)
  (try refine zI zk151 F M ?_;clear F M a;try clear w);(repeat'(first|refine zA ?_;repeat intro nb|refine zB ?_ ?_<;>intro hc<;>try exact no hc|refine zH ?_ ?_<;>(intro hg;rw[hg];try exact no hg)));all_goals try refine zO fun a w F M=>?_
  (all_goals(refine zE F M ?_;exact⟨_,_,rfl,⟨by rw[hXX];rfl,rfl⟩,M.perms permsA⟩))
 ·rw[if_neg hij] at hXX
  ((refine zGo Tryz.func151 ?_;intro G w M a F);have hG:GS (R++G) 7 v V.length (V.flatMap valL):=Gives.app hg)
  (try refine zI zk151 F M ?_;clear F M a;try clear w);(repeat'(first|refine zA ?_;repeat intro nb|refine zC ?_;refine kpW (k:=217) (hs _) ?_|refine zB ?_ ?_<;>intro hc<;>try exact no hc|refine zH ?_ ?_<;>(intro hg;rw[hg];try exact no hg)));all_goals try refine zO fun a w F M=>?_
  (all_goals(refine zE F M ?_;exact⟨_,_,rfl,⟨by rw[hXX];rfl,rfl⟩,M.perms permsA⟩))
theorem rpcheck_spec (i x:Int):Spec 150 [v,rqW i x] R fun u L'=>u=.int .i64 (parC V i x)∧L'=R:=by
 have hX:(i<0∨(V.length:Int)≤i→parC V i x=7)∧(0≤i→i<V.length→∃ y,V[i.toNat]? = some y∧parC V i x=if x=0 then 3 else if y.st≠2 then 8 else 0):=by
  refine⟨fun h=>?_,fun h1 h2=>?_⟩
  ·unfold parC
   by_cases h0:i<0
   ·rw[if_pos h0]
   ·rw[if_neg h0,List.getElem?_eq_none (by omega)]
  ·have h5:i.toNat<V.length:=by omega
   refine⟨V[i.toNat],by simp[h5],?_⟩
   unfold parC
   rw[if_neg (by omega)]
   simp[h5]
 obtain ⟨hX1,hX2⟩:=hX
 generalize parC V i x=X at *
 by_cases h0:i<0∨(V.length:Int)≤i
 ·have e:=hX1 h0
  refine zGo Tryz.func150 ?_;intro G w M a F
  have hG:GS (R++G) 7 v V.length (V.flatMap valL):=Gives.app hg
  by_cases h1:i<0
  ·(try refine zI zk150 F M ?_;clear F M a;try clear w);(repeat'(first|refine zA ?_;repeat intro nb|refine zC ?_;refine kpW (k:=217) (hs _) ?_|refine zB ?_ ?_<;>intro hc<;>try exact no hc|refine zH ?_ ?_<;>(intro hg;rw[hg];try exact no hg)));all_goals try refine zO fun a w F M=>?_
   (all_goals(refine zE F M ?_;exact⟨_,_,rfl,⟨by rw[e];rfl,rfl⟩,M.perms permsA⟩))
  ·(try refine zI zk150 F M ?_;clear F M a;try clear w);(repeat'(first|refine zA ?_;repeat intro nb|refine zC ?_;refine kpW (k:=217) (hs _) ?_|refine zB ?_ ?_<;>intro hc<;>try exact no hc|refine zH ?_ ?_<;>(intro hg;rw[hg];try exact no hg)));all_goals try refine zO fun a w F M=>?_
   (all_goals(refine zE F M ?_;exact⟨_,_,rfl,⟨by rw[e];rfl,rfl⟩,M.perms permsA⟩))
 ·have h1:¬i<0:=by omega
  have h2:¬(V.length:Int)≤i:=by omega
  obtain ⟨y,hy,e⟩:=hX2 (by omega) (by omega)
  by_cases hx:x=0
  ·subst hx
   rw[if_pos rfl] at e
   refine zGo Tryz.func150 ?_;intro G w M a F
   have hG:GS (R++G) 7 v V.length (V.flatMap valL):=Gives.app hg
   (try refine zI zk150 F M ?_;clear F M a;try clear w);(repeat'(first|refine zA ?_;repeat intro nb|refine zC ?_;refine kpW (k:=217) (hs _) ?_|refine zB ?_ ?_<;>intro hc<;>try exact no hc|refine zH ?_ ?_<;>(intro hg;rw[hg];try exact no hg)));all_goals try refine zO fun a w F M=>?_
   (all_goals(refine zE F M ?_;exact⟨_,_,rfl,⟨by rw[e];rfl,rfl⟩,M.perms permsA⟩))
  ·rw[if_neg hx] at e
   have hdx:decide (x=0)=false:=by simpa using hx
   refine zGo Tryz.func150 ?_;intro G w M a F
   have hG:GS (R++G) 7 v V.length (V.flatMap valL):=Gives.app hg
   by_cases hs:y.st=2
   ·rw[if_neg (by omega)] at e
    (try refine zI zk150 F M ?_;clear F M a;try clear w);(repeat'(first|refine zA ?_;repeat intro nb|refine zC ?_;refine kpW (k:=217) (hs _) ?_|refine zB ?_ ?_<;>intro hc<;>try exact no hc|refine zH ?_ ?_<;>(intro hg;rw[hg];try exact no hg)));all_goals try refine zO fun a w F M=>?_
    all_goals first
     | (refine zE F M ?_;exact⟨_,_,rfl,⟨by rw[e];rfl,rfl⟩,M.perms permsA⟩)
     | (exfalso;simp_all;done)
   ·rw[if_pos hs] at e
    (try refine zI zk150 F M ?_;clear F M a;try clear w);(repeat'(first|refine zA ?_;repeat intro nb|refine zC ?_;refine kpW (k:=217) (hs _) ?_|refine zB ?_ ?_<;>intro hc<;>try exact no hc|refine zH ?_ ?_<;>(intro hg;rw[hg];try exact no hg)));all_goals try refine zO fun a w F M=>?_
    all_goals first
     | (refine zE F M ?_;exact⟨_,_,rfl,⟨by rw[e];rfl,rfl⟩,M.perms permsA⟩)
     | (exfalso;simp_all;done)
end
theorem rpavail_spec (c:Cfg) (hc:CfOk c) (y:Val) (hy:U64 y.bal) (R:List Asn):Spec 224 [valV y,cfgV c] R fun u L'=>u=.int .u64 (availV c y)∧L'=R:=by
 have h1:=hc.mb
 have hX:∀ X,availV c y=X→X=if y.st≠2∨y.sl=true∨y.bal≤c.minBalance then 0 else y.bal - c.minBalance:=fun X h=>by rw[← h];rfl
 generalize availV c y=X at *
 replace hX:=hX X rfl
 obtain ⟨bal,st,s,rq,ex,wd,dl⟩:=y
 simp only at hX
 have y1:=hy.1;have y2:=hy.2
 simp only at y1 y2
 cases s
 ·by_cases k1:st=2
  ·subst k1
   simp only[ne_eq,not_true_eq_false,Bool.false_eq_true,false_or] at hX
   by_cases k2:bal≤c.minBalance
   ·rw[if_pos k2] at hX
    refine zGz zk224 Tryz.func224 ?_;intro G;(repeat'(first|refine zA ?_;repeat intro nb|refine zC ?_;refine kpW (k:=217) (hs _) ?_|refine zB ?_ ?_<;>intro hc<;>try exact no hc|refine zH ?_ ?_<;>(intro hg;rw[hg];try exact no hg)));all_goals try refine zO fun a w F M=>?_
    (all_goals(refine zE F M ?_;exact⟨_,_,rfl,⟨by rw[hX];rfl,rfl⟩,M.perms permsA⟩))
   ·rw[if_neg k2] at hX
    refine zGz zk224 Tryz.func224 ?_;intro G;(repeat'(first|refine zA ?_;repeat intro nb|refine zC ?_;refine kpW (k:=217) (hs _) ?_|refine zB ?_ ?_<;>intro hc<;>try exact no hc|refine zH ?_ ?_<;>(intro hg;rw[hg];try exact no hg)));all_goals try refine zO fun a w F M=>?_
    (all_goals(refine zE F M ?_;exact⟨_,_,rfl,⟨by rw[hX];rfl,rfl⟩,M.perms permsA⟩))
  ·rw[if_pos (.inl k1)] at hX
   refine zGz zk224 Tryz.func224 ?_;intro G;(repeat'(first|refine zA ?_;repeat intro nb|refine zC ?_;refine kpW (k:=217) (hs _) ?_|refine zB ?_ ?_<;>intro hc<;>try exact no hc|refine zH ?_ ?_<;>(intro hg;rw[hg];try exact no hg)));all_goals try refine zO fun a w F M=>?_
   (all_goals(refine zE F M ?_;exact⟨_,_,rfl,⟨by rw[hX];rfl,rfl⟩,M.perms permsA⟩))
 ·rw[if_pos (.inr (.inl rfl))] at hX
  refine zGo Tryz.func224 ?_;intro G w M a F
  by_cases k1:st=2
  ·(try refine zI zk224 F M ?_;clear F M a;try clear w);(repeat'(first|refine zA ?_;repeat intro nb|refine zC ?_;refine kpW (k:=217) (hs _) ?_|refine zB ?_ ?_<;>intro hc<;>try exact no hc|refine zH ?_ ?_<;>(intro hg;rw[hg];try exact no hg)));all_goals try refine zO fun a w F M=>?_
   (all_goals(refine zE F M ?_;exact⟨_,_,rfl,⟨by rw[hX];rfl,rfl⟩,M.perms permsA⟩))
  ·(try refine zI zk224 F M ?_;clear F M a;try clear w);(repeat'(first|refine zA ?_;repeat intro nb|refine zC ?_;refine kpW (k:=217) (hs _) ?_|refine zB ?_ ?_<;>intro hc<;>try exact no hc|refine zH ?_ ?_<;>(intro hg;rw[hg];try exact no hg)));all_goals try refine zO fun a w F M=>?_
   (all_goals(refine zE F M ?_;exact⟨_,_,rfl,⟨by rw[hX];rfl,rfl⟩,M.perms permsA⟩))
theorem parV_some {c:Cfg} {Z:List Val × List Pm} {r:Nat × Int} {v:Val} (h:Z.1[r.1]? = some v):parV c Z r=(Z.1.set r.1 {v with bal:=v.bal - min r.2 (availV c v)},if 0<min r.2 (availV c v) then Z.2++[⟨r.1,min r.2 (availV c v),false⟩] else Z.2):=by
 unfold parV;rw[h]
theorem parV_lens (c:Cfg) (Z:List Val × List Pm) (r:Nat × Int):(parV c Z r).1.length=Z.1.length∧(parV c Z r).2.length≤Z.2.length+1:=by
 unfold parV
 split
 ·exact⟨rfl,by omega⟩
 ·refine⟨by rw[List.length_set],?_⟩
  simp only
  split<;>simp
theorem parV_u64 (c:Cfg) (hc:CfOk c) (Z:List Val × List Pm) (hZ:∀ v∈Z.1,U64 v.bal) (r:Nat × Int) (hr:0≤r.2):∀ v∈(parV c Z r).1,U64 v.bal:=by
 unfold parV
 cases h:Z.1[r.1]? with
 | none=>exact hZ
 | some v =>
  intro x hx
  have hv:=hZ v (List.mem_of_getElem? h)
  have ha:=avail_le c hc v hv
  have v1:=hv.1;have v2:=hv.2
  rcases List.mem_or_eq_of_mem_set hx with hx|rfl
  ·exact hZ x hx
  ·exact⟨by simp only;omega,by simp only;omega⟩
section
variable (V:List Val) (v:Value) (R:List Asn) (hg:GS R 7 v V.length (V.flatMap valL)) (hl:V.length≤4096)
include hg hl
theorem rpstep_spec (c:Cfg) (hc:CfOk c) (hq:Value) (q:List (Nat × Int)) (hgq:GS R 2 hq q.length (q.flatMap rqL)) (hql:q.length≤4096) (hV:∀ x∈V,U64 x.bal) (hr:∀ r∈q,r.1<V.length∧U64 r.2) :
  Spec 153 [v,hq,cfgV c] R fun u L'=>∃ h h',u=.tuple [sl h,sl h',.int .i64 ((q.take c.partials.toNat).length:Int)].toArray∧L'=ownT 62 valL 7 (sl h) ((q.take c.partials.toNat).foldl (parV c) (V,[])).1::ownT 57 pmL 3 (sl h') ((q.take c.partials.toNat).foldl (parV c) (V,[])).2::R:=by
 have hpa:=hc.pa
 have hpy:=hc.py
 obtain ⟨mg,hmg⟩:∃ mg:Nat,c.partials=mg:=⟨c.partials.toNat,by omega⟩
 obtain ⟨m,hm⟩:∃ m,min q.length mg=m:=⟨_,rfl⟩
 have htk:q.take c.partials.toNat=q.take m:=by rw[hmg,Int.toNat_natCast,← hm];exact List.take_eq_take_iff.2 (by omega)
 rw[htk]
 have hX:(q.take m).foldl (parV c) (V,[])=((q.take m).drop 0).foldl (parV c) (V,[]):=by simp
 have hlt:(q.take m).length=m:=by rw[List.length_take];omega
 rw[hlt]
 have hQq:∀ k,k<m→(q.take m)[k]? = q[k]?:=fun k hk=>by rw[List.getElem?_take,if_pos hk]
 generalize q.take m=Q at *
 generalize List.foldl (parV c) (V,[]) Q=X at *
 obtain ⟨X1,X2⟩:=X
 simp only
 refine zGo Tryz.func153 ?_;intro G w M a F
 have hG:GS (R++G) 7 v V.length (V.flatMap valL):=Gives.app hg
 have hH:GS (R++G) 2 hq q.length (q.flatMap rqL):=Gives.app hgq
 have M:=M.own_nil 57 3
 (try refine zI zk153 F M ?_;clear F M a;try clear w);(repeat'(first|refine zA ?_;repeat intro nb|refine zC ?_;refine ac_appendE (f:=valL) (ys:=V) rfl rfl inferInstance rfl rfl pullA inferInstance gsA rfl rfl (by omega) ?_;intro h1|refine zB ?_ ?_<;>intro hc<;>try exact no hc|refine zH ?_ ?_<;>(intro hg;rw[hg];try exact no hg)));all_goals try refine zO fun a w F M=>?_
 refine svLoop F M ((0,h1,V,nilH,[]):Nat × SlH × List Val × SlH × List Pm) (fun s=>[(12,.int .i64 s.1),(11,.int .i64 s.1),(9,sl s.2.1),(10,sl s.2.2.2.1)]) (fun s=>[ownT 62 valL 7 (sl s.2.1) s.2.2.1,ownT 57 pmL 3 (sl s.2.2.2.1) s.2.2.2.2]) (fun s=>s.1≤m∧(X1,X2)=(Q.drop s.1).foldl (parV c) (s.2.2.1,s.2.2.2.2)∧s.2.2.1.length=V.length∧(∀ x∈s.2.2.1,U64 x.bal)∧s.2.2.2.2.length≤s.1) (fun s=>m - s.1) [] ⟨Nat.zero_le _,hX,rfl,hV,Nat.zero_le _⟩ ?_ (hR:=by(repeat (first|exact Pulls.nil|(apply Pulls.cons;(focus ((repeat (first|exact Pull.here|apply Pull.there));done))))))
 (rintro⟨k,h1,V',hd,ps⟩ ⟨q1,q2,q3,q4,q5⟩ a w F M;(try simp only[zc,zn] at F M q1 q2 q3 q4 q5 ⊢))
 by_cases hk:k<m
 ·obtain ⟨p,hp⟩:∃ p,Q[k]? = some p:=⟨Q[k],by simp[hlt,hk]⟩
  have hpq:q[k]? = some p:=by rw[← hQq k hk];exact hp
  obtain ⟨r1,r2⟩:=hr p (List.mem_of_getElem? hpq)
  rw[drop_cons hp,List.foldl_cons] at q2
  obtain ⟨i,x⟩:=p
  simp only at r1 r2
  obtain ⟨y,hy⟩:∃ y,V'[i]? = some y:=⟨V'[i]'(by omega),by rw[List.getElem?_eq_getElem]⟩
  have hyu:=q4 y (List.mem_of_getElem? hy)
  have hav:=fun R=>rpavail_spec c hc y hyu R
  obtain ⟨a1,a2⟩:=avail_le c hc y hyu
  have hu:=parV_u64 c hc (V',ps) q4 (i,x) r2.1
  have hln:=parV_lens c (V',ps) (i,x)
  rw[parV_some (r:=(i,x)) hy] at q2 hu hln
  simp only at q2 hu hln
  have x1:=r2.1
  generalize availV c y=av at *
  obtain ⟨mn,hmn⟩:∃ mn,min x av=mn:=⟨_,rfl⟩
  have hmin:(if av<x then av else x)=mn:=by split<;>omega
  have m1:0≤mn:=by omega
  have m2:mn≤y.bal:=by omega
  have y2:=hyu.2
  rw[hmn] at q2 hu hln
  have hpt:=fun (R:List Asn) hg=>rput_spec V' (sl h1) R hg (by omega) i {y with bal:=y.bal - mn} y hy
  obtain ⟨bal,st,s,rq,ex,wd,dl⟩:=y
  simp only at m2 y2 hpt hav q2 hu hln
  generalize V'.set i ⟨bal - mn,st,s,rq,ex,wd,dl⟩=V2 at *
  by_cases hm0:0<mn
  ·rw[if_pos hm0] at q2 hln
   (try refine zI zk153 F M ?_;clear F M a;try clear w);(repeat'(first|refine zV (h:=⟨_,by((apply rt_min2;(exact rfl);(exact rfl);(exact hmin))),?_⟩)|refine zA1 ?_;repeat intro(nb:Nat)|refine zC ?_;(first|refine kpW (k:=224) (hav _) ?_|refine acW (k:=146) (hpt _ ?_) ?_;exact gs_own pullA;rintro u L' ⟨h2,rfl,rfl⟩|refine ac_appendH (f:=pmL) (xs:=ps) (ys:=[⟨(i:Int),mn,false⟩]) rfl rfl inferInstance rfl rfl pullA inferInstance gsA rfl rfl (by simp;omega) ?_;intro nv)|refine zB ?_ ?_<;>intro hc<;>try exact no hc|refine zH ?_ ?_<;>(intro hg;rw[hg];try exact no hg)));all_goals try refine zO fun a w F M=>?_
   refine sv_again F M (k+1,h2,_,nv,_) kpA permsA ⟨by simp only;omega,q2,by simp only;omega,hu,by simp;omega⟩ (by simp only;omega)
  ·rw[if_neg hm0] at q2 hln
   (try refine zI zk153 F M ?_;clear F M a;try clear w);(repeat'(first|refine zV (h:=⟨_,by((apply rt_min2;(exact rfl);(exact rfl);(exact hmin))),?_⟩)|refine zA1 ?_;repeat intro(nb:Nat)|refine zC ?_;(first|refine kpW (k:=224) (hav _) ?_|refine acW (k:=146) (hpt _ ?_) ?_;exact gs_own pullA;rintro u L' ⟨h2,rfl,rfl⟩|refine ac_appendH (f:=pmL) (xs:=ps) (ys:=[⟨(i:Int),mn,false⟩]) rfl rfl inferInstance rfl rfl pullA inferInstance gsA rfl rfl (by simp;omega) ?_;intro nv)|refine zB ?_ ?_<;>intro hc<;>try exact no hc|refine zH ?_ ?_<;>(intro hg;rw[hg];try exact no hg)));all_goals try refine zO fun a w F M=>?_
   refine sv_again F M (k+1,h2,_,hd,_) kpA permsA ⟨by simp only;omega,q2,by simp only;omega,hu,by simp only;omega⟩ (by simp only;omega)
 ·obtain rfl:k=m:=by omega
  rw[List.drop_of_length_le (by omega),List.foldl_nil] at q2
  simp only[Prod.mk.injEq] at q2
  obtain ⟨rfl,rfl⟩:=q2
  by_cases hlast:k<q.length
  ·(try refine zI zk153 F M ?_;clear F M a;try clear w);(repeat'(first|refine zA ?_;repeat intro nb|refine zB ?_ ?_<;>intro hc<;>try exact no hc|refine zH ?_ ?_<;>(intro hg;rw[hg];try exact no hg)));all_goals try refine zO fun a w F M=>?_
   (all_goals(refine zE F M ?_;exact⟨_,_,rfl,⟨h1,hd,rfl,rfl⟩,M.perms permsA⟩))
  ·(try refine zI zk153 F M ?_;clear F M a;try clear w);(repeat'(first|refine zA ?_;repeat intro nb|refine zB ?_ ?_<;>intro hc<;>try exact no hc|refine zH ?_ ?_<;>(intro hg;rw[hg];try exact no hg)));all_goals try refine zO fun a w F M=>?_
   (all_goals(refine zE F M ?_;exact⟨_,_,rfl,⟨h1,hd,rfl,rfl⟩,M.perms permsA⟩))
end
theorem rsweep_spec (v:Value) (rd:List Bool) (vi py at':Nat) (R:List Asn) (hg:GS R 1 v rd.length (rd.flatMap boL)) (hl:rd.length≤4096) (ha:at'<rd.length∨at'=0) (hv:1≤vi∧vi≤4096) (hp:1≤py∧py≤4096):Spec 154 [.int .i64 at',v,.int .i64 vi,.int .i64 py] R fun u L'=>∃ h,u=.tuple [sl h,.int .i64 (swGo rd py (min vi rd.length) at' []).2.1,.int .i64 (swGo rd py (min vi rd.length) at' []).2.2].toArray∧L'=ownT 3 natL 1 (sl h) (swGo rd py (min vi rd.length) at' []).1::R:=by
 obtain ⟨p1,p2⟩:=hp
 obtain ⟨v1,v2⟩:=hv
 by_cases h0:rd.length=0
 ·rw[h0,Nat.min_zero]
  simp only[swGo]
  rw[h0] at hg
  refine zGo Tryz.func154 ?_;intro G w M a F
  have hG:GS (R++G) 1 v 0 (rd.flatMap boL):=Gives.app hg
  have M:=M.own_nil 3 1
  (try refine zI zk154 F M ?_;clear F M a;try clear w);(repeat'(first|refine zA ?_;repeat intro nb|refine zB ?_ ?_<;>intro hc<;>try exact no hc|refine zH ?_ ?_<;>(intro hg;rw[hg];try exact no hg)));all_goals try refine zO fun a w F M=>?_
  (all_goals(refine zE F M ?_;exact⟨_,_,rfl,⟨nilH,rfl,rfl⟩,M.perms permsA⟩))
 ·obtain ⟨m,hm⟩:∃ m,min vi rd.length=m:=⟨_,rfl⟩
  obtain ⟨n,hn⟩:∃ n,rd.length=n:=⟨_,rfl⟩
  rw[hm]
  have hX:∃ X,swGo rd py m at' []=X∧swGo rd py (m - 0) at' []=(X.1,X.2.1 - 0,X.2.2):=⟨_,rfl,rfl⟩
  obtain ⟨⟨X1,X2,X3⟩,hX1,hX⟩:=hX
  rw[hX1]
  simp only at hX ⊢
  have hn1:1≤n:=by omega
  have hn2:n≤4096:=by omega
  have ha2:at'<n:=by omega
  rw[hn] at hg hm
  have ea:(at':Int) % (n:Int)=(at':Int):=Int.emod_eq_of_lt (by omega) (by omega)
  have en:¬((n:Int)=0):=by omega
  refine zGo Tryz.func154 ?_;intro G w M a F
  have hG:GS (R++G) 1 v n (rd.flatMap boL):=Gives.app hg
  have M:=M.own_nil 3 1
  (try refine zI zk154 F M ?_;clear F M a;try clear w);(repeat'(first|refine zV (h:=⟨_,by((apply rt_rem' (r:=(at':Int));(exact rfl);(exact rfl);(exact rfl);omega;omega;(exact ea))),?_⟩)|refine zA1 ?_;repeat intro(nb:Nat)|refine zB ?_ ?_<;>intro hc<;>try exact no hc|refine zH ?_ ?_<;>(intro hg;rw[hg];try exact no hg)));all_goals try refine zO fun a w F M=>?_
  refine svLoop F M ((0,at',nilH,[]):Nat × Nat × SlH × List Nat) (fun s=>[(13,.int .i64 s.1),(0,.int .i64 s.2.1),(12,sl s.2.2.1)]) (fun s=>[ownT 3 natL 1 (sl s.2.2.1) s.2.2.2]) (fun s=>s.1≤m∧s.2.1<n∧s.2.2.2.length≤s.1∧s.2.2.2.length≤py∧swGo rd py (m - s.1) s.2.1 s.2.2.2=(X1,X2 - s.1,X3)∧s.1≤X2) (fun s=>m - s.1) [] ⟨Nat.zero_le _,ha2,Nat.zero_le _,Nat.zero_le _,hX,Nat.zero_le _⟩ ?_ (hR:=by(repeat (first|exact Pulls.nil|(apply Pulls.cons;(focus ((repeat (first|exact Pull.here|apply Pull.there));done))))))
  (rintro⟨k,c,h,l⟩ ⟨q1,q2,q3,q6,q4,q5⟩ a w F M;(try simp only[zc,zn] at F M q1 q2 q3 q4 q5 q6 ⊢))
  by_cases hk:k<m
  ·have hk2:m - k=(m - (k+1))+1:=by omega
   have kv:(k:Int)<vi:=by omega
   have kn:(k:Int)<n:=by omega
   rw[hk2,swGo] at q4
   by_cases hlp:l.length=py
   ·rw[if_pos hlp] at q4
    simp only[Prod.mk.injEq] at q4
    obtain ⟨e1,e2,e3⟩:=q4
    have e4:X2=k:=by omega
    have hlp2:¬((l.length:Int)<(py:Int)):=by omega
    (try refine zI zk154 F M ?_;clear F M a;try clear w);(repeat'(first|refine zA ?_;repeat intro nb|refine zB ?_ ?_<;>intro hc<;>try exact no hc|refine zH ?_ ?_<;>(intro hg;rw[hg];try exact no hg)));all_goals try refine zO fun a w F M=>?_
    all_goals refine zE F M ?_
    subst e1;subst e3;subst e4
    exact⟨_,_,rfl,⟨h,rfl,rfl⟩,M.perms permsA⟩
   ·rw[if_neg hlp] at q4
    simp only[hn] at q4
    rw[Nat.mod_eq_of_lt q2] at q4
    obtain ⟨y,hy⟩:∃ y,rd[c]? = some y:=⟨rd[c]'(by omega),by rw[List.getElem?_eq_getElem (by omega)]⟩
    have hgd:rd.getD c false=y:=by rw[List.getD_eq_getElem?_getD,hy];rfl
    rw[hgd] at q4
    have hlp2:(l.length:Int)<(py:Int):=by omega
    have hj:=Nat.mod_lt (c+1) hn1
    have e9:((c:Int)+1) % (n:Int)=(((c+1) % n:Nat):Int):=by rw[Int.natCast_emod (c+1) n,Int.natCast_add];rfl
    generalize (c+1) % n=j at *
    cases y
    ·simp only[Bool.false_eq_true,if_false,Prod.mk.injEq] at q4
     obtain ⟨e1,e2,e3⟩:=q4
     (try refine zI zk154 F M ?_;clear F M a;try clear w);(repeat'(first|refine zV (h:=⟨_,by((apply rt_rem' (r:=(j:Int));(exact rfl);(exact rfl);(exact rfl);omega;omega;(exact e9))),?_⟩)|refine zA1 ?_;repeat intro(nb:Nat)|refine zC ?_;refine ac_appendH (f:=natL) (xs:=l) (ys:=[c]) rfl rfl inferInstance rfl rfl pullA inferInstance gsA rfl rfl (by simp;omega) ?_;intro nv|refine zB ?_ ?_<;>intro hc<;>try exact no hc|refine zH ?_ ?_<;>(intro hg;rw[hg];try exact no hg)));all_goals try refine zO fun a w F M=>?_
     refine sv_again F M (k+1,j,h,l) kpA permsA ⟨by simp only;omega,by simp only;omega,by simp only;omega,by simp only;omega,?_,by simp only;omega⟩ (by simp only;omega)
     exact Prod.ext e1 (Prod.ext (by simp only;omega) e3)
    ·simp only[if_true,Prod.mk.injEq] at q4
     obtain ⟨e1,e2,e3⟩:=q4
     (try refine zI zk154 F M ?_;clear F M a;try clear w);(repeat'(first|refine zV (h:=⟨_,by((apply rt_rem' (r:=(j:Int));(exact rfl);(exact rfl);(exact rfl);omega;omega;(exact e9))),?_⟩)|refine zA1 ?_;repeat intro(nb:Nat)|refine zC ?_;refine ac_appendH (f:=natL) (xs:=l) (ys:=[c]) rfl rfl inferInstance rfl rfl pullA inferInstance gsA rfl rfl (by simp;omega) ?_;intro nv|refine zB ?_ ?_<;>intro hc<;>try exact no hc|refine zH ?_ ?_<;>(intro hg;rw[hg];try exact no hg)));all_goals try refine zO fun a w F M=>?_
     refine sv_again F M (k+1,j,nv,l++[c]) kpA permsA ⟨by simp only;omega,by simp only;omega,by simp;omega,by simp;omega,?_,by simp only;omega⟩ (by simp only;omega)
     exact Prod.ext e1 (Prod.ext (by simp only;omega) e3)
  ·obtain rfl:k=m:=by omega
   rw[Nat.sub_self] at q4
   simp only[swGo,Prod.mk.injEq] at q4
   obtain ⟨e1,e2,e3⟩:=q4
   have e4:X2=k:=by omega
   subst e1;subst e3;subst e4
   by_cases kv:(X2:Int)<vi
   ·have kn:¬(X2:Int)<n:=by omega
    (try refine zI zk154 F M ?_;clear F M a;try clear w);(repeat'(first|refine zA ?_;repeat intro nb|refine zC ?_;refine ac_appendH (f:=natL) (xs:=l) (ys:=[c]) rfl rfl inferInstance rfl rfl pullA inferInstance gsA rfl rfl (by simp;omega) ?_;intro nv|refine zB ?_ ?_<;>intro hc<;>try exact no hc|refine zH ?_ ?_<;>(intro hg;rw[hg];try exact no hg)));all_goals try refine zO fun a w F M=>?_
    (all_goals(refine zE F M ?_;exact⟨_,_,rfl,⟨h,rfl,rfl⟩,M.perms permsA⟩))
   ·(try refine zI zk154 F M ?_;clear F M a;try clear w);(repeat'(first|refine zA ?_;repeat intro nb|refine zC ?_;refine ac_appendH (f:=natL) (xs:=l) (ys:=[c]) rfl rfl inferInstance rfl rfl pullA inferInstance gsA rfl rfl (by simp;omega) ?_;intro nv|refine zB ?_ ?_<;>intro hc<;>try exact no hc|refine zH ?_ ?_<;>(intro hg;rw[hg];try exact no hg)));all_goals try refine zO fun a w F M=>?_
    (all_goals(refine zE F M ?_;exact⟨_,_,rfl,⟨h,rfl,rfl⟩,M.perms permsA⟩))
end
section
open Go.RowKit
section
variable (V:List Val) (v:Value) (R:List Asn) (hg:GS R 7 v V.length (V.flatMap valL)) (hl:V.length≤1000000)
include hg hl
theorem rmove_spec (i j:Nat) (y z:Val) (hy:V[i]? = some y) (hz:V[j]? = some z) (hij:i≠j) (h1:0≤y.bal) (h2:0≤z.bal) (h3:y.bal+z.bal≤18446744073709551615):Spec 300 [v,.int .i64 i,.int .i64 j] R fun u L'=>∃ h,u=sl h∧L'=ownT 62 valL 7 (sl h) ((V.set i (mSrc y)).set j (mDst z y))::R:=by
 have hil:i<V.length:=(List.getElem?_eq_some_iff.1 hy).1
 have hjl:j<V.length:=(List.getElem?_eq_some_iff.1 hz).1
 have hp1:=fun (R:List Asn) hg=>rput_spec V v R hg hl i (mSrc y) y hy
 have hz2:(V.set i (mSrc y))[j]? = some z:=by rw[List.getElem?_set_ne hij,hz]
 have hp2:=fun (h:SlH) (R:List Asn) hg=>rput_spec (V.set i (mSrc y)) (sl h) R hg (by rw[List.length_set];exact hl) j (mDst z y) z hz2
 obtain ⟨b1,s1,l1,r1,x1,w1,d1⟩:=y
 obtain ⟨b2,s2,l2,r2,x2,w2,d2⟩:=z
 simp only[mSrc,mDst] at *
 generalize hU:V.set i ⟨0,7,l1,r1,x1,w1,d1⟩=U at *
 refine zGo Tryz.func300 ?_;intro G w M a F
 have hG:GS (R++G) 7 v V.length (V.flatMap valL):=Gives.app hg
 (try refine zI zk300 F M ?_;clear F M a;try clear w);(repeat'(first|refine zA ?_;repeat intro nb|refine zC ?_;(first|refine acW (k:=146) (hp1 _ ?_) ?_;exact gsA;rintro u L' ⟨q1,rfl,rfl⟩|refine acW (k:=146) (hp2 q1 _ ?_) ?_;exact gs_own pullA;rintro u L' ⟨q2,rfl,rfl⟩)|refine zB ?_ ?_<;>intro hc<;>try exact no hc|refine zH ?_ ?_<;>(intro hg;rw[hg];try exact no hg)));all_goals try refine zO fun a w F M=>?_
 (all_goals(refine zE F M ?_;exact⟨_,_,rfl,⟨q2,rfl,rfl⟩,M.perms permsA⟩))
theorem rmstep_spec (c:Cfg) (hc:CfOk c) (hq:Value) (q:List (Nat × Nat)) (hgq:GS R 2 hq q.length (q.flatMap prL)) (hql:q.length≤4096) (hl2:V.length≤4096) (hV:∀ x∈V,U64 x.bal) :
  Spec 223 [v,hq,cfgV c] R fun u L'=>∃ h v2,u=.tuple [sl h,v2].toArray∧L'=ownT 62 valL 7 (sl h) ((q.take c.merges.toNat).foldl (merV c) V)::R:=by
 have hme:=hc.me
 obtain ⟨mg,hmg⟩:∃ mg:Nat,c.merges=mg:=⟨c.merges.toNat,by omega⟩
 obtain ⟨m,hm⟩:∃ m,min q.length mg=m:=⟨_,rfl⟩
 have htk:q.take c.merges.toNat=q.take m:=by rw[hmg,Int.toNat_natCast,← hm];exact List.take_eq_take_iff.2 (by omega)
 rw[htk]
 have hX:(q.take m).foldl (merV c) V=((q.take m).drop 0).foldl (merV c) V:=by simp
 have hlt:(q.take m).length=m:=by rw[List.length_take];omega
 have hQq:∀ k,k<m→(q.take m)[k]? = q[k]?:=fun k hk=>by rw[List.getElem?_take,if_pos hk]
 generalize q.take m=Q at *
 generalize List.foldl (merV c) V Q=X at *
 refine zGo Tryz.func223 ?_;intro G w M a F
 have hG:GS (R++G) 7 v V.length (V.flatMap valL):=Gives.app hg
 have hH:GS (R++G) 2 hq q.length (q.flatMap prL):=Gives.app hgq
 have M:=M.own_nil 4 1
 (try refine zI zk223 F M ?_;clear F M a;try clear w);(repeat'(first|refine zA ?_;repeat intro nb|refine zC ?_;refine ac_appendE (f:=valL) (ys:=V) rfl rfl inferInstance rfl rfl pullA inferInstance gsA rfl rfl (by omega) ?_;intro h1|refine zB ?_ ?_<;>intro hc<;>try exact no hc|refine zH ?_ ?_<;>(intro hg;rw[hg];try exact no hg)));all_goals try refine zO fun a w F M=>?_
 refine svLoop F M ((0,h1,V,nilH,[]):Nat × SlH × List Val × SlH × List Bool) (fun s=>[(10,.int .i64 s.1),(8,sl s.2.1),(9,sl s.2.2.2.1)]) (fun s=>[ownT 62 valL 7 (sl s.2.1) s.2.2.1,ownT 4 boL 1 (sl s.2.2.2.1) s.2.2.2.2]) (fun s=>s.1≤m∧X=(Q.drop s.1).foldl (merV c) s.2.2.1∧s.2.2.1.length=V.length∧(∀ x∈s.2.2.1,U64 x.bal)∧s.2.2.2.2.length≤s.1) (fun s=>m - s.1) [] ⟨Nat.zero_le _,hX,rfl,hV,Nat.zero_le _⟩ ?_ (hR:=by(repeat (first|exact Pulls.nil|(apply Pulls.cons;(focus ((repeat (first|exact Pull.here|apply Pull.there));done))))))
 (rintro⟨k,h1,V',hd,bs⟩ ⟨q1,q2,q3,q4,q5⟩ a w F M;(try simp only[zc,zn] at F M q1 q2 q3 q4 q5 ⊢))
 by_cases hk:k<m
 ·obtain ⟨p,hp⟩:∃ p,Q[k]? = some p:=⟨Q[k],by simp[hlt,hk]⟩
  have hpq:q[k]? = some p:=by rw[← hQq k hk];exact hp
  rw[drop_cons hp,List.foldl_cons] at q2
  have hrq:=fun (R:List Asn) hg=>rmreq_spec V' (sl h1) R hg (by omega) c q4 p.1 p.2
  obtain ⟨p1,p2⟩:=p
  simp only at hrq
  by_cases hz:merR c V' p1 p2=0
  ·rw[hz] at hrq
   obtain ⟨y,z,k1,k2,k3,k4,k5,k6⟩:=merV_some (p:=(p1,p2)) hz
   simp only at k1 k2 k4 k5 k6
   obtain ⟨e1,e2,e3⟩:=merC_zero k3
   have hmv:=fun (R:List Asn) hg=>rmove_spec V' (sl h1) R hg (by omega) p1 p2 y z k1 k2 k4 (q4 y (List.mem_of_getElem? k1)).1 (q4 z (List.mem_of_getElem? k2)).1 e3
   have hu:=merV_u64 (c:=c) (p1,p2) q4
   have hln:=merV_len c V' (p1,p2)
   rw[k5] at q2 hu hln
   ((try(refine zI (⟨List.range 64,(zk223).d,[]⟩) F M ?_;clear F M a;(try clear w)));(repeat'(first|(refine zDL (id:=8) [11] [] [] [0,1,2,3,4,5,6,7,8,9,10,11] ?_)|with_reducible refine zQo ?_|(refine zA1 ?_;(repeat intro(nb:Nat)))|((refine zC ?_);((first|(refine acW (k:=151) (hrq _ ?_) ?_;(exact gs_own pullA);rintro u L' ⟨rfl,rfl⟩)|(refine acW (k:=300) (hmv _ ?_) ?_;(exact gs_own pullA);rintro u L' ⟨h2,rfl,rfl⟩)|(refine ac_appendH (f:=boL) (xs:=bs) (ys:=[_]) rfl rfl inferInstance rfl rfl pullA inferInstance gsA rfl rfl (by simp;omega) ?_;intro nv))))|(refine zB ?_ ?_<;>intro hc<;>(try exact no hc))|(refine zH ?_ ?_<;>(intro hg;rw[hg];(try exact no hg)))));(all_goals(try refine zO fun a w F M=>?_)))
   refine sv_again F M (k+1,h2,_,nv,_) kpA permsA ⟨by simp only;omega,q2,by simp only;omega,hu,by simp;omega⟩ (by simp only;omega)
  ·have hne:merV c V' (p1,p2)=V':=by unfold merV;rw[if_neg hz]
   rw[hne] at q2
   have hdz:decide (merR c V' p1 p2=0)=false:=by simpa using hz
   (try refine zI zk223 F M ?_;clear F M a;try clear w);(repeat'(first|refine zA ?_;repeat intro nb|refine zC ?_;(first|refine acW (k:=151) (hrq _ ?_) ?_;exact gs_own pullA;rintro u L' ⟨rfl,rfl⟩|refine ac_appendH (f:=boL) (xs:=bs) (ys:=[_]) rfl rfl inferInstance rfl rfl pullA inferInstance gsA rfl rfl (by simp;omega) ?_;intro nv)|refine zB ?_ ?_<;>intro hc<;>try exact no hc|refine zH ?_ ?_<;>(intro hg;rw[hg];try exact no hg)));all_goals try refine zO fun a w F M=>?_
   rw[hdz] at F
   (try refine zI zk223 F M ?_;clear F M a;try clear w);(repeat'(first|refine zA ?_;repeat intro nb|refine zC ?_;(first|refine acW (k:=151) (hrq _ ?_) ?_;exact gs_own pullA;rintro u L' ⟨rfl,rfl⟩|refine ac_appendH (f:=boL) (xs:=bs) (ys:=[_]) rfl rfl inferInstance rfl rfl pullA inferInstance gsA rfl rfl (by simp;omega) ?_;intro nv)|refine zB ?_ ?_<;>intro hc<;>try exact no hc|refine zH ?_ ?_<;>(intro hg;rw[hg];try exact no hg)));all_goals try refine zO fun a w F M=>?_
   refine sv_again F M (k+1,h1,_,nv,_) kpA permsA ⟨by simp only;omega,q2,q3,q4,by simp;omega⟩ (by simp only;omega)
 ·obtain rfl:k=m:=by omega
  rw[List.drop_of_length_le (by omega),List.foldl_nil] at q2
  subst q2
  by_cases hlast:k<q.length
  ·(try refine zI zk223 F M ?_;clear F M a;try clear w);(repeat'(first|refine zA ?_;repeat intro nb|refine zB ?_ ?_<;>intro hc<;>try exact no hc|refine zH ?_ ?_<;>(intro hg;rw[hg];try exact no hg)));all_goals try refine zO fun a w F M=>?_
   (all_goals(refine zE F M ?_;exact⟨_,_,rfl,⟨h1,_,rfl,rfl⟩,M.perms permsA⟩))
  ·(try refine zI zk223 F M ?_;clear F M a;try clear w);(repeat'(first|refine zA ?_;repeat intro nb|refine zB ?_ ?_<;>intro hc<;>try exact no hc|refine zH ?_ ?_<;>(intro hg;rw[hg];try exact no hg)));all_goals try refine zO fun a w F M=>?_
   (all_goals(refine zE F M ?_;exact⟨_,_,rfl,⟨h1,_,rfl,rfl⟩,M.perms permsA⟩))
end
end
section
open Go.RowKit
section
variable {o:Oper} {n:Nat} {l:List (Nat × Value)} {L:List Asn}
end
structure RH where
 ld:Nat
 ln:Nat
 mt:Nat
 hV:SlH
 hP:SlH
 hM:SlH
 hQ:SlH
def rfC (z:RH) (c:Cfg) (bk ep at':Int):List Value:=[.int .i64 c.capacity,.int .i64 c.queueSize,.int .u64 c.minDeposit,.int .u64 c.maxDeposit,.int .u64 c.supplyCap,.int .u64 c.minBalance,.int .u64 c.maxBalance,.int .u64 c.minChurn,.int .u64 c.quotient,.int .u64 c.forcedCap,
 .int .i64 c.unbonding,.int .i64 c.slashDelay,.int .i64 c.ringLen,.int .i64 c.epochLen,.int .i64 c.visits,.int .i64 c.payments,.int .i64 c.partials,.int .i64 c.merges,.int .u64 c.penNum,.int .u64 c.penDen,
 .int .i64 bk,.int .i64 ep,sl z.hV,ptr z.ld,sl z.hP,ptr z.ln,sl z.hM,sl z.hQ,.int .i64 at',ptr z.mt]
abbrev refL (b:Nat) (z:RH) (c:Cfg) (s:St) (R:List Asn):List Asn :=
 rlnA z.ln (qS c) s.fo s.vo::pt b (rfC z c s.bk (epo c s) s.at') 85::rldC z.ld c.supplyCap s.dep s.pd s.bu::rmtA z.mt s.ca::roT valL 7 (sl z.hV) s.V::roT natL 1 (sl z.hP) s.pe::roT prL 2 (sl z.hM) s.me::roT rqL 2 (sl z.hQ) s.pa::R
theorem rnew_spec (c:Cfg) (hc:CfOk c) (R:List Asn):Spec 21 [cfgV c] R fun u L'=>∃ b z,u=ptr b∧L'=refL b z c St.ini R:=by
 have hqs:=hc.qs
 obtain ⟨qs,hqs2⟩:∃ qs:Nat,c.queueSize=qs:=⟨c.queueSize.toNat,by omega⟩
 have hq:qS c=qs:=by simp only[qS,hqs2,Int.toNat_natCast]
 refine zGz zk21 Tryz.func21 ?_;intro G;(repeat'(first|refine zA ?_;repeat intro nb|refine zB ?_ ?_<;>intro hc<;>try exact no hc|refine zH ?_ ?_<;>(intro hg;rw[hg];try exact no hg)));all_goals try refine zO fun a w F M=>?_
 all_goals refine zE F M ?_
 have eqs:((qS c:Nat):Int)=c.queueSize:=by rw[hq];exact hqs2.symm
 have M1:=rmt_close _ (M.pull (.there .here))
 have M2:=((((M1.own_nil 3 1).ro).own_nil 3 1).ro).pull (.there (.there (.there (.there .here))))
 have M3:=rln_close _ (size:=qS c) (fo:=[]) (vo:=[]) (h1:=nilH) (h2:=nilH) (by unfold rlnL;rw[eqs];exact M2)
 have M4:=((((((((M3.own_nil 3 7).ro).own_nil 3 1).ro).own_nil 3 2).ro).own_nil 3 2).ro)
 rename_i ncf ledger lanes meter
 refine⟨_,_,rfl,⟨nb,⟨ledger,lanes,meter,nilH,nilH,nilH,nilH⟩,rfl,rfl⟩,?_⟩
 have ee:epo c St.ini=0:=by simp[epo,St.ini]
 rw[refL,ee]
 exact M4.perms permsA
theorem rrej_spec (b:Nat) (z:RH) (c:Cfg) (bk ep at' k e:Int) (R:List Asn):Spec 93 [ptr b,.int .i64 k,.int .i64 e] (pt b (rfC z c bk ep at') 85::R) fun u L'=>u=rcV ⟨k,e,-1,bk,ep,-1,0,[],[]⟩ nilH nilH∧L'=pt b (rfC z c bk ep at') 85::R:=by
 refine zGz zk93 Tryz.func93 ?_;intro G;(repeat'(first|refine zA ?_;repeat intro nb|refine zB ?_ ?_<;>intro hc<;>try exact no hc|refine zH ?_ ?_<;>(intro hg;rw[hg];try exact no hg)));all_goals try refine zO fun a w F M=>?_
 all_goals refine zE F M ?_
 all_goals exact⟨_,_,rfl,⟨rfl,rfl⟩,M.perms permsA⟩
theorem racp_spec (b:Nat) (z:RH) (c:Cfg) (bk ep at' k i d:Int) (R:List Asn):Spec 142 [ptr b,.int .i64 k,.int .i64 i,.int .i64 d] (pt b (rfC z c bk ep at') 85::R) fun u L'=>u=rcV ⟨k,0,i,bk,ep,d,0,[],[]⟩ nilH nilH∧L'=pt b (rfC z c bk ep at') 85::R:=by
 refine zGz zk142 Tryz.func142 ?_;intro G;(repeat'(first|refine zA ?_;repeat intro nb|refine zB ?_ ?_<;>intro hc<;>try exact no hc|refine zH ?_ ?_<;>(intro hg;rw[hg];try exact no hg)));all_goals try refine zO fun a w F M=>?_
 all_goals refine zE F M ?_
 all_goals exact⟨_,_,rfl,⟨rfl,rfl⟩,M.perms permsA⟩
def rcR (c:Cfg) (s:St) (k:Int) (r:Rs):Rc:=⟨k,r.c,r.ix,s.bk,epo c s,r.dl,0,[],[]⟩
end
section
open Go.RowKit
def mapTo (f:Val→Val) (V:List Val) (k:Nat):List Val:=(V.take k).map f++V.drop k
theorem mapTo_zero (f:Val→Val) (V:List Val):mapTo f V 0=V:=by simp[mapTo]
theorem mapTo_all (f:Val→Val) (V:List Val):mapTo f V V.length=V.map f:=by simp[mapTo]
theorem mapTo_len (f:Val→Val) (V:List Val) (k:Nat):(mapTo f V k).length=V.length:=by simp[mapTo];omega
theorem mapTo_at (f:Val→Val) {V:List Val} {k:Nat} {v:Val} (h:V[k]? = some v):(mapTo f V k)[k]? = some v:=by
 have hk:=(List.getElem?_eq_some_iff.1 h).1
 unfold mapTo
 rw[List.getElem?_append_right (by simp;omega),List.length_map,List.length_take,Nat.min_eq_left (by omega),Nat.sub_self,List.getElem?_drop,Nat.add_zero,h]
theorem mapTo_step (f:Val→Val) {V:List Val} {k:Nat} {v:Val} (h:V[k]? = some v):mapTo f V (k+1)=(mapTo f V k).set k (f v):=by
 have hk:=(List.getElem?_eq_some_iff.1 h).1
 unfold mapTo
 rw[drop_cons h,List.set_append_right _ _ (by simp;omega),List.length_map,List.length_take,Nat.min_eq_left (by omega),Nat.sub_self,List.set_cons_zero,List.take_add_one,h]
 simp
theorem mapTo_same (f:Val→Val) {V:List Val} {k:Nat} {v:Val} (h:V[k]? = some v) (hf:f v=v):mapTo f V (k+1)=mapTo f V k:=by
 rw[mapTo_step f h,hf]
 have h2:=mapTo_at f h
 apply List.ext_getElem?
 intro i
 rw[List.getElem?_set]
 by_cases hi:k=i
 ·subst hi
  rw[if_pos rfl,h2,if_pos (List.getElem?_eq_some_iff.1 h2).1]
 ·rw[if_neg hi]
theorem lv_map {c:Cfg} (hc:CfOk c) {s:St} (h:Inv c s) {e:Int} (he1:epo c s=e - 1):mods set4 s.V s.lv=s.V.map (leaveV e):=by
 have hep:=epo_range hc (s:=s) (by have:=h.bk;omega)
 have hval:=h.val
 rw[he1] at hval
 refine mods_map _ _ h.lv.nd (fun i hi v hv=>?_) fun i v hv hi=>?_
 ·obtain ⟨v',hv',hl⟩:=(h.lv.mem i).1 hi
  rw[hv] at hv';cases hv'
  have q:=(hval i v hv).e3
  unfold leave' at hl
  unfold set4 leaveV
  rw[if_pos (by omega)]
 ·unfold leaveV
  rw[if_neg]
  intro hh
  exact hi ((h.lv.mem i).2 ⟨v,hv,by unfold leave';omega⟩)
theorem rp_map {c:Cfg} (hc:CfOk c) {s:St} (h:Inv c s) {e:Int} (he1:epo c s=e - 1):mods (dueV e) (s.V.map (leaveV e)) ((s.bo.filter fun x=>decide (x.1=e)).map (·.2))=(s.V.map (leaveV e)).map (ripeV e):=by
 have hep:=epo_range hc (s:=s) (by have:=h.bk;omega)
 have hval:=h.val
 have hbw:=h.bw
 rw[he1] at hval hbw
 have ndp:=(due_parts s.bo e).nodup_iff.1 h.bo.nd
 have dn:=(List.nodup_append.1 ndp).2.1
 have e1:∀ i:Nat,(s.V.map (leaveV e))[i]? = (s.V[i]?).map (leaveV e):=fun i=>List.getElem?_map ..
 refine mods_map _ _ dn (fun i hi v hv=>?_) fun i v hv hi=>?_
 ·obtain ⟨x,hx,rfl⟩:=List.mem_map.1 hi
  obtain ⟨u,hu,hbv⟩:=(h.bo.mem x.2).1 (List.mem_map.2 ⟨x,(List.mem_filter.1 hx).1,rfl⟩)
  rw[e1,hu] at hv
  obtain rfl:=Option.some.inj hv
  have q:=(hval _ u hu).e3
  have h4:(leaveV e u).st=4:=by
   unfold bond' at hbv
   unfold leaveV
   by_cases h3:u.st=3∧u.ex=e
   ·rw[if_pos h3]
   ·rw[if_neg h3];omega
  unfold dueV ripeV
  by_cases hw:e<(leaveV e u).wd
  ·rw[if_pos hw,if_neg (by omega)]
  ·rw[if_neg hw,if_pos (by omega)]
 ·rw[e1] at hv
  obtain ⟨u,hu,rfl⟩:=Option.map_eq_some_iff.1 hv
  unfold ripeV
  rw[if_neg]
  rintro⟨q1,q2⟩
  have hw:=leaveV_wd e u
  have q3:=(hval i u hu).e3
  have hbu:bond' u:=by
   unfold bond'
   unfold leaveV at q1
   by_cases h3:u.st=3∧u.ex=e
   ·omega
   ·rw[if_neg h3] at q1;omega
  obtain ⟨x,hx,rfl⟩:=List.mem_map.1 ((h.bo.mem i).2 ⟨u,hu,hbu⟩)
  have q4:=(hbw x hx).1
  have q5:=(hbw x hx).2 u hu
  have q6:x.1=e:=by omega
  exact hi (List.mem_map.2 ⟨x,List.mem_filter.2 ⟨hx,by simpa using q6⟩,rfl⟩)
section
variable (b:Nat) (z:RH) (c:Cfg) (R:List Asn)
theorem revent_spec (bk ep at':Int) (V:List Val) (hl:V.length≤1000000) (i:Nat) (v:Val) (e:Int) (hv:V[i]? = some v):Spec 218 [ptr b,.int .i64 i,.int .i64 e] (pt b (rfC z c bk ep at') 85::roT valL 7 (sl z.hV) V::R) fun u L'=>∃ h,u=.tuple #[]∧L'=pt b (rfC {z with hV:=h} c bk ep at') 85::roT valL 7 (sl h) (V.set i {v with st:=nextF v.st e})::R:=by
 have hil:i<V.length:=(List.getElem?_eq_some_iff.1 hv).1
 have hnx:=fun R=>rnext_spec R v.st e
 have hpt:=fun (R:List Asn) hg=>rput_spec V (sl z.hV) R hg hl i {v with st:=nextF v.st e} v hv
 generalize nextF v.st e=n at *
 obtain ⟨bal,st,slz,rq,ex,wd,dl⟩:=v
 simp only at hnx hpt
 refine zGz zk218 Tryz.func218 ?_;intro G;(repeat'(first|refine zA ?_;repeat intro nb|refine zC ?_;(first|refine kpW (k:=210) (hnx _) ?_|refine acW (k:=146) (hpt _ ?_) ?_;exact gsA;rintro u L' ⟨h1,rfl,rfl⟩)|refine zB ?_ ?_<;>intro hc<;>try exact no hc|refine zH ?_ ?_<;>(intro hg;rw[hg];try exact no hg)));all_goals try refine zO fun a w F M=>?_
 all_goals refine zE F M ?_
 have M2:=M.roP (v:=sl h1) pullA
 exact⟨_,_,rfl,⟨h1,rfl,rfl⟩,M2.perms permsA⟩
end
end
section
open Go.RowKit
section
variable (b:Nat) (z:RH) (c:Cfg) (R:List Asn)
variable (s:St)
variable {V1 V2 V3 V4 V5:List Val} {ch:Int} {T:Nat × Int} {n:Nat} {E2:List En}
theorem rbwalk (hc:CfOk c) (f:BdF c s (epo c s) V1 V2 V3 V4 V5 ch T n E2) (hv1:s.V.map (leaveV (epo c s))=V1) (hv2:V1.map (ripeV (epo c s))=V2) :
  Spec 152 [ptr b] (refL b z c s R) fun u L'=>∃ ha z',u=sl ha∧L'=ownT 75 asgL 3 (sl ha) (boundM c s).ag::refL b z' c (boundM c s).s R:=by
 rw[f.bd]
 simp only
 have hqs:=hc.qs
 have hel:=hc.el
 have hme:=hc.me
 have hqu:=hc.qu
 have hun:=hc.un
 obtain ⟨he0,hepo,hb,g0,g1,g2,g3,g4,g5,lvn,lvl,lv3,m1,bl,dn,ds,m2,e2,e2l,hch,ch0,hT,hca,xn,x3,xl,m3,hn,pn,pl,p1,m4,ml,m5,l5,bd⟩:=f
 clear bd dn ds m1 m2 e2 e2l bl lv3 lvl lvn hepo hb
 have hl0:s.V.length≤4096:=g0.len
 have hl1:V1.length=s.V.length:=by rw[← hv1,List.length_map]
 have hl2:V2.length=s.V.length:=by rw[← hv2,List.length_map,hl1]
 have hav:=actv_le V2 g2.bal0
 have hsm2:=g2.sum
 have hac:=fun (h:SlH) (R:List Asn) hg=>ractive_spec V2 (sl h) R hg (by omega) g2.bal0 (by omega)
 have hcn:=fun R=>rchurn_spec R (actv V2) c.minChurn c.quotient ⟨hav.1,by omega⟩ hqu
 rw[show max c.minChurn (actv V2 / c.quotient)=ch from hch] at hcn
 have hfl:s.fo.length+s.vo.length≤4096:=by rw[← List.length_append];exact xl
 have hchu:U64 ch:=by
  have h3:0≤actv V2 / c.quotient:=Int.ediv_nonneg hav.1 (by omega)
  have h4:actv V2 / c.quotient≤actv V2:=Int.ediv_le_self _ hav.1
  have h5:=hc.mc
  rw[← hch];unfold churn
  exact⟨by omega,by omega⟩
 have hb2:=fun (h:SlH) (R:List Asn) hg=>rbals_spec V2 (sl h) R hg (by omega)
 have hst:=fun (h:SlH) (R:List Asn) hg=>rastep_spec z.ln z.mt (qS c) (bals V2) (sl h) R hg g2.u64 s.fo s.vo (by omega) (by omega) s.ca ch (epo c s) hca hchu ⟨he0.1,by omega⟩
 have hTl:=takeW_le (bals V2) (s.fo++s.vo) (granted s.ca ch)
 rw[hT] at hst hTl
 have hAl:=asgs_len (epo c s+1) s.fo s.vo T.1 hTl
 have hAt:=fun j i=>asgs_at (epo c s+1) s.fo s.vo T.1 j i hTl
 obtain ⟨ix,hix⟩:∃ ix,(s.fo++s.vo).take T.1=ix:=⟨_,rfl⟩
 have hixl:ix.length=T.1:=by rw[← hix,List.length_take];omega
 have hixn:ix.Nodup:=by rw[← hix];exact xn.sublist (List.take_sublist _ _)
 have hixs:∀ i∈ix,∃ v,V2[i]? = some v∧v.st=3∧v.ex = -1:=fun i hi=>x3 i (List.mem_of_mem_take (hix ▸ hi))
 rw[hix] at hAt m3 ⊢
 obtain ⟨A,hA⟩:∃ A,asgs (epo c s+1) s.fo s.vo T.1=A:=⟨_,rfl⟩
 rw[hA] at hAl hAt ⊢
 simp only[hA] at hst
 have hga:∀ v,G1 v→G1 (setAsg c (epo c s+1) v):=fun v h=>⟨h.b,h.st,h.rq,⟨by simp only[setAsg];omega,by simp only[setAsg];omega⟩,⟨by have:=h.wd;simp only[setAsg];omega,by have:=h.wd;simp only[setAsg];omega⟩,h.dl⟩
 have hl3:V3.length=s.V.length:=by rw[← m3,mods_len,hl2]
 have hb3:=fun (h:SlH) (R:List Asn) hg=>rbals_spec V3 (sl h) R hg (by omega)
 have hl4:V4.length=s.V.length:=by rw[← m4,mods_len,hl3]
 have hms:=fun (h1:SlH) (R:List Asn) hg1 hg2=>rmstep_spec V4 (sl h1) R hg1 (by omega) c hc (sl z.hM) s.me hg2 ml (by omega) g4.u64v
 rw[m5] at hms
 have hnl:=actN_le (bals V3) ch s.pe
 rw[hn] at hnl
 obtain ⟨mg,hmg⟩:∃ mg:Nat,c.merges=mg:=⟨c.merges.toNat,by omega⟩
 obtain ⟨m,hm⟩:∃ m,min s.me.length mg=m:=⟨_,rfl⟩
 have e2:(if c.merges<(s.me.length:Int) then c.merges else (s.me.length:Int))=(m:Int):=by rw[hmg];split<;>omega
 have hdr:s.me.drop c.merges.toNat=s.me.drop m:=by
  rw[hmg,Int.toNat_natCast]
  by_cases h:mg≤s.me.length
  ·rw[show m=mg by omega]
  ·rw[List.drop_eq_nil_of_le (by omega),List.drop_eq_nil_of_le (by omega)]
 rw[hdr]
 generalize (if T.1=(s.fo++s.vo).length then 0 else T.2)=CA at *
 generalize s.fo.drop T.1=fo2 at *
 generalize s.vo.drop (T.1 - s.fo.length)=vo2 at *
 intro G w M
 have hhP:=ro_h (M.perms (permsA:Perms _ (roT natL 1 (sl z.hP) s.pe::(R++G))))
 have hhM:=ro_h (M.perms (permsA:Perms _ (roT prL 2 (sl z.hM) s.me::(R++G))))
 have hat:=fun (h:SlH) (R:List Asn) hg hgl=>ractn_spec (bals V3) (sl h) R hg g3.u64 s.pe z.hP hgl (by omega) hhP.2.1 ch hchu
 rw[hn] at hat
 (refine zGe Tryz.func152 ?_;intro a F;(try simp only[zc,zn] at M))
 (try refine zI zk152 F M ?_;clear F M a;try clear w);(repeat'(first|refine zA ?_;repeat intro nb|refine zB ?_ ?_<;>intro hc<;>try exact no hc|refine zH ?_ ?_<;>(intro hg;rw[hg];try exact no hg)));all_goals try refine zO fun a w F M=>?_
 refine svLoop F M ((0,z.hV):Nat × SlH) (fun y=>[(3,.int .i64 y.1)]) (fun y=>[pt b (rfC {z with hV:=y.2} c s.bk (epo c s) s.at') 85,roT valL 7 (sl y.2) (mapTo (leaveV (epo c s)) s.V y.1)]) (fun y=>y.1≤s.V.length) (fun y=>s.V.length - y.1) [] (Nat.zero_le _) ?_ (hR:=by simp only[mapTo_zero];(repeat (first|exact Pulls.nil|(apply Pulls.cons;(focus ((repeat (first|exact Pull.here|apply Pull.there));done))))))
 (rintro⟨k,h1⟩ q1 a w F M;(try simp only[zc,zn] at F M q1 ⊢))
 have hml:=mapTo_len (leaveV (epo c s)) s.V k
 by_cases hk:k<s.V.length
 ·obtain ⟨v,hv⟩:∃ v,s.V[k]? = some v:=⟨s.V[k],by simp[hk]⟩
  have hvk:=mapTo_at (leaveV (epo c s)) hv
  have hev:=fun R=>revent_spec b {z with hV:=h1} c R s.bk (epo c s) s.at' _ (by omega) k v 3 hvk
  by_cases hp:v.st=3∧v.ex=epo c s
  ·have e:leaveV (epo c s) v={v with st:=4}:=by unfold leaveV;rw[if_pos hp]
   have hs:=mapTo_step (leaveV (epo c s)) hv
   rw[e] at hs
   obtain ⟨bal,st,slz,rq,ex,wd,dl⟩:=v
   simp only at hp hev hs
   obtain ⟨rfl,hp2⟩:=hp
   rw[show nextF 3 3=4 from rfl,← hs] at hev
   (try refine zI zk152 F M ?_;clear F M a;try clear w);(repeat'(first|refine zA ?_;repeat intro nb|refine zC ?_;refine acK (k:=218) (hev _) ?_;rintro u L' ⟨h2,rfl,rfl⟩|refine zB ?_ ?_<;>intro hc<;>try exact no hc|refine zH ?_ ?_<;>(intro hg;rw[hg];try exact no hg)));all_goals try refine zO fun a w F M=>?_
   exact sv_again F M (k+1,h2) kpA permsA (by simp only;omega) (by simp only;omega)
  ·have e:leaveV (epo c s) v=v:=by unfold leaveV;rw[if_neg hp]
   have hs:=mapTo_same (leaveV (epo c s)) hv e
   rw[← hs] at M
   obtain ⟨bal,st,slz,rq,ex,wd,dl⟩:=v
   simp only at hp
   have hvk2:(mapTo (leaveV (epo c s)) s.V (k+1))[k]? = some ⟨bal,st,slz,rq,ex,wd,dl⟩:=by rw[hs];exact hvk
   have hml2:=mapTo_len (leaveV (epo c s)) s.V (k+1)
   by_cases h3:st=3
   ·subst h3
    have hex:¬ex=epo c s:=fun h=>hp ⟨rfl,h⟩
    (try refine zI zk152 F M ?_;clear F M a;try clear w);(repeat'(first|refine zA ?_;repeat intro nb|refine zC ?_;refine acK (k:=218) (hev _) ?_;rintro u L' ⟨h2,rfl,rfl⟩|refine zB ?_ ?_<;>intro hc<;>try exact no hc|refine zH ?_ ?_<;>(intro hg;rw[hg];try exact no hg)));all_goals try refine zO fun a w F M=>?_
    exact sv_again F M (k+1,h1) kpA permsA (by simp only;omega) (by simp only;omega)
   ·have d3:decide (st=3)=false:=by simpa using h3
    (try refine zI zk152 F M ?_;clear F M a;try clear w);(repeat'(first|refine zA ?_;repeat intro nb|refine zC ?_;refine acK (k:=218) (hev _) ?_;rintro u L' ⟨h2,rfl,rfl⟩|refine zB ?_ ?_<;>intro hc<;>try exact no hc|refine zH ?_ ?_<;>(intro hg;rw[hg];try exact no hg)));all_goals try refine zO fun a w F M=>?_
    try rw[d3]
    (try refine zI zk152 F M ?_;clear F M a;try clear w);(repeat'(first|refine zA ?_;repeat intro nb|refine zC ?_;refine acK (k:=218) (hev _) ?_;rintro u L' ⟨h2,rfl,rfl⟩|refine zB ?_ ?_<;>intro hc<;>try exact no hc|refine zH ?_ ?_<;>(intro hg;rw[hg];try exact no hg)));all_goals try refine zO fun a w F M=>?_
    exact sv_again F M (k+1,h1) kpA permsA (by simp only;omega) (by simp only;omega)
 obtain rfl:k=s.V.length:=by omega
 rw[mapTo_all,hv1] at M hml
 (try refine zI zk152 F M ?_;clear F M a;try clear w);(repeat'(first|refine zA ?_;repeat intro nb|refine zB ?_ ?_<;>intro hc<;>try exact no hc|refine zH ?_ ?_<;>(intro hg;rw[hg];try exact no hg)));all_goals try refine zO fun a w F M=>?_
 refine svLoop F M ((0,h1):Nat × SlH) (fun y=>[(5,.int .i64 y.1)]) (fun y=>[pt b (rfC {z with hV:=y.2} c s.bk (epo c s) s.at') 85,roT valL 7 (sl y.2) (mapTo (ripeV (epo c s)) V1 y.1)]) (fun y=>y.1≤V1.length) (fun y=>V1.length - y.1) [] (Nat.zero_le _) ?_ (hR:=by simp only[mapTo_zero];(repeat (first|exact Pulls.nil|(apply Pulls.cons;(focus ((repeat (first|exact Pull.here|apply Pull.there));done))))))
 (rintro⟨k,h1⟩ q1 a w F M;(try simp only[zc,zn] at F M q1 ⊢))
 have hml:=mapTo_len (ripeV (epo c s)) V1 k
 by_cases hk:k<V1.length
 ·obtain ⟨v,hv⟩:∃ v,V1[k]? = some v:=⟨V1[k],by simp[hk]⟩
  have hvk:=mapTo_at (ripeV (epo c s)) hv
  have hev:=fun R=>revent_spec b {z with hV:=h1} c R s.bk (epo c s) s.at' _ (by omega) k v 4 hvk
  by_cases hp:v.st=4∧v.wd≤epo c s
  ·have e:ripeV (epo c s) v={v with st:=5}:=by unfold ripeV;rw[if_pos hp]
   have hs:=mapTo_step (ripeV (epo c s)) hv
   rw[e] at hs
   obtain ⟨bal,st,slz,rq,ex,wd,dl⟩:=v
   simp only at hp hev hs
   obtain ⟨rfl,hp2⟩:=hp
   rw[show nextF 4 4=5 from rfl,← hs] at hev
   (try refine zI zk152 F M ?_;clear F M a;try clear w);(repeat'(first|refine zA ?_;repeat intro nb|refine zC ?_;refine acK (k:=218) (hev _) ?_;rintro u L' ⟨h2,rfl,rfl⟩|refine zB ?_ ?_<;>intro hc<;>try exact no hc|refine zH ?_ ?_<;>(intro hg;rw[hg];try exact no hg)));all_goals try refine zO fun a w F M=>?_
   exact sv_again F M (k+1,h2) kpA permsA (by simp only;omega) (by simp only;omega)
  ·have e:ripeV (epo c s) v=v:=by unfold ripeV;rw[if_neg hp]
   have hs:=mapTo_same (ripeV (epo c s)) hv e
   rw[← hs] at M
   obtain ⟨bal,st,slz,rq,ex,wd,dl⟩:=v
   simp only at hp
   have hvk2:(mapTo (ripeV (epo c s)) V1 (k+1))[k]? = some ⟨bal,st,slz,rq,ex,wd,dl⟩:=by rw[hs];exact hvk
   have hml2:=mapTo_len (ripeV (epo c s)) V1 (k+1)
   by_cases h3:st=4
   ·subst h3
    have hex:¬wd≤epo c s:=fun h=>hp ⟨rfl,h⟩
    (try refine zI zk152 F M ?_;clear F M a;try clear w);(repeat'(first|refine zA ?_;repeat intro nb|refine zC ?_;refine acK (k:=218) (hev _) ?_;rintro u L' ⟨h2,rfl,rfl⟩|refine zB ?_ ?_<;>intro hc<;>try exact no hc|refine zH ?_ ?_<;>(intro hg;rw[hg];try exact no hg)));all_goals try refine zO fun a w F M=>?_
    exact sv_again F M (k+1,h1) kpA permsA (by simp only;omega) (by simp only;omega)
   ·have d3:decide (st=4)=false:=by simpa using h3
    (try refine zI zk152 F M ?_;clear F M a;try clear w);(repeat'(first|refine zA ?_;repeat intro nb|refine zC ?_;refine acK (k:=218) (hev _) ?_;rintro u L' ⟨h2,rfl,rfl⟩|refine zB ?_ ?_<;>intro hc<;>try exact no hc|refine zH ?_ ?_<;>(intro hg;rw[hg];try exact no hg)));all_goals try refine zO fun a w F M=>?_
    try rw[d3]
    (try refine zI zk152 F M ?_;clear F M a;try clear w);(repeat'(first|refine zA ?_;repeat intro nb|refine zC ?_;refine acK (k:=218) (hev _) ?_;rintro u L' ⟨h2,rfl,rfl⟩|refine zB ?_ ?_<;>intro hc<;>try exact no hc|refine zH ?_ ?_<;>(intro hg;rw[hg];try exact no hg)));all_goals try refine zO fun a w F M=>?_
    exact sv_again F M (k+1,h1) kpA permsA (by simp only;omega) (by simp only;omega)
 obtain rfl:k=V1.length:=by omega
 rw[mapTo_all,hv2] at M hml
 replace M:=M.own_nil 75 3
 (try refine zI zk152 F M ?_;clear F M a;try clear w);(repeat'(first|refine zA ?_;repeat intro nb|refine zC ?_;(first|refine acW (k:=62) (hac _ _ ?_) ?_;exact gsA;rintro u L' ⟨rfl,rfl⟩|refine kpW (k:=219) (hcn _) ?_|refine acW (k:=212) (hb2 _ _ ?_) ?_;exact gsA;rintro u L' ⟨hw,rfl,rfl⟩|refine acK (L1:=rmtA z.mt s.ca::rlnA z.ln (qS c) s.fo s.vo::_) (k:=220) (hst hw _ ?_) ?_;exact gsA;rintro u L' ⟨ha,rfl,rfl⟩)|refine zB ?_ ?_<;>intro hc<;>try exact no hc|refine zH ?_ ?_<;>(intro hg;rw[hg];try exact no hg)));all_goals try refine zO fun a w F M=>?_
 refine svLoop F M ((0,h1,nilH):Nat × SlH × SlH) (fun y=>[(10,.int .i64 y.1),(8,sl y.2.2)]) (fun y=>[pt b (rfC {z with hV:=y.2.1} c s.bk (epo c s) s.at') 85,roT valL 7 (sl y.2.1) (mods (setAsg c (epo c s+1)) V2 (ix.take y.1)),ownT 75 asgL 3 (sl y.2.2) (A.take y.1)]) (fun y=>y.1≤ix.length) (fun y=>ix.length - y.1) [] (Nat.zero_le _) ?_ (hR:=by simp only[List.take_zero,mods,List.foldl_nil];(repeat (first|exact Pulls.nil|(apply Pulls.cons;(focus ((repeat (first|exact Pull.here|apply Pull.there));done))))))
 (rintro⟨k,h1,g1⟩ q1 a w F M;(try simp only[zc,zn] at F M q1 ⊢))
 by_cases hk:k<ix.length
 ·obtain ⟨i,hi⟩:∃ i,ix[k]? = some i:=⟨ix[k],by simp[hk]⟩
  obtain ⟨v,hv,hs3,hx1⟩:=hixs i (List.mem_of_getElem? hi)
  obtain ⟨cl,hAk⟩:=hAt k i hi
  obtain ⟨k1,k2⟩:=mods_step (setAsg c (epo c s+1)) hixn hi hv
  have hgv:=g2.ok i v hv
  have hpa:∀ R,Spec 221 [valV v,.int .i64 (epo c s+1),cfgV c] R fun u L'=>u=.tuple [valV (setAsg c (epo c s+1) v),.int .i64 0].toArray∧L'=R:=fun R=>rasg_spec v (epo c s+1) (by omega) R c (by omega) (by omega) hs3 hx1
  have hml:(mods (setAsg c (epo c s+1)) V2 (ix.take k)).length=V2.length:=mods_len ..
  have hpt:=fun (R:List Asn) hg=>rput_spec (mods (setAsg c (epo c s+1)) V2 (ix.take k)) (sl h1) R hg (by omega) i (setAsg c (epo c s+1) v) v k1
  rw[← k2] at hpt
  have hil:i<V2.length:=by have:=(List.getElem?_eq_some_iff.1 k1).1;omega
  have hAt2:A.take (k+1)=A.take k++[⟨i,cl,epo c s+1⟩]:=by rw[List.take_add_one,hAk];rfl
  have hkA:k<A.length:=by omega
  have htl:(A.take k).length≤4096:=by rw[List.length_take];omega
  clear hgv hv hs3 hx1 k2
  generalize setAsg c (epo c s+1) v=u at *
  obtain ⟨bal,st,slz,rq,ex,wd,dl⟩:=u
  obtain ⟨bal2,st2,slz2,rq2,ex2,wd2,dl2⟩:=v
  ((try(refine zI (⟨List.range 248,(zk152).d,[]⟩) F M ?_;clear F M a;(try clear w)));(repeat'(first|(refine zDL (id:=21) [17,18] [] [(17,[0])] [0,1,2,3,4,5,6,7,8,9,10,11,12,13,14,15,16,17,18] ?_)|with_reducible refine zQo ?_|(refine zA1 ?_;(repeat intro(nb:Nat)))|((refine zC ?_);((first|((refine acW (k:=221) (hpa _) ?_);rintro u L' ⟨rfl,rfl⟩)|(refine acW (k:=146) (hpt _ ?_) ?_;(exact gsA);rintro u L' ⟨h2,rfl,rfl⟩)|(refine ac_appendH (f:=asgL) (xs:=A.take k) (ys:=[⟨i,cl,epo c s+1⟩]) rfl rfl inferInstance rfl rfl pullA inferInstance gsA rfl rfl (by simp;omega) ?_;intro nv))))|(refine zB ?_ ?_<;>intro hc<;>(try exact no hc))|(refine zH ?_ ?_<;>(intro hg;rw[hg];(try exact no hg)))));(all_goals(try refine zO fun a w F M=>?_)))
  all_goals(rw[← hAt2] at M;have M2:=M.roP (v:=sl h2) pullA;exact sv_again F M2 (k+1,h2,nv) kpA permsA (by simp only;omega) (by simp only;omega))
 obtain rfl:k=ix.length:=by omega
 rw[List.take_length,m3,List.take_of_length_le (by omega)] at M
 (try refine zI zk152 F M ?_;clear F M a;try clear w);(repeat'(first|refine zA ?_;repeat intro nb|refine zC ?_;(first|refine acW (k:=212) (hb3 _ _ ?_) ?_;exact gsA;rintro u L' ⟨hw2,rfl,rfl⟩|refine acW (k:=222) (hat hw2 _ ?_ ?_) ?_;exact gsA;exact gsA;rintro u L' ⟨rfl,rfl⟩)|refine zB ?_ ?_<;>intro hc<;>try exact no hc|refine zH ?_ ?_<;>(intro hg;rw[hg];try exact no hg)));all_goals try refine zO fun a w F M=>?_
 refine svLoop F M ((0,h1):Nat × SlH) (fun y=>[(14,.int .i64 y.1)]) (fun y=>[pt b (rfC {z with hV:=y.2} c s.bk (epo c s) s.at') 85,roT valL 7 (sl y.2) (mods actV V3 (s.pe.take y.1))]) (fun y=>y.1≤n) (fun y=>n - y.1) [] (Nat.zero_le _) ?_ (hR:=by simp only[List.take_zero,mods,List.foldl_nil];(repeat (first|exact Pulls.nil|(apply Pulls.cons;(focus ((repeat (first|exact Pull.here|apply Pull.there));done))))))
 (rintro⟨k,h1⟩ q1 a w F M;(try simp only[zc,zn] at F M q1 ⊢))
 by_cases hk:k<n
 ·obtain ⟨i,hi⟩:∃ i,s.pe[k]? = some i:=⟨s.pe[k]'(by omega),by rw[List.getElem?_eq_getElem]⟩
  obtain ⟨v,hv,hs1⟩:=p1 i (List.mem_of_getElem? hi)
  obtain ⟨k1,k2⟩:=mods_step actV pn hi hv
  have hev:=fun R=>revent_spec b {z with hV:=h1} c R s.bk (epo c s) s.at' _ (by rw[mods_len];omega) i v 1 k1
  have e:{v with st:=nextF v.st 1} = actV v:=by rw[hs1];rfl
  have hil:i<V3.length:=by have:=(List.getElem?_eq_some_iff.1 k1).1;rw[mods_len] at this;exact this
  rw[e,← k2] at hev
  (try refine zI zk152 F M ?_;clear F M a;try clear w);(repeat'(first|refine zA ?_;repeat intro nb|refine zC ?_;refine acK (k:=218) (hev _) ?_;rintro u L' ⟨h2,rfl,rfl⟩|refine zB ?_ ?_<;>intro hc<;>try exact no hc|refine zH ?_ ?_<;>(intro hg;rw[hg];try exact no hg)));all_goals try refine zO fun a w F M=>?_
  exact sv_again F M (k+1,h2) kpA permsA (by simp only;omega) (by simp only;omega)
 obtain rfl:n=k:=by omega
 rw[m4] at M
 (try refine zI zk152 F M ?_;clear F M a;try clear w);(repeat'(first|refine zV (h:=⟨_,by((first|(exact rt_from (h:=z.hP) (k:=.i64) (j:=n) rfl rfl rfl inferInstance (by omega))|(exact rt_from (h:=z.hM) (k:=.i64) (j:=m) rfl rfl rfl inferInstance (by omega))|(exact rt_min2 rfl rfl e2))),?_⟩)|refine zA1 ?_;repeat intro(nb:Nat)|refine zC ?_;refine acW (k:=223) (hms h1 _ ?_ ?_) ?_;exact gsA;exact gsA;rintro u L' ⟨h3,v3,rfl,rfl⟩|refine zB ?_ ?_<;>intro hc<;>try exact no hc|refine zH ?_ ?_<;>(intro hg;rw[hg];try exact no hg)));all_goals try refine zO fun a w F M=>?_
 all_goals refine zE F M ?_
 all_goals have M2:=M.roP (v:=sl h3) pullA
 all_goals have M3:=Mem.roFrom (f:=natL) (k:=1) (h:=z.hP) (xs:=s.pe) inferInstance (M2.pull pullA) (j:=n) (by omega)
 all_goals have M4:=Mem.roFrom (f:=prL) (k:=2) (h:=z.hM) (xs:=s.me) inferInstance (M3.pull pullA) (j:=m) (by omega)
 all_goals exact⟨_,_,rfl,⟨g1,{z with hV:=h3,hP:=fromH z.hP n 1,hM:=fromH z.hM m 2},rfl,rfl⟩,M4.perms permsA⟩
theorem rboundary_spec (hc:CfOk c) (h:Inv c s) (hb:s.bk<1000000000) (hz:((s.bk+1:Nat):Int) % c.epochLen=0) (he1:epo c s=epo c {s with bk:=s.bk+1} - 1) :
  Spec 152 [ptr b] (refL b z c {s with bk:=s.bk+1} R) fun u L'=>∃ ha z',u=sl ha∧L'=ownT 75 asgL 3 (sl ha) (boundM c {s with bk:=s.bk+1}).ag::refL b z' c (boundM c {s with bk:=s.bk+1}).s R:=by
 obtain ⟨e,V1,V2,V3,V4,V5,ch,T,n,E2,f⟩:=bdF_of hc h hb hz
 obtain rfl:epo c {s with bk:=s.bk+1} = e:=f.hep
 have q1:=lv_map hc h he1
 have q2:=rp_map hc h he1
 have q3:=f.m1
 have q4:=f.m2
 simp only at q3 q4
 rw[q1] at q3
 rw[← q3,q2] at q4
 exact rbwalk b z c R _ hc f q3 (by rw[← q3];exact q4)
end
end
section
open Go.RowKit
section
variable {Q:Exit→Act→World→Prop} {a:Act} {w:World} {n:Nat} {l:List (Nat × Value)} {L:List Asn}
theorem svJoin {x y:Code} {σ:Type} (F:Fr a n l) (M:Mem w L) (s0:σ) (dl:σ→List (Nat × Value)) (dL0:List Asn) (dL:σ→List Asn) (Pf:σ→Prop) (fg:List Nat) {st:List (Nat × Value)} {R:List Asn}
  (h1:Fr a n l→Mem w L→x.wp Tryz.prog (Exit.then (fun a' w'=>∃ s,Fr a' n (dl s++st)∧Mem w' (dL s++R)∧Pf s) Q) a w)
  (h2:∀ s,Pf s→∀ a w,Fr a n (dl s++st)→Mem w (dL s++R)→y.wp Tryz.prog Q a w)
  (hs:restO (fg++slotsL (dl s0)) l=some st:=by exact rfl) (hR:Pulls L dL0 R:=by(first|(focus ((repeat (first|exact Pulls.nil|(apply Pulls.cons;(focus ((repeat (first|exact Pull.here|apply Pull.there));done)))));done))|fail)):(Code.seq x y).wp Tryz.prog Q a w :=
 wp_seq (wp_mono (h1 F M) fun e a w h=>by
  cases e with
  | normal=>obtain ⟨s,k1,k2,k3⟩:=h;exact h2 s k3 a w k1 k2
  | _=>exact h)
theorem svMeet {σ:Type} {lf:σ→List (Nat × Value)} {Lf:σ→List Asn} {Pf:σ→Prop} (F:Fr a n l) (M:Mem w L) (s':σ) (h0:∀ p∈lf s',look l p.1=some p.2) (hL:Perms L (Lf s')) (hP:Pf s') :
  ∃ s',Fr a n (lf s')∧Mem w (Lf s')∧Pf s':=⟨s',F.keep h0,M.perms hL,hP⟩
end
end
end Go.Proofs.YtjbfcacmdahnhaaGreat
