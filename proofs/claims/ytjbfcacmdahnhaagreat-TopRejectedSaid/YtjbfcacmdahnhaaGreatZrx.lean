import Derived.Test.YtjbfcacmdahnhaaGreatZrw
set_option linter.unusedVariables false
set_option linter.unusedSimpArgs false
set_option linter.unusedSectionVars false
set_option maxRecDepth 100000
set_option maxHeartbeats 8000000
namespace Go.Proofs.YtjbfcacmdahnhaaGreat
section
open Go.RowKit
section
variable (b:Nat) (z:RH) (c:Cfg) (s:St) (hc:CfOk c) (hi:Inv c s) (R:List Asn)
include hc hi
theorem rcons_spec (i j x:Int) (hx:U64 x):Spec 91 [ptr b,opV ⟨5,i,j,x⟩] (refL b z c s R) fun u L'=>∃ z',u=rcV (rcR c s 5 (opMerge c s i j)) nilH nilH∧L'=refL b z' c (opMerge c s i j).s R:=by
 obtain ⟨k1,k2,k3,k4,k5,k6⟩:=inv_sum c s hc hi
 have hl3:s.V.length≤4096:=by omega
 obtain ⟨l1,l2,l3,l4,l5⟩:=hi.ql
 have hqs:=hc.qs
 have hU:=merge_u64 c s hc hi
 have hck:=fun (i:Int) (R:List Asn) hg=>rpcheck_spec s.V (sl z.hV) R hg (by omega) i x
 have hrq:=fun (i j:Int) (R:List Asn) hg=>rmreq_spec s.V (sl z.hV) R hg (by omega) c hU i j
 unfold opMerge
 have hz:=fun (h:merR c s.V i j=0)=>merR_zero h
 obtain ⟨X,hX⟩:∃ X,merR c s.V i j=X:=⟨_,rfl⟩
 have hrX:=hrq i j
 simp only[hX] at hrX hz ⊢
 by_cases h0:X=0
 ·obtain ⟨y,zz,i0,j0,hne,hy,hz2,_⟩:=hz h0
  subst h0
  simp only[ne_eq,not_true_eq_false,if_false]
  obtain ⟨n,rfl⟩:∃ n:Nat,i=n:=⟨i.toNat,by omega⟩
  obtain ⟨m,rfl⟩:∃ m:Nat,j=m:=⟨j.toNat,by omega⟩
  simp only[Int.toNat_natCast]
  by_cases hq:c.queueSize≤s.me.length
  ·rw[if_pos hq]
   refine zGz zk91 Tryz.func91 ?_;intro G;(repeat'(first|refine zA ?_;repeat intro nb|with_reducible refine And.intro ?_ ?_<;>repeat intro nb|refine zC ?_;(first|refine acW (k:=150) (hck _ _ ?_) ?_;exact gsA;rintro u L' ⟨rfl,rfl⟩|refine acW (k:=151) (hrX _ ?_) ?_;exact gsA;rintro u L' ⟨rfl,rfl⟩|refine kp (k:=93) (rrej_spec b z c _ _ _ _ _ _) ?_)|refine zB ?_ ?_<;>intro hc<;>try exact no hc|refine zH ?_ ?_<;>(intro hg;rw[hg];try exact no hg)));all_goals try refine zO fun a w F M=>?_
   all_goals first|(exfalso;simp_all;done)|skip
   (all_goals(refine zE F M ?_;exact⟨_,_,rfl,⟨z,rfl,rfl⟩,M.perms permsA⟩))
  ·rw[if_neg hq]
   refine zGz zk91 Tryz.func91 ?_;intro G;(repeat'(first|refine zA ?_;repeat intro nb|with_reducible refine And.intro ?_ ?_<;>repeat intro nb|refine zC ?_;(first|refine acW (k:=150) (hck _ _ ?_) ?_;exact gsA;rintro u L' ⟨rfl,rfl⟩|refine acW (k:=151) (hrX _ ?_) ?_;exact gsA;rintro u L' ⟨rfl,rfl⟩|refine kp (k:=93) (rrej_spec b z c _ _ _ _ _ _) ?_|refine kp (k:=142) (racp_spec b {z with hM:=n2} c _ _ _ _ _ _ _) ?_|refine ac_appendE (f:=prL) (ys:=s.me) rfl rfl inferInstance rfl rfl pullA inferInstance gsA rfl rfl (by omega) ?_;intro n1|refine ac_appendH (f:=prL) (xs:=s.me) (ys:=[(n,m)]) rfl rfl inferInstance rfl rfl pullA inferInstance gsA rfl rfl (by simp;omega) ?_;intro n2)|refine zB ?_ ?_<;>intro hc<;>try exact no hc|refine zH ?_ ?_<;>(intro hg;rw[hg];try exact no hg)));all_goals try refine zO fun a w F M=>?_
   all_goals first|(exfalso;simp_all;done)|skip
   all_goals(refine zE F M ?_;(have M2:=M.roP (v:=sl n2) pullA);exact⟨_,_,rfl,⟨{z with hM:=n2},rfl,rfl⟩,M2.perms permsA⟩)
 ·rw[if_pos h0]
  have hd0:decide (X=0)=false:=by simpa using h0
  refine zGz zk91 Tryz.func91 ?_;intro G;(repeat'(first|refine zA ?_;repeat intro nb|with_reducible refine And.intro ?_ ?_<;>repeat intro nb|refine zC ?_;(first|refine acW (k:=150) (hck _ _ ?_) ?_;exact gsA;rintro u L' ⟨rfl,rfl⟩|refine acW (k:=151) (hrX _ ?_) ?_;exact gsA;rintro u L' ⟨rfl,rfl⟩|refine kp (k:=93) (rrej_spec b z c _ _ _ _ _ _) ?_)|refine zB ?_ ?_<;>intro hc<;>try exact no hc|refine zH ?_ ?_<;>(intro hg;rw[hg];try exact no hg)));all_goals try refine zO fun a w F M=>?_
  all_goals first
   | (refine zE F M ?_;exact⟨_,_,rfl,⟨z,rfl,rfl⟩,M.perms permsA⟩)
   | (exfalso;simp_all;done)
theorem rpart_spec (i j x:Int) (hx:U64 x):Spec 91 [ptr b,opV ⟨6,i,j,x⟩] (refL b z c s R) fun u L'=>∃ z',u=rcV (rcR c s 6 (opPart c s i x)) nilH nilH∧L'=refL b z' c (opPart c s i x).s R:=by
 obtain ⟨k1,k2,k3,k4,k5,k6⟩:=inv_sum c s hc hi
 have hl3:s.V.length≤4096:=by omega
 obtain ⟨l1,l2,l3,l4,l5⟩:=hi.ql
 have hqs:=hc.qs
 have hck:=fun (R:List Asn) hg=>rpcheck_spec s.V (sl z.hV) R hg (by omega) i x
 unfold opPart
 have hz:parC s.V i x=0→0≤i:=fun h=>by
  unfold parC at h
  split at h
  ·cases h
  ·omega
 obtain ⟨X,hX⟩:∃ X,parC s.V i x=X:=⟨_,rfl⟩
 simp only[hX] at hck hz ⊢
 by_cases h0:X=0
 ·have i0:=hz h0
  subst h0
  simp only[ne_eq,not_true_eq_false,if_false]
  obtain ⟨n,rfl⟩:∃ n:Nat,i=n:=⟨i.toNat,by omega⟩
  simp only[Int.toNat_natCast]
  by_cases hq:c.queueSize≤s.pa.length
  ·rw[if_pos hq]
   refine zGz zk91 Tryz.func91 ?_;intro G;(repeat'(first|refine zA ?_;repeat intro nb|with_reducible refine And.intro ?_ ?_<;>repeat intro nb|refine zC ?_;(first|refine acW (k:=150) (hck _ ?_) ?_;exact gsA;rintro u L' ⟨rfl,rfl⟩|refine kp (k:=93) (rrej_spec b z c _ _ _ _ _ _) ?_)|refine zB ?_ ?_<;>intro hc<;>try exact no hc|refine zH ?_ ?_<;>(intro hg;rw[hg];try exact no hg)));all_goals try refine zO fun a w F M=>?_
   all_goals first|(exfalso;simp_all;done)|skip
   (all_goals(refine zE F M ?_;exact⟨_,_,rfl,⟨z,rfl,rfl⟩,M.perms permsA⟩))
  ·rw[if_neg hq]
   refine zGz zk91 Tryz.func91 ?_;intro G;(repeat'(first|refine zA ?_;repeat intro nb|with_reducible refine And.intro ?_ ?_<;>repeat intro nb|refine zC ?_;(first|refine acW (k:=150) (hck _ ?_) ?_;exact gsA;rintro u L' ⟨rfl,rfl⟩|refine kp (k:=93) (rrej_spec b z c _ _ _ _ _ _) ?_|refine kp (k:=142) (racp_spec b {z with hQ:=n2} c _ _ _ _ _ _ _) ?_|refine ac_appendE (f:=rqL) (ys:=s.pa) rfl rfl inferInstance rfl rfl pullA inferInstance gsA rfl rfl (by omega) ?_;intro n1|refine ac_appendH (f:=rqL) (xs:=s.pa) (ys:=[(n,x)]) rfl rfl inferInstance rfl rfl pullA inferInstance gsA rfl rfl (by simp;omega) ?_;intro n2)|refine zB ?_ ?_<;>intro hc<;>try exact no hc|refine zH ?_ ?_<;>(intro hg;rw[hg];try exact no hg)));all_goals try refine zO fun a w F M=>?_
   all_goals first|(exfalso;simp_all;done)|skip
   all_goals(refine zE F M ?_;(have M2:=M.roP (v:=sl n2) pullA);exact⟨_,_,rfl,⟨{z with hQ:=n2},rfl,rfl⟩,M2.perms permsA⟩)
 ·rw[if_pos h0]
  have hd0:decide (X=0)=false:=by simpa using h0
  refine zGz zk91 Tryz.func91 ?_;intro G;(repeat'(first|refine zA ?_;repeat intro nb|with_reducible refine And.intro ?_ ?_<;>repeat intro nb|refine zC ?_;(first|refine acW (k:=150) (hck _ ?_) ?_;exact gsA;rintro u L' ⟨rfl,rfl⟩|refine kp (k:=93) (rrej_spec b z c _ _ _ _ _ _) ?_)|refine zB ?_ ?_<;>intro hc<;>try exact no hc|refine zH ?_ ?_<;>(intro hg;rw[hg];try exact no hg)));all_goals try refine zO fun a w F M=>?_
  all_goals first
   | (refine zE F M ?_;exact⟨_,_,rfl,⟨z,rfl,rfl⟩,M.perms permsA⟩)
   | (exfalso;simp_all;done)
end
end
end Go.Proofs.YtjbfcacmdahnhaaGreat
