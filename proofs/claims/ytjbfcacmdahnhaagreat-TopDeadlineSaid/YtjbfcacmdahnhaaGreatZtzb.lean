import Derived.Test.YtjbfcacmdahnhaaGreatZtza
set_option linter.unusedVariables false
set_option linter.unusedSimpArgs false
set_option linter.unusedSectionVars false
set_option maxRecDepth 100000
set_option maxHeartbeats 8000000
namespace Go.Proofs.YtjbfcacmdahnhaaGreat
section
open Go.RowKit
section
variable (v:Value) (xs:List Int) (x:Int) (R:List Asn) (hg:GS R 1 v xs.length (xs.flatMap intL)) (hx:x∉xs)
include hg hx
theorem idx_no:Spec 94 [v,.int .i64 x] R fun u L'=>u=.int .i64 (-1)∧L'=R:=by
 refine zGo Tryz.func94 ?_;intro G w M a F
 have hG:GS (R++G) 1 v xs.length (xs.flatMap intL):=Gives.app hg
 have hlv:=hG.len_le M
 (try refine zI zk94 F M ?_;clear F M a;try clear w);(repeat'(first|refine zA ?_;repeat intro nb|refine zB ?_ ?_<;>intro hc<;>try exact no hc|refine zH ?_ ?_<;>(intro hg;rw[hg];try exact no hg)));all_goals try refine zO fun a w F M=>?_
 refine svLoop F M (0:Nat) (fun j=>[(8,.int .i64 j)]) (fun _=>[]) (fun j=>j≤xs.length) (fun j=>xs.length - j) [] (Nat.zero_le _) ?_
 (rintro j p1 a w F M;(try simp only[zc,zn] at F M p1 ⊢))
 by_cases hj:j<xs.length
 ·obtain ⟨y,hy⟩:∃ y,xs[j]? = some y:=⟨xs[j],by simp[hj]⟩
  have hne:x≠y:=fun e=>hx (e ▸ List.mem_of_getElem? hy)
  (try refine zI zk94 F M ?_;clear F M a;try clear w);(repeat'(first|refine zA ?_;repeat intro nb|refine zB ?_ ?_<;>intro hc<;>try exact no hc|refine zH ?_ ?_<;>(intro hg;rw[hg];try exact no hg)));all_goals try refine zO fun a w F M=>?_
  all_goals first|(exfalso;simp_all;done)|exact sv_again F M (j+1) kpA permsA (by omega) (by omega)
 obtain rfl:j=xs.length:=by omega
 (try refine zI zk94 F M ?_;clear F M a;try clear w);(repeat'(first|refine zA ?_;repeat intro nb|refine zB ?_ ?_<;>intro hc<;>try exact no hc|refine zH ?_ ?_<;>(intro hg;rw[hg];try exact no hg)));all_goals exact zXz
theorem cont_no:Spec 32 [v,.int .i64 x] R fun u L'=>u=.bool false∧L'=R:=by
 have hi:=fun (R:List Asn) hg=>idx_no v xs x R hg hx
 refine zGo Tryz.func32 ?_;intro G w M a F
 have hG:GS (R++G) 1 v xs.length (xs.flatMap intL):=Gives.app hg
 have hlv:=hG.len_le M
 (try refine zI zk32 F M ?_;clear F M a;try clear w);(repeat'(first|refine zA ?_;repeat intro nb|refine zC ?_;refine acW (k:=94) (hi _ ?_) ?_;exact gsA;rintro u L' ⟨rfl,rfl⟩|refine zB ?_ ?_<;>intro hc<;>try exact no hc|refine zH ?_ ?_<;>(intro hg;rw[hg];try exact no hg)));all_goals exact zXz
end
structure DeV (c:Cfg) (s:St) (q:HS) (p:Pr) (v:Val):Prop where
 hv:s.V[p.ix]? = some v
 rd:(getR p.ix q.recs).rd=true
 dl:(getR p.ix q.recs).ex.dl=p.dl
 ok:(getR p.ix q.recs).ex.sl = -1→p.la≤c.forcedCap→((getR p.ix q.recs).ex.pd≠-1∧(getR p.ix q.recs).ex.pd≤p.dl∧((getR p.ix q.recs).pays.filter (·.fl)).length=1)∧v.st=6∧v.bal=0∧(p.ix:Int)∉sortI (q.ord.filter fun i=>lateB q.ep (getR i q.recs).ex)
theorem deV_of {c:Cfg} (hc:CfOk c) {s:St} {q:HS} {k:Nat} {P:List Pr} (hk:LK c s q k) (hU:LU c P s q) {m:Int} (hm:(m+1)*c.epochLen≤(s.bk:Int)+1) {p:Pr} (hp:p∈P) (hpm:p.dl≤m):∃ v,DeV c s q p v:=by
 obtain ⟨b,v,A,hA⟩:=hU.pr p hp
 have hr:=hk.jv.of hA.hv
 have hel:=hc.el
 refine⟨v,hA.hv,?_,hA.dl,fun hs hl=>?_⟩
 ·rw[hr.rd]
  have:=hA.st
  simp;omega
 ·have hend:(p.dl+1)*c.epochLen≤(s.bk:Int)+1:=Int.le_trans (Int.mul_le_mul_of_nonneg_right (by omega) (by omega)) hm
  obtain ⟨k1,k2,k3,k4⟩:=deadline_ok hc hk.inv hk.jv hU.sw hA hend hs hl
  refine⟨k1,k2,k3,fun hmem=>?_⟩
  have:=(List.mem_filter.1 ((sortI_perm _).mem_iff.1 hmem)).2
  rw[k4] at this
  cases this
theorem fl_take {ps:List Pm} {j:Nat} {p:Pm} (h:ps[j]? = some p):((ps.take (j+1)).filter (·.fl)).length=((ps.take j).filter (·.fl)).length+(if p.fl=true then 1 else 0):=by
 rw[List.take_add_one,h,List.filter_append,List.length_append]
 simp only[Option.toList_some,List.filter_cons,List.filter_nil]
 split<;>simp
section
variable (c:Cfg) (v:Value) (l:List Opn) (R:List Asn) (hg:GS R 4 v l.length (l.flatMap opL)) (h0:0≤c.forcedCap) (h1:0≤c.penNum) (hwf:∀ o∈l,I64 o.k∧U64 o.am)
include hg h0 h1 hwf
theorem tdeadline_law:Spec 7 [cfgV c,v] R fun u L'=>u=.bool true∧L'=R:=by
 have hru:=fun R=>runs_spec R
 by_cases hF:Fit c l.length
 rotate_left
 ·have hft:=fun (R:List Asn) hg=>fits_no c v l R hg hF
  refine zGo Tryz.func7 ?_;intro G w M a F
  have hG:GS (R++G) 4 v l.length (l.flatMap opL):=Gives.app hg
  (try refine zI zk7 F M ?_;clear F M a;try clear w);(repeat'(first|refine zA ?_;repeat intro nb|refine zC ?_;(first|refine acW (k:=8) (hft _ ?_) ?_;exact gsA;rintro u L' ⟨rfl,rfl⟩|refine kpW (k:=9) (hru _) ?_)|refine zB ?_ ?_<;>intro hc<;>try exact no hc|refine zH ?_ ?_<;>(intro hg;rw[hg];try exact no hg)));all_goals try refine zO fun a w F M=>?_
  all_goals refine zE F M ?_
  exact⟨_,_,rfl,⟨rfl,rfl⟩,M.perms permsA⟩
 have hck:=hF.ck
 have hcf:CfOk c:=cfOk_of hck h0 h1
 have hnl:=hF.n
 have hsm:c.capacity≤100∧c.payments≤200:=⟨hF.ca,hF.py⟩
 have hft:=fun (R:List Asn) hg=>fits_yes c v l R hg hF
 by_cases hsc:c.supplyCap≤1099511627776
 rotate_left
 ·refine zGo Tryz.func7 ?_;intro G w M a F
  have hG:GS (R++G) 4 v l.length (l.flatMap opL):=Gives.app hg
  (try refine zI zk7 F M ?_;clear F M a;try clear w);(repeat'(first|refine zA ?_;repeat intro nb|refine zC ?_;(first|refine acW (k:=8) (hft _ ?_) ?_;exact gsA;rintro u L' ⟨rfl,rfl⟩|refine kpW (k:=9) (hru _) ?_)|refine zB ?_ ?_<;>intro hc<;>try exact no hc|refine zH ?_ ?_<;>(intro hg;rw[hg];try exact no hg)));all_goals try refine zO fun a w F M=>?_
  all_goals first|(exfalso;simp_all;done)|skip
  all_goals refine zE F M ?_
  all_goals exact⟨_,_,rfl,⟨rfl,rfl⟩,M.perms permsA⟩
 have hbg:=fun R=>tbegin_spec c hcf R hck
 have hpr:=fun (eb lb:Nat) R hg=>promises_spec c hcf hsm eb lb hsc v l hnl hwf R hg
 have hel:=hcf.el
 refine zGo Tryz.func7 ?_;intro G w M a F
 have hG:GS (R++G) 4 v l.length (l.flatMap opL):=Gives.app hg
 (try refine zI zk7 F M ?_;clear F M a;try clear w);(repeat'(first|refine zA ?_;repeat intro nb|refine zC ?_;(first|refine acW (k:=8) (hft _ ?_) ?_;exact gsA;rintro u L' ⟨rfl,rfl⟩|refine acW (k:=10) (hbg _) ?_;rintro u L' ⟨eb,lb,rfl,rfl⟩|refine acK (L1:=engB eb c St.ini::logA lb hs0::_) (k:=30) (hpr eb lb _ ?_) ?_;exact gsA;rintro u L' ⟨h,P,s1,q1,rfl,hD,rfl⟩)|refine zB ?_ ?_<;>intro hc<;>try exact no hc|refine zH ?_ ?_<;>(intro hg;rw[hg];try exact no hg)));all_goals try refine zO fun a w F M=>?_
 have hlp:=hD.pl
 refine svLoop F M ((0,0):Nat × Int) (fun z=>[(42,.int .i64 z.1),(8,.int .i64 z.2)]) (fun _=>[]) (fun z=>z.1≤P.length∧(0≤z.2∧z.2≤1099511627776)∧∀ p∈P.take z.1,p.dl≤z.2) (fun z=>P.length - z.1) [] ⟨Nat.zero_le _,by simp,by simp⟩ ?_
 (rintro⟨j,m⟩ ⟨p1,p2,p3⟩ a w F M;(try simp only[zc,zn] at F M p1 p2 p3 ⊢))
 by_cases hj:j<P.length
 ·obtain ⟨p,hp9⟩:∃ p,P[j]? = some p:=⟨P[j],by simp[hj]⟩
  have hdr:=hD.dl p (List.mem_of_getElem? hp9)
  have hnx:∀ x∈P.take (j+1),x.dl≤max m p.dl:=fun x hx=>by
   rw[List.take_add_one,hp9] at hx
   rcases List.mem_append.1 hx with hx|hx
   ·have:=p3 x hx;omega
   ·simp at hx;subst hx;omega
  obtain ⟨pi,pd,pl,pa⟩:=p
  simp only at hdr hnx
  (try refine zI zk7 F M ?_;clear F M a;try clear w);(repeat'(first|refine zV (h:=⟨_,by((apply rt_max2;(exact rfl);(exact rfl);(((show _=max m pd);(try dsimp only);split<;>omega)))),?_⟩)|refine zA1 ?_;repeat intro(nb:Nat)|refine zB ?_ ?_<;>intro hc<;>try exact no hc|refine zH ?_ ?_<;>(intro hg;rw[hg];try exact no hg)));all_goals try refine zO fun a w F M=>?_
  exact sv_again F M (j+1,max m pd) kpA permsA ⟨by simp only;omega,by simp only;omega,hnx⟩ (by simp only;omega)
 obtain rfl:j=P.length:=by omega
 rw[List.take_length] at p3
 have hme0:0≤m*c.epochLen:=Int.mul_nonneg (by omega) (by omega)
 have hme1:m*c.epochLen≤1099511627776*4096:=Int.mul_le_mul (by omega) (by omega) (by omega) (by omega)
 have hme2:(m+1)*c.epochLen=m*c.epochLen+c.epochLen:=by rw[Int.add_mul,Int.one_mul]
 by_cases hbig:3000<m*c.epochLen
 ·
  (try refine zI zk7 F M ?_;clear F M a;try clear w);(repeat'(first|refine zA ?_;repeat intro nb|refine zC ?_;refine kpW (k:=9) (hru _) ?_|refine zB ?_ ?_<;>intro hc<;>try exact no hc|refine zH ?_ ?_<;>(intro hg;rw[hg];try exact no hg)));all_goals try refine zO fun a w F M=>?_
  all_goals refine zE F M ?_
  exact⟨_,_,rfl,⟨rfl,rfl⟩,M.perms permsA⟩
 have hun:=fun R=>until_spec c hcf hsm eb lb hD.lk hD.lu m (by omega) (by omega) (by omega) R
 (try refine zI zk7 F M ?_;clear F M a;try clear w);(repeat'(first|refine zA ?_;repeat intro nb|refine zC ?_;refine acK (L1:=engB eb c s1::logA lb q1::_) (k:=31) (hun _) ?_;rintro u L' ⟨rfl,s2,q2,k2,hK,hk2,hU,hbk,rfl⟩|refine zB ?_ ?_<;>intro hc<;>try exact no hc|refine zH ?_ ?_<;>(intro hg;rw[hg];try exact no hg)));all_goals try refine zO fun a w F M=>?_
 have hcap:s2.V.length≤100:=by have:=hK.inv.cap;omega
 have hok:q2.ok:=fun i hi=>by
  obtain ⟨n,rfl,h2,h3⟩:=hK.fo.ok i hi
  exact⟨⟨by omega,by omega⟩,h3⟩
 have hlo:q2.ord.length≤100000:=by have:=hK.ol;omega
 have hlt:=fun R=>late_spec lb q2 hok hlo R
 have hde:=fun p hp=>deV_of hcf hK hU hbk (p:=p) hp (p3 p hp)
 have hlen:=List.length_filter_le (fun i=>lateB q2.ep (getR i q2.recs).ex) q2.ord
 refine svLoop F M (0:Nat) (fun j=>[(62,.int .i64 j)]) (fun _=>[]) (fun j=>j≤P.length) (fun j=>P.length - j) [] (Nat.zero_le _) ?_
 (rintro j r1 a w F M;(try simp only[zc,zn] at F M r1 ⊢))
 by_cases hj:j<P.length
 ·obtain ⟨p,hp9⟩:∃ p,P[j]? = some p:=⟨P[j],by simp[hj]⟩
  obtain ⟨x,d1,d2,d3,d4⟩:=hde p (List.mem_of_getElem? hp9)
  have hnl2:=(List.getElem?_eq_some_iff.1 d1).1
  have hle:=hK.le.p p.ix
  have hdr:=hD.dl p (List.mem_of_getElem? hp9)
  have hex:=fun R=>hexR lb q2 p.ix ⟨by omega,by omega⟩ R
  have hgt:=fun R=>getB eb c s2 R (by omega) p.ix x d1
  have hps:=fun R=>pays_spec lb q2 p.ix ⟨by omega,by omega⟩ (by omega) R
  unfold exOf at hex
  simp only[d2,if_true] at hex
  generalize sortI (q2.ord.filter fun i=>lateB q2.ep (getR i q2.recs).ex)=Lst at *
  obtain ⟨pi,pd,pl,pa⟩:=p
  simp only at d1 d2 d3 d4 hle hdr hex hgt hps hnl2
  generalize getR (pi:Int) q2.recs=r at *
  obtain ⟨⟨e1,e2,e3,e4,e5,e6,e7⟩,rd,ps,ra,rs,rf⟩:=r
  obtain ⟨x1,x2,x3,x4,x5,x6,x7⟩:=x
  simp only at d3 d4 hex hgt hps hle
  subst d3
  by_cases hc1:e5 = -1
  rotate_left
  ·(try refine zI zk7 F M ?_;clear F M a;try clear w);(repeat'(first|refine zA ?_;repeat intro nb|refine zC ?_;refine acK (L1:=logA lb q2::_) (k:=14) (hex _) ?_;rintro u L' ⟨rfl,rfl⟩|refine zB ?_ ?_<;>intro hc<;>try exact no hc|refine zH ?_ ?_<;>(intro hg;rw[hg];try exact no hg)));all_goals try refine zO fun a w F M=>?_
   all_goals first|(exfalso;simp_all;done)|exact sv_again F M (j+1) kpA permsA (by omega) (by omega)
  by_cases hc2:pl≤c.forcedCap
  rotate_left
  ·(try refine zI zk7 F M ?_;clear F M a;try clear w);(repeat'(first|refine zA ?_;repeat intro nb|refine zC ?_;refine acK (L1:=logA lb q2::_) (k:=14) (hex _) ?_;rintro u L' ⟨rfl,rfl⟩|refine zB ?_ ?_<;>intro hc<;>try exact no hc|refine zH ?_ ?_<;>(intro hg;rw[hg];try exact no hg)));all_goals try refine zO fun a w F M=>?_
   all_goals first|(exfalso;simp_all;done)|(exfalso;simp_all;omega)|exact sv_again F M (j+1) kpA permsA (by omega) (by omega)
  obtain ⟨⟨f1,f2,f3⟩,rfl,rfl,f6⟩:=d4 hc1 hc2
  subst hc1
  have hcn:=fun (v:Value) (R:List Asn) hg=>cont_no v Lst (pi:Int) R hg f6
  (try refine zI zk7 F M ?_;clear F M a;try clear w);(repeat'(first|refine zA ?_;repeat intro nb|refine zC ?_;(first|refine acK (L1:=logA lb q2::_) (k:=14) (hex _) ?_;rintro u L' ⟨rfl,rfl⟩|refine acK (L1:=engB eb c s2::_) (k:=19) (hgt _) ?_;rintro u L' ⟨rfl,rfl⟩|refine acK (L1:=logA lb q2::_) (k:=15) (hps _) ?_;rintro u L' ⟨hq,rfl,rfl⟩)|refine zB ?_ ?_<;>intro hc<;>try exact no hc|refine zH ?_ ?_<;>(intro hg;rw[hg];try exact no hg)));all_goals try refine zO fun a w F M=>?_
  refine svLoop F M ((0,0):Nat × Nat) (fun z=>[(107,.int .i64 z.1),(17,.int .i64 z.2)]) (fun _=>[]) (fun z=>z.1≤ps.length∧z.2=((ps.take z.1).filter (·.fl)).length) (fun z=>ps.length - z.1) [] ⟨Nat.zero_le _,by simp⟩ ?_
  (rintro⟨i,n⟩ ⟨t1,t2⟩ a w F M;(try simp only[zc,zn] at F M t1 t2 ⊢))
  by_cases hi:i<ps.length
  ·obtain ⟨y,hy⟩:∃ y,ps[i]? = some y:=⟨ps[i],by simp[hi]⟩
   have hft2:=fl_take hy
   have hnn:n≤i:=by
    have:=List.length_filter_le (fun p:Pm=>p.fl) (ps.take i)
    rw[List.length_take] at this;omega
   obtain ⟨yi,ya,yf⟩:=y
   cases yf with
   | false =>
    (try refine zI zk7 F M ?_;clear F M a;try clear w);(repeat'(first|refine zA ?_;repeat intro nb|refine zB ?_ ?_<;>intro hc<;>try exact no hc|refine zH ?_ ?_<;>(intro hg;rw[hg];try exact no hg)));all_goals try refine zO fun a w F M=>?_
    exact sv_again F M (i+1,n) kpA permsA ⟨by simp only;omega,by simp only;rw[hft2];simp[t2]⟩ (by simp only;omega)
   | true =>
    (try refine zI zk7 F M ?_;clear F M a;try clear w);(repeat'(first|refine zA ?_;repeat intro nb|refine zB ?_ ?_<;>intro hc<;>try exact no hc|refine zH ?_ ?_<;>(intro hg;rw[hg];try exact no hg)));all_goals try refine zO fun a w F M=>?_
    exact sv_again F M (i+1,n+1) kpA permsA ⟨by simp only;omega,by simp only;rw[hft2];simp[t2]⟩ (by simp only;omega)
  obtain rfl:i=ps.length:=by omega
  rw[List.take_length,f3] at t2
  subst t2
  (try refine zI zk7 F M ?_;clear F M a;try clear w);(repeat'(first|refine zA ?_;repeat intro nb|refine zC ?_;(first|refine acK (L1:=logA lb q2::_) (k:=33) (hlt _) ?_;rintro u L' ⟨hq3,rfl,rfl⟩|refine acW (k:=32) (hcn _ _ ?_) ?_;exact gs_own pullA;rintro u L' ⟨rfl,rfl⟩)|refine zB ?_ ?_<;>intro hc<;>try exact no hc|refine zH ?_ ?_<;>(intro hg;rw[hg];try exact no hg)));all_goals try refine zO fun a w F M=>?_
  exact sv_again F M (j+1) kpA permsA (by omega) (by omega)
 obtain rfl:j=P.length:=by omega
 (try refine zI zk7 F M ?_;clear F M a;try clear w);(repeat'(first|refine zA ?_;repeat intro nb|refine zC ?_;refine kpW (k:=9) (hru _) ?_|refine zB ?_ ?_<;>intro hc<;>try exact no hc|refine zH ?_ ?_<;>(intro hg;rw[hg];try exact no hg)));all_goals try refine zO fun a w F M=>?_
 all_goals refine zE F M ?_
 exact⟨_,_,rfl,⟨rfl,rfl⟩,M.perms permsA⟩
end
end
end Go.Proofs.YtjbfcacmdahnhaaGreat
