import Derived.Test.YtjbfcacmdahnhaaGreatZry
set_option linter.unusedVariables false
set_option linter.unusedSimpArgs false
set_option linter.unusedSectionVars false
set_option maxRecDepth 100000
set_option maxHeartbeats 8000000
namespace Go.Proofs.YtjbfcacmdahnhaaGreat
section
open Go.RowKit
structure RrZ where
 k:Nat
 h:SlH
 xs:List RcS
 s:St
theorem rrunB (b:Nat) (c:Cfg) (hcf:CfOk c) (s:St) (h:Inv c s) (v:Value) (l:List Opn) (hl:l.length≤100000) (hb:s.bk+l.length<1000000000) (hwf:∀ o∈l,I64 o.k∧U64 o.am) (R:List Asn) (hg:GS R 4 v l.length (l.flatMap opL)) :
  Spec 22 [ptr b,v] (refB b c s::R) fun u L'=>∃ hr xs,(u=sl hr∧xs.map (·.r)=(runM c s l).1)∧L'=ownT 39 rsL 9 (sl hr) xs::rsA xs::refB b c (runM c s l).2::R:=by
 obtain ⟨X,hX⟩:∃ X,runM c s l=X:=⟨_,rfl⟩
 rw[hX]
 refine zGo Tryz.func22 ?_;intro G w M a F
 have hG:GS (R++G) 4 v l.length (l.flatMap opL):=Gives.app hg
 have hlv:=(GS.tail (A:=refB b c s) hG).len_le M
 have M:=rs_nil (M.own_nil 39 9)
 (try refine zI zk22 F M ?_;clear F M a;try clear w);(repeat'(first|refine zA ?_;repeat intro nb|refine zB ?_ ?_<;>intro hc<;>try exact no hc|refine zH ?_ ?_<;>(intro hg;rw[hg];try exact no hg)));all_goals try refine zO fun a w F M=>?_
 refine svLoop F M (⟨0,nilH,[],s⟩:RrZ) (fun z=>[(6,.int .i64 z.k),(5,sl z.h)]) (fun z=>ownT 39 rsL 9 (sl z.h) z.xs::rsA z.xs::[refB b c z.s]) (fun z=>z.k≤l.length∧Inv c z.s∧z.s.bk≤s.bk+z.k∧z.xs.length=z.k∧z.xs.map (·.r)++(runM c z.s (l.drop z.k)).1=X.1∧(runM c z.s (l.drop z.k)).2=X.2) (fun z=>l.length - z.k) [] ⟨Nat.zero_le _,h,Nat.le_refl _,rfl,by simp[hX],by simp[hX]⟩ ?_ (hR:=by(repeat (first|exact Pulls.nil|(apply Pulls.cons;(focus ((repeat (first|exact Pull.here|apply Pull.there));done))))))
 (rintro⟨k,hh,xs,s'⟩ ⟨q1,q2,q3,q4,q5,q6⟩ a w F M;(try simp only[zc,zn] at F M q1 q2 q3 q4 q5 q6 ⊢))
 by_cases hk:k<l.length
 ·obtain ⟨o,ho⟩:∃ o,l[k]? = some o:=⟨l[k],by simp[hk]⟩
  obtain ⟨ho1,ho2⟩:=hwf o (List.mem_of_getElem? ho)
  rw[drop_cons ho,runM_cons] at q5 q6
  have hap:=fun R=>rapplyB b c s' hcf R q2 (by omega) o ho2
  obtain ⟨n1,n2⟩:=stepM_inv hcf q2 (by omega) o ho2
  obtain ⟨Y,hY⟩:∃ Y,stepM c s' o=Y:=⟨_,rfl⟩
  simp only[hY] at hap q5 q6 n1 n2
  obtain ⟨⟨x1,x2,x3,x4,x5,x6,x7,x8,x9⟩,s2⟩:=Y
  obtain ⟨ok,oi,ot,oa⟩:=o
  simp only at hap q5 q6 n1 n2
  (try refine zI zk22 F M ?_;clear F M a;try clear w);(repeat'(first|refine zA ?_;repeat intro nb|refine zC ?_;(first|refine acK (L1:=refB b c s'::_) (k:=27) (hap _) ?_;rintro u L' ⟨ha,hp,rfl,rfl⟩|refine ac_appendH (f:=rsL) (xs:=xs) (ys:=[⟨⟨x1,x2,x3,x4,x5,x6,x7,x8,x9⟩,ha,hp⟩]) rfl rfl inferInstance rfl rfl pullA inferInstance gsA rfl rfl (by simp;omega) ?_;intro nv)|refine zB ?_ ?_<;>intro hc<;>try exact no hc|refine zH ?_ ?_<;>(intro hg;rw[hg];try exact no hg)));all_goals try refine zO fun a w F M=>?_
  have M1:=rs_add (x:=⟨⟨x1,x2,x3,x4,x5,x6,x7,x8,x9⟩,ha,hp⟩) (xs:=xs) (L:=ownT 39 rsL 9 (sl nv) (xs++[⟨⟨x1,x2,x3,x4,x5,x6,x7,x8,x9⟩,ha,hp⟩])::refB b c s2::(R++G)) (M.perms permsA)
  clear M;have M:=M1;clear M1
  refine sv_again F M (⟨k+1,nv,xs++[⟨⟨x1,x2,x3,x4,x5,x6,x7,x8,x9⟩,ha,hp⟩],s2⟩:RrZ) kpA permsA ⟨by simp only;omega,n1,by simp only;omega,by simp[q4],?_,q6⟩ (by simp only;omega)
  rw[← q5];simp
 obtain rfl:k=l.length:=by omega
 rw[List.drop_length] at q5 q6
 simp only[runM,List.append_nil] at q5 q6
 subst q6
 (try refine zI zk22 F M ?_;clear F M a;try clear w);(repeat'(first|refine zA ?_;repeat intro nb|refine zB ?_ ?_<;>intro hc<;>try exact no hc|refine zH ?_ ?_<;>(intro hg;rw[hg];try exact no hg)));all_goals try refine zO fun a w F M=>?_
 all_goals refine zE F M ?_
 exact⟨_,_,rfl,⟨hh,xs,⟨rfl,q5⟩,rfl⟩,M.perms permsA⟩
structure RjK where
 k:Nat
 s:St
 q:HS
 q2:HS
 k2:Nat
section
variable (c:Cfg) (v:Value) (l:List Opn) (R:List Asn) (hg:GS R 4 v l.length (l.flatMap opL)) (h0:0≤c.forcedCap) (h1:0≤c.penNum) (hwf:∀ o∈l,I64 o.k∧U64 o.am)
include hg h0 h1 hwf
theorem trej_law:Spec 5 [cfgV c,v] R fun u L'=>u=.bool true∧L'=R:=by
 have hru:=fun R=>runs_spec R
 by_cases hF:Fit c l.length
 ·have hck:=hF.ck
  have hcf:CfOk c:=cfOk_of hck h0 h1
  have hnl:=hF.n
  have hsm:c.capacity≤100∧c.payments≤200:=⟨hF.ca,hF.py⟩
  have hft:=fun (R:List Asn) hg=>fits_yes c v l R hg hF
  have hbg:=fun R=>tbegin_spec c hcf R hck
  have hrn:=fun R=>rnewB c hcf R
  have hrr:=fun (b:Nat) R hg=>rrunB b c hcf St.ini (Inv.ini hcf) v l (by omega) (by show 0+l.length<_;omega) hwf R hg
  refine zGo Tryz.func5 ?_;intro G w M a F
  have hG:GS (R++G) 4 v l.length (l.flatMap opL):=Gives.app hg
  (try refine zI zk5 F M ?_;clear F M a;try clear w);(repeat'(first|refine zA ?_;repeat intro nb|refine zC ?_;(first|(fail_if_success(have h9:=eb));refine acW (k:=10) (hbg _) ?_;rintro u L' ⟨eb,lb,rfl,rfl⟩|refine acW (k:=10) (hbg _) ?_;rintro u L' ⟨eb2,lb2,rfl,rfl⟩|refine acW (k:=8) (hft _ ?_) ?_;exact gsA;rintro u L' ⟨rfl,rfl⟩)|refine zB ?_ ?_<;>intro hc<;>try exact no hc|refine zH ?_ ?_<;>(intro hg;rw[hg];try exact no hg)));all_goals try refine zO fun a w F M=>?_
  refine svLoop F M (⟨0,St.ini,hs0,hs0,0⟩:RjK) (fun z=>[(36,.int .i64 z.k)]) (fun z=>[engB eb c z.s,logA lb z.q,engB eb2 c z.s,logA lb2 z.q2]) (fun z=>z.k≤l.length∧LK0 c z.s z.q z.k∧LK0 c z.s z.q2 z.k2∧z.k2≤z.k∧z.s=(runM c St.ini (l.take z.k)).2) (fun z=>l.length - z.k) [] ⟨Nat.zero_le _,lk0_ini hcf,lk0_ini hcf,Nat.le_refl _,rfl⟩ ?_
  (rintro⟨k,s,q,q',k'⟩ ⟨p1,p2,p3,p4,p5⟩ a w F M;(try simp only[zc,zn] at F M p1 p2 p3 p4 p5 ⊢))
  by_cases hk:k<l.length
  ·obtain ⟨o,ho⟩:∃ o,l[k]? = some o:=⟨l[k],by simp[hk]⟩
   obtain ⟨ho1,ho2⟩:=hwf o (List.mem_of_getElem? ho)
   have hdo:=fun R=>tdo2 c hcf hsm eb lb p2 (by omega) o ho1 ho2 R
   have hdo2:=fun R=>tdo2 c hcf hsm eb2 lb2 p3 (by omega) o ho1 ho2 R
   have n1:=lk0_step hcf hsm p2 (by omega) o ho1 ho2
   have n2:=lk0_step hcf hsm p3 (by omega) o ho1 ho2
   have n3:(stepM c s o).2=(runM c St.ini (l.take (k+1))).2:=by rw[runM_take ho,← p5]
   have hrj:(stepM c s o).1.c≠0→_:=step_rej
   generalize stepM c s o=Y at *
   obtain ⟨⟨y1,y2,y3,y4,y5,y6,y7,y8,y9⟩,s2⟩:=Y
   obtain ⟨ok,oi,ot,oa⟩:=o
   simp only at hdo hdo2 n1 n2 n3 hrj
   by_cases hy:y2=0
   ·subst hy
    (try refine zI zk5 F M ?_;clear F M a;try clear w);(repeat'(first|refine zA ?_;repeat intro nb|refine zC ?_;(first|refine acK (L1:=engB eb c s::logA lb q::_) (k:=12) (hdo _) ?_;rintro u L' ⟨ha,hp,rfl,rfl⟩|refine acK (L1:=engB eb2 c s::logA lb2 q'::_) (k:=12) (hdo2 _) ?_;rintro u L' ⟨ha2,hp2,rfl,rfl⟩|refine acCall (k:=20) ?_;refine Spec.of_reads (rsame_self (x:=⟨y1,0,y3,y4,y5,y6,y7,y8,y9⟩) (sx:=ha2) (px:=hp2) (sy:=ha) (py:=hp) ⟨gsA,gsA⟩ ⟨gsA,gsA⟩) rfl ?_)|refine zB ?_ ?_<;>intro hc<;>try exact no hc|refine zH ?_ ?_<;>(intro hg;rw[hg];try exact no hg)));all_goals try refine zO fun a w F M=>?_
    all_goals exact sv_again F M (⟨k+1,s2,hAdd ok ⟨y1,0,y3,y4,y5,y6,y7,y8,y9⟩ q,hAdd ok ⟨y1,0,y3,y4,y5,y6,y7,y8,y9⟩ q',k'+1⟩:RjK) kpA permsA ⟨by simp only;omega,n1,n2,by simp only;omega,n3⟩ (by simp only;omega)
   ·obtain ⟨hss,rfl,rfl,rfl,rfl⟩:=hrj hy
    obtain rfl:s=s2:=hss.symm
    have dy:decide (y2=0)=false:=by simpa using hy
    (try refine zI zk5 F M ?_;clear F M a;try clear w);(repeat'(first|refine zA ?_;repeat intro nb|refine zC ?_;refine acK (L1:=engB eb c s::logA lb q::_) (k:=12) (hdo _) ?_;rintro u L' ⟨ha,hp,rfl,rfl⟩|refine zB ?_ ?_<;>intro hc<;>try exact no hc|refine zH ?_ ?_<;>(intro hg;rw[hg];try exact no hg)));all_goals try refine zO fun a w F M=>?_
    all_goals try rw[dy] at F
    all_goals try((try refine zI zk5 F M ?_;clear F M a;try clear w);(repeat'(first|refine zA ?_;repeat intro nb|refine zC ?_;refine acK (L1:=engB eb c s::logA lb q::_) (k:=12) (hdo _) ?_;rintro u L' ⟨ha,hp,rfl,rfl⟩|refine zB ?_ ?_<;>intro hc<;>try exact no hc|refine zH ?_ ?_<;>(intro hg;rw[hg];try exact no hg)));all_goals try refine zO fun a w F M=>?_)
    all_goals exact sv_again F M (⟨k+1,s,hAdd ok ⟨y1,y2,-1,y4,y5,-1,y7,[],[]⟩ q,q',k'⟩:RjK) kpA permsA ⟨by simp only;omega,n1,p3,by simp only;omega,n3⟩ (by simp only;omega)
  obtain rfl:k=l.length:=by omega
  rw[List.take_length] at p5
  subst p5
  have hsn:=fun R=>snapB eb c _ R hcf p2.inv
  have hsn2:=fun R=>snapB eb2 c _ R hcf p2.inv
  have hsm2:=fun (rb:Nat) (a1 a2 a3 a4 a5 a6:SlH) R=>same22B rb c _ hcf p2.inv a1 a2 a3 a4 a5 a6 R
  generalize (runM c St.ini l).2=s at *
  (try refine zI zk5 F M ?_;clear F M a;try clear w);(repeat'(first|refine zA ?_;repeat intro nb|refine zC ?_;(first|refine kpW (k:=9) (hru _) ?_|refine acW (k:=21) (hrn _) ?_;rintro u L' ⟨rb,rfl,rfl⟩|refine acK (L1:=refB rb c St.ini::_) (k:=22) (hrr rb _ ?_) ?_;exact gsA;rintro u L' ⟨hr,xs,⟨rfl,hxs⟩,rfl⟩|refine acK (L1:=engB eb c s::_) (k:=13) (hsn _) ?_;rintro u L' ⟨a1,a2,a3,a4,a5,a6,rfl,rfl⟩|refine acK (L1:=engB eb2 c s::_) (k:=13) (hsn2 _) ?_;rintro u L' ⟨b1,b2,b3,b4,b5,b6,rfl,rfl⟩|refine acK (L1:=snA s a1 a2 a3 a4 a5 a6::refB rb c s::_) (k:=23) (hsm2 rb a1 a2 a3 a4 a5 a6 _) ?_;rintro u L' ⟨rfl,rfl⟩|refine acK (L1:=snA s b1 b2 b3 b4 b5 b6::refB rb c s::_) (k:=23) (hsm2 rb b1 b2 b3 b4 b5 b6 _) ?_;rintro u L' ⟨rfl,rfl⟩)|refine zB ?_ ?_<;>intro hc<;>try exact no hc|refine zH ?_ ?_<;>(intro hg;rw[hg];try exact no hg)));all_goals try refine zO fun a w F M=>?_
  all_goals refine zE F M ?_
  exact⟨_,_,rfl,⟨rfl,rfl⟩,M.perms permsA⟩
 ·have hft:=fun (R:List Asn) hg=>fits_no c v l R hg hF
  refine zGo Tryz.func5 ?_;intro G w M a F
  have hG:GS (R++G) 4 v l.length (l.flatMap opL):=Gives.app hg
  (try refine zI zk5 F M ?_;clear F M a;try clear w);(repeat'(first|refine zA ?_;repeat intro nb|refine zC ?_;(first|refine acW (k:=8) (hft _ ?_) ?_;exact gsA;rintro u L' ⟨rfl,rfl⟩|refine kpW (k:=9) (hru _) ?_)|refine zB ?_ ?_<;>intro hc<;>try exact no hc|refine zH ?_ ?_<;>(intro hg;rw[hg];try exact no hg)));all_goals try refine zO fun a w F M=>?_
  all_goals refine zE F M ?_
  exact⟨_,_,rfl,⟨rfl,rfl⟩,M.perms permsA⟩
end
end
end Go.Proofs.YtjbfcacmdahnhaaGreat
