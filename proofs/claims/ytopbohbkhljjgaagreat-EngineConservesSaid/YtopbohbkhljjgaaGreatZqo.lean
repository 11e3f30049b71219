import Derived.Test.YtopbohbkhljjgaaGreatZqn
set_option linter.unusedVariables false
set_option linter.unusedSimpArgs false
set_option maxRecDepth 100000
set_option maxHeartbeats 8000000
namespace Go.Proofs.YtopbohbkhljjgaaGreat
def zk130:List Nat:=[0,1,2,4,5,8,9,11,12,13,22,25,26,27,28,29,70,72,73,74,75,117]
section
open Go.RowKit
section
variable (c:Cfg) (v:Value) (l:List Opn) (R:List Asn) (hg:GS R 4 v l.length (l.flatMap opL)) (h0:0≤c.forcedCap) (h1:0≤c.penNum) (hwf:∀ o∈l,I64 o.k∧U64 o.am)
include hg h0 h1 hwf
theorem budgets_law:Spec 7 [cfgV c,v] R fun u L'=>u=.bool true∧L'=R:=by
 have hal:=fun R=>alive22_spec R
 by_cases hF:Fit c l.length
 ·have hck:=hF.ck
  have hc:CfOk c:=cfOk_of hck h0 h1
  have hvi:=hc.vi;have hpy:=hc.py
  have hnl:=hF.n
  have hnw:=fun R=>eng_new c hc hck R
  have hft:=fun (R:List Asn) hg=>fits_yes c v l R hg hF
  (intro G w M;refine sx_enter (vs:=([cfgV c,v]:List Value)) Tryz.func7 (n:=121) rfl rfl rfl rfl ?_;intro a F;(try simp only[zc,zn] at M))
  have hG:GS (R++G) 4 v l.length (l.flatMap opL):=Gives.app hg
  (repeat'(first|(first|refine sx_nil ?_|refine pv_nil ?_;intro a w F M);try replace F:=F.filt zk130 rfl|refine zn1 F M ?_;clear F M a;(try clear w);intro a w F M|refine sv2 F M ?_;clear F M a;intro nb a w F M|refine zp1 ?_|refine zp2 ?_;intro nb|((first|refine svC F M ?_|refine svC0 F M ?_|refine pvC ?_|refine pvC0 ?_);((first|((refine acW (k:=28) (hnw _) ?_);rintro u L' ⟨eb,H,rfl,rfl⟩)|((refine acW (k:=29) (hft _ ?_) ?_);(exact gsA);rintro u L' ⟨rfl,rfl⟩)));(first|refine⟨rvsA,?_⟩|clear F M a;intro a w F M|clear M;intro w M))|refine zh F ?_ ?_<;>(intro hg;rw[hg] at F;try exact no hg)|refine zT F ?_|((with_reducible refine isK ?_);refine svB F ?_ ?_<;>intro hc<;>try exact no hc)|refine zY ?_;go_step|fail))
  refine svLoop F M ((0,H,St.ini):Nat × EH × St) (fun z=>[(28,.int .i64 z.1)]) (fun z=>engL eb z.2.1 c z.2.2 []) (fun z=>z.1≤l.length∧Inv c z.2.2∧z.2.2.bk≤z.1) (fun z=>l.length - z.1) [8,9,11,12,13] ⟨Nat.zero_le _,Inv.ini hc,Nat.le_refl _⟩ ?_ (hR:=by(repeat (first|exact Pulls.nil|(apply Pulls.cons;(focus ((repeat (first|exact Pull.here|apply Pull.there));done))))))
  (rintro⟨k,H3,s⟩ ⟨q1,q2,q3⟩ a w F M;(try simp only[zc,zn] at F M q1 q2 q3 ⊢))
  by_cases hk:k<l.length
  ·obtain ⟨o,ho⟩:∃ o,l[k]? = some o:=⟨l[k],by simp[hk]⟩
   obtain ⟨ho1,ho2⟩:=hwf o (List.mem_of_getElem? ho)
   have hap:=fun R=>apply_spec eb H3 c s R hc q2 (by omega) o ho1 ho2
   obtain ⟨n1,n2⟩:=stepM_inv hc q2 (by omega) o ho2
   obtain ⟨⟨⟨b1,b2⟩,b3,b4⟩,b5⟩:=step_bg hc q2 (by omega) o
   simp only[apQ] at hap
   generalize stepM c s o=Y at *
   obtain ⟨⟨y1,y2,y3,y4,y5,y6,y7,y8,y9⟩,s2⟩:=Y
   simp only at hap n1 n2 b1 b2 b3 b4 b5
   have hcap:s2.V.length≤4096:=by have:=n1.cap;have:=hc.ca;omega
   obtain ⟨ok,oi,ot,oa⟩:=o
   simp only at b5
   by_cases h7:ok=7
   ·subst h7
    clear b5
    (repeat'(first|(first|refine sx_nil ?_|refine pv_nil ?_;intro a w F M);try replace F:=F.filt zk130 rfl|refine zn1 F M ?_;clear F M a;(try clear w);intro a w F M|refine sv2 F M ?_;clear F M a;intro nb a w F M|refine zp1 ?_|refine zp2 ?_;intro nb|((first|refine svC F M ?_|refine svC0 F M ?_|refine pvC ?_|refine pvC0 ?_);((refine acK (L1:=engL eb H3 c s _) (k:=31) (hap _) ?_;rintro u L' ⟨ha,hp,H4,rfl,rfl⟩));(first|refine⟨rvsA,?_⟩|clear F M a;intro a w F M|clear M;intro w M))|refine zh F ?_ ?_<;>(intro hg;rw[hg] at F;try exact no hg)|refine zT F ?_|((with_reducible refine isK ?_);refine svB F ?_ ?_<;>intro hc<;>try exact no hc)|refine zY ?_;go_step|fail))
    have gl:=get_spec eb H4 c s2
    refine svLoop F M (0:Nat) (fun j=>[(74,.int .i64 j)]) (fun _=>[]) (fun j=>j≤y9.length) (fun j=>y9.length - j) [11,12,13] (Nat.zero_le _) ?_
    (rintro j p1 a w F M;(try simp only[zc,zn] at F M p1 ⊢))
    by_cases hj:j<y9.length
    ·obtain ⟨p,hp9⟩:∃ p,y9[j]? = some p:=⟨y9[j],by simp[hj]⟩
     obtain ⟨i,x,e1,e2,e3,e4⟩:=b4 p (List.mem_of_getElem? hp9)
     have hgt:=fun R=>gl R hcap i x e2
     obtain ⟨pi,pa,pf⟩:=p
     simp only at e1 e3 e4
     subst e1
     obtain ⟨bal,st,slz,rq,ex,wd,dl⟩:=x
     simp only at e3 e4
     cases pf
     ·by_cases hs:st=2
      ·subst hs
       have e5:=e4 rfl rfl
       (repeat'(first|(first|refine sx_nil ?_|refine pv_nil ?_;intro a w F M);try replace F:=F.filt zk130 rfl|refine zn1 F M ?_;clear F M a;(try clear w);intro a w F M|refine sv2 F M ?_;clear F M a;intro nb a w F M|refine zp1 ?_|refine zp2 ?_;intro nb|((first|refine svC F M ?_|refine svC0 F M ?_|refine pvC ?_|refine pvC0 ?_);((refine acK (L1:=engL eb H4 c s2 _) (k:=32) (hgt _) ?_;rintro u L' ⟨rfl,rfl⟩));(first|refine⟨rvsA,?_⟩|clear F M a;intro a w F M|clear M;intro w M))|refine zh F ?_ ?_<;>(intro hg;rw[hg] at F;try exact no hg)|refine zT F ?_|((with_reducible refine isK ?_);refine svB F ?_ ?_<;>intro hc<;>try exact no hc)|refine zY ?_;go_step|fail))
       exact sv_again F M (j+1) kpA permsA (by omega) (by omega)
      ·(repeat'(first|(first|refine sx_nil ?_|refine pv_nil ?_;intro a w F M);try replace F:=F.filt zk130 rfl|refine zn1 F M ?_;clear F M a;(try clear w);intro a w F M|refine sv2 F M ?_;clear F M a;intro nb a w F M|refine zp1 ?_|refine zp2 ?_;intro nb|((first|refine svC F M ?_|refine svC0 F M ?_|refine pvC ?_|refine pvC0 ?_);((refine acK (L1:=engL eb H4 c s2 _) (k:=32) (hgt _) ?_;rintro u L' ⟨rfl,rfl⟩));(first|refine⟨rvsA,?_⟩|clear F M a;intro a w F M|clear M;intro w M))|refine zh F ?_ ?_<;>(intro hg;rw[hg] at F;try exact no hg)|refine zT F ?_|((with_reducible refine isK ?_);refine svB F ?_ ?_<;>intro hc<;>try exact no hc)|refine zY ?_;go_step|fail))
       all_goals first|(exfalso;simp only[decide_eq_true_eq] at *;omega)|exact sv_again F M (j+1) kpA permsA (by omega) (by omega)
     ·obtain ⟨rfl,rfl⟩:=e3 rfl
      (repeat'(first|(first|refine sx_nil ?_|refine pv_nil ?_;intro a w F M);try replace F:=F.filt zk130 rfl|refine zn1 F M ?_;clear F M a;(try clear w);intro a w F M|refine sv2 F M ?_;clear F M a;intro nb a w F M|refine zp1 ?_|refine zp2 ?_;intro nb|((first|refine svC F M ?_|refine svC0 F M ?_|refine pvC ?_|refine pvC0 ?_);((refine acK (L1:=engL eb H4 c s2 _) (k:=32) (hgt _) ?_;rintro u L' ⟨rfl,rfl⟩));(first|refine⟨rvsA,?_⟩|clear F M a;intro a w F M|clear M;intro w M))|refine zh F ?_ ?_<;>(intro hg;rw[hg] at F;try exact no hg)|refine zT F ?_|((with_reducible refine isK ?_);refine svB F ?_ ?_<;>intro hc<;>try exact no hc)|refine zY ?_;go_step|fail))
      exact sv_again F M (j+1) kpA permsA (by omega) (by omega)
    ·obtain rfl:j=y9.length:=by omega
     (repeat'(first|(first|refine sx_nil ?_|refine pv_nil ?_;intro a w F M);try replace F:=F.filt zk130 rfl|refine zn1 F M ?_;clear F M a;(try clear w);intro a w F M|refine sv2 F M ?_;clear F M a;intro nb a w F M|refine zp1 ?_|refine zp2 ?_;intro nb|((first|refine svC F M ?_|refine svC0 F M ?_|refine pvC ?_|refine pvC0 ?_);(fail);(first|refine⟨rvsA,?_⟩|clear F M a;intro a w F M|clear M;intro w M))|refine zh F ?_ ?_<;>(intro hg;rw[hg] at F;try exact no hg)|refine zT F ?_|((with_reducible refine isK ?_);refine svB F ?_ ?_<;>intro hc<;>try exact no hc)|refine zY ?_;go_step|fail))
     exact sv_again F M (k+1,H4,s2) kpA permsA ⟨by simp only;omega,n1,by simp only;omega⟩ (by simp only;omega)
   ·obtain ⟨rfl,rfl,rfl⟩:=b5 h7
    have d7:decide (ok≠7)=true:=by simpa using h7
    (repeat'(first|(first|refine sx_nil ?_|refine pv_nil ?_;intro a w F M);try replace F:=F.filt zk130 rfl|refine zn1 F M ?_;clear F M a;(try clear w);intro a w F M|refine sv2 F M ?_;clear F M a;intro nb a w F M|refine zp1 ?_|refine zp2 ?_;intro nb|((first|refine svC F M ?_|refine svC0 F M ?_|refine pvC ?_|refine pvC0 ?_);((refine acK (L1:=engL eb H3 c s _) (k:=31) (hap _) ?_;rintro u L' ⟨ha,hp,H4,rfl,rfl⟩));(first|refine⟨rvsA,?_⟩|clear F M a;intro a w F M|clear M;intro w M))|refine zh F ?_ ?_<;>(intro hg;rw[hg] at F;try exact no hg)|refine zT F ?_|((with_reducible refine isK ?_);refine svB F ?_ ?_<;>intro hc<;>try exact no hc)|refine zY ?_;go_step|fail))
    rotate_left
    all_goals first|(exfalso;simp_all;done)|skip
    have gl:=get_spec eb H4 c s2
    refine svLoop F M (0:Nat) (fun j=>[(74,.int .i64 j)]) (fun _=>[]) (fun j=>j≤([]:List Pm).length) (fun j=>([]:List Pm).length - j) [11,12,13] (Nat.zero_le _) ?_
    (rintro j p1 a w F M;(try simp only[zc,zn] at F M p1 ⊢))
    by_cases hj:j<([]:List Pm).length
    ·exact absurd hj (by simp)
    ·obtain rfl:j=([]:List Pm).length:=by omega
     (repeat'(first|(first|refine sx_nil ?_|refine pv_nil ?_;intro a w F M);try replace F:=F.filt zk130 rfl|refine zn1 F M ?_;clear F M a;(try clear w);intro a w F M|refine sv2 F M ?_;clear F M a;intro nb a w F M|refine zp1 ?_|refine zp2 ?_;intro nb|((first|refine svC F M ?_|refine svC0 F M ?_|refine pvC ?_|refine pvC0 ?_);(fail);(first|refine⟨rvsA,?_⟩|clear F M a;intro a w F M|clear M;intro w M))|refine zh F ?_ ?_<;>(intro hg;rw[hg] at F;try exact no hg)|refine zT F ?_|((with_reducible refine isK ?_);refine svB F ?_ ?_<;>intro hc<;>try exact no hc)|refine zY ?_;go_step|fail))
     exact sv_again F M (k+1,H4,s2) kpA permsA ⟨by simp only;omega,n1,by simp only;omega⟩ (by simp only;omega)
  ·obtain rfl:k=l.length:=by omega
   (repeat'(first|(first|refine sx_nil ?_|refine pv_nil ?_;intro a w F M);try replace F:=F.filt zk130 rfl|refine zn1 F M ?_;clear F M a;(try clear w);intro a w F M|refine sv2 F M ?_;clear F M a;intro nb a w F M|refine zp1 ?_|refine zp2 ?_;intro nb|((first|refine svC F M ?_|refine svC0 F M ?_|refine pvC ?_|refine pvC0 ?_);(((refine acW (k:=30) (hal _) ?_);rintro u L' ⟨rfl,rfl⟩));(first|refine⟨rvsA,?_⟩|clear F M a;intro a w F M|clear M;intro w M))|refine zh F ?_ ?_<;>(intro hg;rw[hg] at F;try exact no hg)|refine zT F ?_|((with_reducible refine isK ?_);refine svB F ?_ ?_<;>intro hc<;>try exact no hc)|refine zY ?_;go_step|fail))
   all_goals refine zE F M ?_
   exact⟨_,_,rfl,⟨rfl,rfl⟩,M.perms permsA⟩
 ·have hft:=fun (R:List Asn) hg=>fits_no c v l R hg hF
  by_cases hck:checkF c=0
  ·have hc:CfOk c:=cfOk_of hck h0 h1
   have hnw:=fun R=>eng_new c hc hck R
   (intro G w M;refine sx_enter (vs:=([cfgV c,v]:List Value)) Tryz.func7 (n:=121) rfl rfl rfl rfl ?_;intro a F;(try simp only[zc,zn] at M))
   have hG:GS (R++G) 4 v l.length (l.flatMap opL):=Gives.app hg
   (repeat'(first|(first|refine sx_nil ?_|refine pv_nil ?_;intro a w F M);try replace F:=F.filt zk130 rfl|refine zn1 F M ?_;clear F M a;(try clear w);intro a w F M|refine sv2 F M ?_;clear F M a;intro nb a w F M|refine zp1 ?_|refine zp2 ?_;intro nb|((first|refine svC F M ?_|refine svC0 F M ?_|refine pvC ?_|refine pvC0 ?_);((first|((refine acW (k:=28) (hnw _) ?_);rintro u L' ⟨eb,H,rfl,rfl⟩)|((refine acW (k:=29) (hft _ ?_) ?_);(exact gsA);rintro u L' ⟨rfl,rfl⟩)|((refine acW (k:=30) (hal _) ?_);rintro u L' ⟨rfl,rfl⟩)));(first|refine⟨rvsA,?_⟩|clear F M a;intro a w F M|clear M;intro w M))|refine zh F ?_ ?_<;>(intro hg;rw[hg] at F;try exact no hg)|refine zT F ?_|((with_reducible refine isK ?_);refine svB F ?_ ?_<;>intro hc<;>try exact no hc)|refine zY ?_;go_step|fail))
   all_goals refine zE F M ?_
   exact⟨_,_,rfl,⟨rfl,rfl⟩,M.perms permsA⟩
  ·have hnw:=fun R=>eng_newN c hck R
   (intro G w M;refine sx_enter (vs:=([cfgV c,v]:List Value)) Tryz.func7 (n:=121) rfl rfl rfl rfl ?_;intro a F;(try simp only[zc,zn] at M))
   have hG:GS (R++G) 4 v l.length (l.flatMap opL):=Gives.app hg
   (repeat'(first|(first|refine sx_nil ?_|refine pv_nil ?_;intro a w F M);try replace F:=F.filt zk130 rfl|refine zn1 F M ?_;clear F M a;(try clear w);intro a w F M|refine sv2 F M ?_;clear F M a;intro nb a w F M|refine zp1 ?_|refine zp2 ?_;intro nb|((first|refine svC F M ?_|refine svC0 F M ?_|refine pvC ?_|refine pvC0 ?_);((first|((refine acW (k:=28) (hnw _) ?_);rintro u L' ⟨rfl,rfl⟩)|((refine acW (k:=29) (hft _ ?_) ?_);(exact gsA);rintro u L' ⟨rfl,rfl⟩)|((refine acW (k:=30) (hal _) ?_);rintro u L' ⟨rfl,rfl⟩)));(first|refine⟨rvsA,?_⟩|clear F M a;intro a w F M|clear M;intro w M))|refine zh F ?_ ?_<;>(intro hg;rw[hg] at F;try exact no hg)|refine zT F ?_|((with_reducible refine isK ?_);refine svB F ?_ ?_<;>intro hc<;>try exact no hc)|refine zY ?_;go_step|fail))
   all_goals refine zE F M ?_
   exact⟨_,_,rfl,⟨rfl,rfl⟩,M.perms permsA⟩
end
end
section
open Go.RowKit
instance eqfP:EQF prL [.int,.int]:=⟨fun x y=>by
 obtain ⟨a,b⟩:=x;obtain ⟨d,e⟩:=y
 simp only[prL,cellsEq,scEq,if_true,Bool.and_true,Prod.mk.injEq,Option.some.injEq]
 rw[Bool.eq_iff_iff];simp;try omega⟩
instance eqfQ:EQF rqL [.int,.int]:=⟨fun x y=>by
 obtain ⟨a,b⟩:=x;obtain ⟨d,e⟩:=y
 simp only[rqL,cellsEq,scEq,if_true,Bool.and_true,Prod.mk.injEq,Option.some.injEq]
 rw[Bool.eq_iff_iff];simp;try omega⟩
theorem eqs_nat (u v:Value) (xs ys:List Nat) {L:List Asn} (hu:GS L 1 u xs.length (xs.flatMap natL)) (hv:GS L 1 v ys.length (ys.flatMap natL)) :
  Reads 20 [u,v] (.bool (decide (xs=ys))) L:=by
 (intro K hK w M;refine sx_enter Tryz.func20 (n:=26) rfl rfl rfl rfl ?_;intro a F)
 replace hu:=hu.imp hK
 replace hv:=hv.imp hK
 have hlu:=hu.len_le M
 have hlv:=hv.len_le M
 by_cases hl:xs.length=ys.length
 ·have hR:decide (xs=ys)=decide (xs.drop 0=ys.drop 0):=by simp
  generalize decide (xs=ys)=R at *
  (repeat'(first|(first|(refine sx_nil ?_;(try(replace F:=F.filt zk126 rfl)))|(refine sv1 F M (h:=?_) (hr:=by(apply(rt_neqT (f:=natL));(exact rfl);(exact rfl);(exact rfl);(exact inferInstance);(exact inferInstance)));clear F a;intro a F)|(refine sv1 F M (h:=?_);clear F a;intro a F)|(refine sv3 F M (h:=?_);clear M;intro w M)|(refine sv2 F M (h:=?_);clear F M a;intro b a w F M)|(refine svC F M (h:=?_);fail;(clear F M a;intro a w F M))|(refine svC0 F M (h:=?_);fail;(clear M;intro w M))|(refine sv1 F M (h:=?_) (hr:=by fail);clear F a;intro a F)|(refine svK F (h:=?_);clear F a;intro a F)|(refine svK0 F (h:=?_))|((refine sx_guardb F rfl (fun hg=>?_) (fun hg=>?_))<;>(rw[hg] at F;(try(exact no hg)))))|(first|(refine pv1 (h:=?_) (hr:=by(apply(rt_neqT (f:=natL));(exact rfl);(exact rfl);(exact rfl);(exact inferInstance);(exact inferInstance))))|(refine pv1 (h:=?_))|(refine pv3 (h:=?_))|(refine pv2 (h:=?_);intro b)|(refine pvC (h:=?_);fail;(refine⟨?_,?_⟩;(exact rvsA)))|(refine pvC0 (h:=?_);fail;(refine⟨?_,?_⟩;(exact rvsA)))|(refine pv1 (h:=?_) (hr:=by fail))|(refine pvF (h:=?_);intro b)|(refine pvK (h:=?_))|(refine pvK0 (h:=?_))|(refine pv_nil ?_;intro a w F M;refine ql_open ?_)|(refine pv_nil ?_;intro a w F M;(try(replace F:=F.filt zk126 rfl))))|((fail_if_success(with_reducible show wpList _ _ _ _ _ _));(fail_if_success(with_reducible show PW _ _ _ _ _ _ _ _ _ _));(fail_if_success(with_reducible show Code.wp _ (Code.loop _) _ _ _));(first|((with_reducible show Code.wp _ (Code.region _ _ false) _ _ _);(refine sx_region ?_))|((with_reducible show Code.wp _ (Code.cond _ _ _) _ _ _);(first|(refine svT F (h:=?_))|(refine svF F (h:=?_))|((refine svB F (fun hc=>?_) (fun hc=>?_))<;>(try(exact no hc)))))|((with_reducible show Code.wp _ (Code.region _ _ true) _ _ _);(first|(refine zD zd127 F M ?_;clear F M a w)))|go_step))))
  refine sv_loop (σ:=Nat) (fun s=>[(0,u),(1,v),(12,.int .i64 xs.length),(13,.int .i64 s)]) (fun _=>K) (fun s=>s≤xs.length∧R=decide (xs.drop s=ys.drop s)) (fun s=>xs.length - s) F M 0 kpA permsA ⟨by omega,hR⟩ ?_
  rintro k ⟨h1,h2⟩ a w F M
  try simp only at h1 h2 F ⊢
  by_cases hlt:k<xs.length
  ·obtain ⟨x,hx⟩:∃ x,xs[k]? = some x:=⟨xs[k],by simp[hlt]⟩
   obtain ⟨y,hy⟩:∃ y,ys[k]? = some y:=⟨ys[k]'(by omega),by rw[List.getElem?_eq_getElem (by omega)]⟩
   rw[drop_cons hx,drop_cons hy] at h2
   by_cases he:x=y
   ·subst he
    (repeat'(first|(first|(refine sx_nil ?_;(try(replace F:=F.filt zk126 rfl)))|(refine sv1 F M (h:=?_) (hr:=by(apply(rt_neqT (f:=natL));(exact rfl);(exact rfl);(exact rfl);(exact inferInstance);(exact inferInstance)));clear F a;intro a F)|(refine sv1 F M (h:=?_);clear F a;intro a F)|(refine sv3 F M (h:=?_);clear M;intro w M)|(refine sv2 F M (h:=?_);clear F M a;intro b a w F M)|(refine svC F M (h:=?_);fail;(clear F M a;intro a w F M))|(refine svC0 F M (h:=?_);fail;(clear M;intro w M))|(refine sv1 F M (h:=?_) (hr:=by fail);clear F a;intro a F)|(refine svK F (h:=?_);clear F a;intro a F)|(refine svK0 F (h:=?_))|((refine sx_guardb F rfl (fun hg=>?_) (fun hg=>?_))<;>(rw[hg] at F;(try(exact no hg)))))|(first|(refine pv1 (h:=?_) (hr:=by(apply(rt_neqT (f:=natL));(exact rfl);(exact rfl);(exact rfl);(exact inferInstance);(exact inferInstance))))|(refine pv1 (h:=?_))|(refine pv3 (h:=?_))|(refine pv2 (h:=?_);intro b)|(refine pvC (h:=?_);fail;(refine⟨?_,?_⟩;(exact rvsA)))|(refine pvC0 (h:=?_);fail;(refine⟨?_,?_⟩;(exact rvsA)))|(refine pv1 (h:=?_) (hr:=by fail))|(refine pvF (h:=?_);intro b)|(refine pvK (h:=?_))|(refine pvK0 (h:=?_))|(refine pv_nil ?_;intro a w F M;refine ql_open ?_)|(refine pv_nil ?_;intro a w F M;(try(replace F:=F.filt zk126 rfl))))|((fail_if_success(with_reducible show wpList _ _ _ _ _ _));(fail_if_success(with_reducible show PW _ _ _ _ _ _ _ _ _ _));(fail_if_success(with_reducible show Code.wp _ (Code.loop _) _ _ _));(first|((with_reducible show Code.wp _ (Code.region _ _ false) _ _ _);(refine sx_region ?_))|((with_reducible show Code.wp _ (Code.cond _ _ _) _ _ _);(first|(refine svT F (h:=?_))|(refine svF F (h:=?_))|((refine svB F (fun hc=>?_) (fun hc=>?_))<;>(try(exact no hc)))))|((with_reducible show Code.wp _ (Code.region _ _ true) _ _ _);(first|(refine zD zd127 F M ?_;clear F M a w)))|go_step))))
    (refine sv_again F M (k+1) kpA permsA ?_ ?_)
    ·exact⟨by omega,by rw[h2];simp⟩
    ·omega
   ·(repeat'(first|(first|(refine sx_nil ?_;(try(replace F:=F.filt zk126 rfl)))|(refine sv1 F M (h:=?_) (hr:=by(apply(rt_neqT (f:=natL));(exact rfl);(exact rfl);(exact rfl);(exact inferInstance);(exact inferInstance)));clear F a;intro a F)|(refine sv1 F M (h:=?_);clear F a;intro a F)|(refine sv3 F M (h:=?_);clear M;intro w M)|(refine sv2 F M (h:=?_);clear F M a;intro b a w F M)|(refine svC F M (h:=?_);fail;(clear F M a;intro a w F M))|(refine svC0 F M (h:=?_);fail;(clear M;intro w M))|(refine sv1 F M (h:=?_) (hr:=by fail);clear F a;intro a F)|(refine svK F (h:=?_);clear F a;intro a F)|(refine svK0 F (h:=?_))|((refine sx_guardb F rfl (fun hg=>?_) (fun hg=>?_))<;>(rw[hg] at F;(try(exact no hg)))))|(first|(refine pv1 (h:=?_) (hr:=by(apply(rt_neqT (f:=natL));(exact rfl);(exact rfl);(exact rfl);(exact inferInstance);(exact inferInstance))))|(refine pv1 (h:=?_))|(refine pv3 (h:=?_))|(refine pv2 (h:=?_);intro b)|(refine pvC (h:=?_);fail;(refine⟨?_,?_⟩;(exact rvsA)))|(refine pvC0 (h:=?_);fail;(refine⟨?_,?_⟩;(exact rvsA)))|(refine pv1 (h:=?_) (hr:=by fail))|(refine pvF (h:=?_);intro b)|(refine pvK (h:=?_))|(refine pvK0 (h:=?_))|(refine pv_nil ?_;intro a w F M;refine ql_open ?_)|(refine pv_nil ?_;intro a w F M;(try(replace F:=F.filt zk126 rfl))))|((fail_if_success(with_reducible show wpList _ _ _ _ _ _));(fail_if_success(with_reducible show PW _ _ _ _ _ _ _ _ _ _));(fail_if_success(with_reducible show Code.wp _ (Code.loop _) _ _ _));(first|((with_reducible show Code.wp _ (Code.region _ _ false) _ _ _);(refine sx_region ?_))|((with_reducible show Code.wp _ (Code.cond _ _ _) _ _ _);(first|(refine svT F (h:=?_))|(refine svF F (h:=?_))|((refine svB F (fun hc=>?_) (fun hc=>?_))<;>(try(exact no hc)))))|((with_reducible show Code.wp _ (Code.region _ _ true) _ _ _);(first|(refine zD zd127 F M ?_;clear F M a w)))|go_step))))
    (all_goals((first|(refine svEnd F M ?_)|(refine svRet F M ?_));refine⟨?_,M.perms permsA⟩))
    rw[h2];simp[tupOf,he]
  ·(repeat'(first|(first|(refine sx_nil ?_;(try(replace F:=F.filt zk126 rfl)))|(refine sv1 F M (h:=?_) (hr:=by(apply(rt_neqT (f:=natL));(exact rfl);(exact rfl);(exact rfl);(exact inferInstance);(exact inferInstance)));clear F a;intro a F)|(refine sv1 F M (h:=?_);clear F a;intro a F)|(refine sv3 F M (h:=?_);clear M;intro w M)|(refine sv2 F M (h:=?_);clear F M a;intro b a w F M)|(refine svC F M (h:=?_);fail;(clear F M a;intro a w F M))|(refine svC0 F M (h:=?_);fail;(clear M;intro w M))|(refine sv1 F M (h:=?_) (hr:=by fail);clear F a;intro a F)|(refine svK F (h:=?_);clear F a;intro a F)|(refine svK0 F (h:=?_))|((refine sx_guardb F rfl (fun hg=>?_) (fun hg=>?_))<;>(rw[hg] at F;(try(exact no hg)))))|(first|(refine pv1 (h:=?_) (hr:=by(apply(rt_neqT (f:=natL));(exact rfl);(exact rfl);(exact rfl);(exact inferInstance);(exact inferInstance))))|(refine pv1 (h:=?_))|(refine pv3 (h:=?_))|(refine pv2 (h:=?_);intro b)|(refine pvC (h:=?_);fail;(refine⟨?_,?_⟩;(exact rvsA)))|(refine pvC0 (h:=?_);fail;(refine⟨?_,?_⟩;(exact rvsA)))|(refine pv1 (h:=?_) (hr:=by fail))|(refine pvF (h:=?_);intro b)|(refine pvK (h:=?_))|(refine pvK0 (h:=?_))|(refine pv_nil ?_;intro a w F M;refine ql_open ?_)|(refine pv_nil ?_;intro a w F M;(try(replace F:=F.filt zk126 rfl))))|((fail_if_success(with_reducible show wpList _ _ _ _ _ _));(fail_if_success(with_reducible show PW _ _ _ _ _ _ _ _ _ _));(fail_if_success(with_reducible show Code.wp _ (Code.loop _) _ _ _));(first|((with_reducible show Code.wp _ (Code.region _ _ false) _ _ _);(refine sx_region ?_))|((with_reducible show Code.wp _ (Code.cond _ _ _) _ _ _);(first|(refine svT F (h:=?_))|(refine svF F (h:=?_))|((refine svB F (fun hc=>?_) (fun hc=>?_))<;>(try(exact no hc)))))|((with_reducible show Code.wp _ (Code.region _ _ true) _ _ _);(first|(refine zD zd127 F M ?_;clear F M a w)))|go_step))))
   (all_goals((first|(refine svEnd F M ?_)|(refine svRet F M ?_));refine⟨?_,M.perms permsA⟩))
   rw[h2,List.drop_of_length_le (by omega),List.drop_of_length_le (by omega)];rfl
 ·have hne:xs≠ys:=fun e=>hl (by rw[e])
  have hl':¬((xs.length:Int)=(ys.length:Int)):=by omega
  (repeat'(first|(first|(refine sx_nil ?_;(try(replace F:=F.filt zk126 rfl)))|(refine sv1 F M (h:=?_) (hr:=by(apply(rt_neqT (f:=natL));(exact rfl);(exact rfl);(exact rfl);(exact inferInstance);(exact inferInstance)));clear F a;intro a F)|(refine sv1 F M (h:=?_);clear F a;intro a F)|(refine sv3 F M (h:=?_);clear M;intro w M)|(refine sv2 F M (h:=?_);clear F M a;intro b a w F M)|(refine svC F M (h:=?_);fail;(clear F M a;intro a w F M))|(refine svC0 F M (h:=?_);fail;(clear M;intro w M))|(refine sv1 F M (h:=?_) (hr:=by fail);clear F a;intro a F)|(refine svK F (h:=?_);clear F a;intro a F)|(refine svK0 F (h:=?_))|((refine sx_guardb F rfl (fun hg=>?_) (fun hg=>?_))<;>(rw[hg] at F;(try(exact no hg)))))|(first|(refine pv1 (h:=?_) (hr:=by(apply(rt_neqT (f:=natL));(exact rfl);(exact rfl);(exact rfl);(exact inferInstance);(exact inferInstance))))|(refine pv1 (h:=?_))|(refine pv3 (h:=?_))|(refine pv2 (h:=?_);intro b)|(refine pvC (h:=?_);fail;(refine⟨?_,?_⟩;(exact rvsA)))|(refine pvC0 (h:=?_);fail;(refine⟨?_,?_⟩;(exact rvsA)))|(refine pv1 (h:=?_) (hr:=by fail))|(refine pvF (h:=?_);intro b)|(refine pvK (h:=?_))|(refine pvK0 (h:=?_))|(refine pv_nil ?_;intro a w F M;refine ql_open ?_)|(refine pv_nil ?_;intro a w F M;(try(replace F:=F.filt zk126 rfl))))|((fail_if_success(with_reducible show wpList _ _ _ _ _ _));(fail_if_success(with_reducible show PW _ _ _ _ _ _ _ _ _ _));(fail_if_success(with_reducible show Code.wp _ (Code.loop _) _ _ _));(first|((with_reducible show Code.wp _ (Code.region _ _ false) _ _ _);(refine sx_region ?_))|((with_reducible show Code.wp _ (Code.cond _ _ _) _ _ _);(first|(refine svT F (h:=?_))|(refine svF F (h:=?_))|((refine svB F (fun hc=>?_) (fun hc=>?_))<;>(try(exact no hc)))))|((with_reducible show Code.wp _ (Code.region _ _ true) _ _ _);(first|(refine zD zd127 F M ?_;clear F M a w)))|go_step))))
  (all_goals((first|(refine svEnd F M ?_)|(refine svRet F M ?_));refine⟨?_,M.perms permsA⟩))
  simp[tupOf,hne]
theorem eqs_pr (u v:Value) (xs ys:List (Nat × Nat)) {L:List Asn} (hu:GS L 2 u xs.length (xs.flatMap prL)) (hv:GS L 2 v ys.length (ys.flatMap prL)) :
  Reads 87 [u,v] (.bool (decide (xs=ys))) L:=by
 (intro K hK w M;refine sx_enter Tryz.func87 (n:=26) rfl rfl rfl rfl ?_;intro a F)
 replace hu:=hu.imp hK
 replace hv:=hv.imp hK
 have hlu:=hu.len_le M
 have hlv:=hv.len_le M
 by_cases hl:xs.length=ys.length
 ·have hR:decide (xs=ys)=decide (xs.drop 0=ys.drop 0):=by simp
  generalize decide (xs=ys)=R at *
  (repeat'(first|(first|(refine sx_nil ?_;(try(replace F:=F.filt zk126 rfl)))|(refine sv1 F M (h:=?_) (hr:=by(apply(rt_neqT (f:=prL));(exact rfl);(exact rfl);(exact rfl);(exact inferInstance);(exact inferInstance)));clear F a;intro a F)|(refine sv1 F M (h:=?_);clear F a;intro a F)|(refine sv3 F M (h:=?_);clear M;intro w M)|(refine sv2 F M (h:=?_);clear F M a;intro b a w F M)|(refine svC F M (h:=?_);fail;(clear F M a;intro a w F M))|(refine svC0 F M (h:=?_);fail;(clear M;intro w M))|(refine sv1 F M (h:=?_) (hr:=by fail);clear F a;intro a F)|(refine svK F (h:=?_);clear F a;intro a F)|(refine svK0 F (h:=?_))|((refine sx_guardb F rfl (fun hg=>?_) (fun hg=>?_))<;>(rw[hg] at F;(try(exact no hg)))))|(first|(refine pv1 (h:=?_) (hr:=by(apply(rt_neqT (f:=prL));(exact rfl);(exact rfl);(exact rfl);(exact inferInstance);(exact inferInstance))))|(refine pv1 (h:=?_))|(refine pv3 (h:=?_))|(refine pv2 (h:=?_);intro b)|(refine pvC (h:=?_);fail;(refine⟨?_,?_⟩;(exact rvsA)))|(refine pvC0 (h:=?_);fail;(refine⟨?_,?_⟩;(exact rvsA)))|(refine pv1 (h:=?_) (hr:=by fail))|(refine pvF (h:=?_);intro b)|(refine pvK (h:=?_))|(refine pvK0 (h:=?_))|(refine pv_nil ?_;intro a w F M;refine ql_open ?_)|(refine pv_nil ?_;intro a w F M;(try(replace F:=F.filt zk126 rfl))))|((fail_if_success(with_reducible show wpList _ _ _ _ _ _));(fail_if_success(with_reducible show PW _ _ _ _ _ _ _ _ _ _));(fail_if_success(with_reducible show Code.wp _ (Code.loop _) _ _ _));(first|((with_reducible show Code.wp _ (Code.region _ _ false) _ _ _);(refine sx_region ?_))|((with_reducible show Code.wp _ (Code.cond _ _ _) _ _ _);(first|(refine svT F (h:=?_))|(refine svF F (h:=?_))|((refine svB F (fun hc=>?_) (fun hc=>?_))<;>(try(exact no hc)))))|((with_reducible show Code.wp _ (Code.region _ _ true) _ _ _);(first|(refine zD zd127 F M ?_;clear F M a w)))|go_step))))
  refine sv_loop (σ:=Nat) (fun s=>[(0,u),(1,v),(12,.int .i64 xs.length),(13,.int .i64 s)]) (fun _=>K) (fun s=>s≤xs.length∧R=decide (xs.drop s=ys.drop s)) (fun s=>xs.length - s) F M 0 kpA permsA ⟨by omega,hR⟩ ?_
  rintro k ⟨h1,h2⟩ a w F M
  try simp only at h1 h2 F ⊢
  by_cases hlt:k<xs.length
  ·obtain ⟨x,hx⟩:∃ x,xs[k]? = some x:=⟨xs[k],by simp[hlt]⟩
   obtain ⟨y,hy⟩:∃ y,ys[k]? = some y:=⟨ys[k]'(by omega),by rw[List.getElem?_eq_getElem (by omega)]⟩
   rw[drop_cons hx,drop_cons hy] at h2
   by_cases he:x=y
   ·subst he
    (repeat'(first|(first|(refine sx_nil ?_;(try(replace F:=F.filt zk126 rfl)))|(refine sv1 F M (h:=?_) (hr:=by(apply(rt_neqT (f:=prL));(exact rfl);(exact rfl);(exact rfl);(exact inferInstance);(exact inferInstance)));clear F a;intro a F)|(refine sv1 F M (h:=?_);clear F a;intro a F)|(refine sv3 F M (h:=?_);clear M;intro w M)|(refine sv2 F M (h:=?_);clear F M a;intro b a w F M)|(refine svC F M (h:=?_);fail;(clear F M a;intro a w F M))|(refine svC0 F M (h:=?_);fail;(clear M;intro w M))|(refine sv1 F M (h:=?_) (hr:=by fail);clear F a;intro a F)|(refine svK F (h:=?_);clear F a;intro a F)|(refine svK0 F (h:=?_))|((refine sx_guardb F rfl (fun hg=>?_) (fun hg=>?_))<;>(rw[hg] at F;(try(exact no hg)))))|(first|(refine pv1 (h:=?_) (hr:=by(apply(rt_neqT (f:=prL));(exact rfl);(exact rfl);(exact rfl);(exact inferInstance);(exact inferInstance))))|(refine pv1 (h:=?_))|(refine pv3 (h:=?_))|(refine pv2 (h:=?_);intro b)|(refine pvC (h:=?_);fail;(refine⟨?_,?_⟩;(exact rvsA)))|(refine pvC0 (h:=?_);fail;(refine⟨?_,?_⟩;(exact rvsA)))|(refine pv1 (h:=?_) (hr:=by fail))|(refine pvF (h:=?_);intro b)|(refine pvK (h:=?_))|(refine pvK0 (h:=?_))|(refine pv_nil ?_;intro a w F M;refine ql_open ?_)|(refine pv_nil ?_;intro a w F M;(try(replace F:=F.filt zk126 rfl))))|((fail_if_success(with_reducible show wpList _ _ _ _ _ _));(fail_if_success(with_reducible show PW _ _ _ _ _ _ _ _ _ _));(fail_if_success(with_reducible show Code.wp _ (Code.loop _) _ _ _));(first|((with_reducible show Code.wp _ (Code.region _ _ false) _ _ _);(refine sx_region ?_))|((with_reducible show Code.wp _ (Code.cond _ _ _) _ _ _);(first|(refine svT F (h:=?_))|(refine svF F (h:=?_))|((refine svB F (fun hc=>?_) (fun hc=>?_))<;>(try(exact no hc)))))|((with_reducible show Code.wp _ (Code.region _ _ true) _ _ _);(first|(refine zD zd127 F M ?_;clear F M a w)))|go_step))))
    (refine sv_again F M (k+1) kpA permsA ?_ ?_)
    ·exact⟨by omega,by rw[h2];simp⟩
    ·omega
   ·(repeat'(first|(first|(refine sx_nil ?_;(try(replace F:=F.filt zk126 rfl)))|(refine sv1 F M (h:=?_) (hr:=by(apply(rt_neqT (f:=prL));(exact rfl);(exact rfl);(exact rfl);(exact inferInstance);(exact inferInstance)));clear F a;intro a F)|(refine sv1 F M (h:=?_);clear F a;intro a F)|(refine sv3 F M (h:=?_);clear M;intro w M)|(refine sv2 F M (h:=?_);clear F M a;intro b a w F M)|(refine svC F M (h:=?_);fail;(clear F M a;intro a w F M))|(refine svC0 F M (h:=?_);fail;(clear M;intro w M))|(refine sv1 F M (h:=?_) (hr:=by fail);clear F a;intro a F)|(refine svK F (h:=?_);clear F a;intro a F)|(refine svK0 F (h:=?_))|((refine sx_guardb F rfl (fun hg=>?_) (fun hg=>?_))<;>(rw[hg] at F;(try(exact no hg)))))|(first|(refine pv1 (h:=?_) (hr:=by(apply(rt_neqT (f:=prL));(exact rfl);(exact rfl);(exact rfl);(exact inferInstance);(exact inferInstance))))|(refine pv1 (h:=?_))|(refine pv3 (h:=?_))|(refine pv2 (h:=?_);intro b)|(refine pvC (h:=?_);fail;(refine⟨?_,?_⟩;(exact rvsA)))|(refine pvC0 (h:=?_);fail;(refine⟨?_,?_⟩;(exact rvsA)))|(refine pv1 (h:=?_) (hr:=by fail))|(refine pvF (h:=?_);intro b)|(refine pvK (h:=?_))|(refine pvK0 (h:=?_))|(refine pv_nil ?_;intro a w F M;refine ql_open ?_)|(refine pv_nil ?_;intro a w F M;(try(replace F:=F.filt zk126 rfl))))|((fail_if_success(with_reducible show wpList _ _ _ _ _ _));(fail_if_success(with_reducible show PW _ _ _ _ _ _ _ _ _ _));(fail_if_success(with_reducible show Code.wp _ (Code.loop _) _ _ _));(first|((with_reducible show Code.wp _ (Code.region _ _ false) _ _ _);(refine sx_region ?_))|((with_reducible show Code.wp _ (Code.cond _ _ _) _ _ _);(first|(refine svT F (h:=?_))|(refine svF F (h:=?_))|((refine svB F (fun hc=>?_) (fun hc=>?_))<;>(try(exact no hc)))))|((with_reducible show Code.wp _ (Code.region _ _ true) _ _ _);(first|(refine zD zd127 F M ?_;clear F M a w)))|go_step))))
    (all_goals((first|(refine svEnd F M ?_)|(refine svRet F M ?_));refine⟨?_,M.perms permsA⟩))
    rw[h2];simp[tupOf,he]
  ·(repeat'(first|(first|(refine sx_nil ?_;(try(replace F:=F.filt zk126 rfl)))|(refine sv1 F M (h:=?_) (hr:=by(apply(rt_neqT (f:=prL));(exact rfl);(exact rfl);(exact rfl);(exact inferInstance);(exact inferInstance)));clear F a;intro a F)|(refine sv1 F M (h:=?_);clear F a;intro a F)|(refine sv3 F M (h:=?_);clear M;intro w M)|(refine sv2 F M (h:=?_);clear F M a;intro b a w F M)|(refine svC F M (h:=?_);fail;(clear F M a;intro a w F M))|(refine svC0 F M (h:=?_);fail;(clear M;intro w M))|(refine sv1 F M (h:=?_) (hr:=by fail);clear F a;intro a F)|(refine svK F (h:=?_);clear F a;intro a F)|(refine svK0 F (h:=?_))|((refine sx_guardb F rfl (fun hg=>?_) (fun hg=>?_))<;>(rw[hg] at F;(try(exact no hg)))))|(first|(refine pv1 (h:=?_) (hr:=by(apply(rt_neqT (f:=prL));(exact rfl);(exact rfl);(exact rfl);(exact inferInstance);(exact inferInstance))))|(refine pv1 (h:=?_))|(refine pv3 (h:=?_))|(refine pv2 (h:=?_);intro b)|(refine pvC (h:=?_);fail;(refine⟨?_,?_⟩;(exact rvsA)))|(refine pvC0 (h:=?_);fail;(refine⟨?_,?_⟩;(exact rvsA)))|(refine pv1 (h:=?_) (hr:=by fail))|(refine pvF (h:=?_);intro b)|(refine pvK (h:=?_))|(refine pvK0 (h:=?_))|(refine pv_nil ?_;intro a w F M;refine ql_open ?_)|(refine pv_nil ?_;intro a w F M;(try(replace F:=F.filt zk126 rfl))))|((fail_if_success(with_reducible show wpList _ _ _ _ _ _));(fail_if_success(with_reducible show PW _ _ _ _ _ _ _ _ _ _));(fail_if_success(with_reducible show Code.wp _ (Code.loop _) _ _ _));(first|((with_reducible show Code.wp _ (Code.region _ _ false) _ _ _);(refine sx_region ?_))|((with_reducible show Code.wp _ (Code.cond _ _ _) _ _ _);(first|(refine svT F (h:=?_))|(refine svF F (h:=?_))|((refine svB F (fun hc=>?_) (fun hc=>?_))<;>(try(exact no hc)))))|((with_reducible show Code.wp _ (Code.region _ _ true) _ _ _);(first|(refine zD zd127 F M ?_;clear F M a w)))|go_step))))
   (all_goals((first|(refine svEnd F M ?_)|(refine svRet F M ?_));refine⟨?_,M.perms permsA⟩))
   rw[h2,List.drop_of_length_le (by omega),List.drop_of_length_le (by omega)];rfl
 ·have hne:xs≠ys:=fun e=>hl (by rw[e])
  have hl':¬((xs.length:Int)=(ys.length:Int)):=by omega
  (repeat'(first|(first|(refine sx_nil ?_;(try(replace F:=F.filt zk126 rfl)))|(refine sv1 F M (h:=?_) (hr:=by(apply(rt_neqT (f:=prL));(exact rfl);(exact rfl);(exact rfl);(exact inferInstance);(exact inferInstance)));clear F a;intro a F)|(refine sv1 F M (h:=?_);clear F a;intro a F)|(refine sv3 F M (h:=?_);clear M;intro w M)|(refine sv2 F M (h:=?_);clear F M a;intro b a w F M)|(refine svC F M (h:=?_);fail;(clear F M a;intro a w F M))|(refine svC0 F M (h:=?_);fail;(clear M;intro w M))|(refine sv1 F M (h:=?_) (hr:=by fail);clear F a;intro a F)|(refine svK F (h:=?_);clear F a;intro a F)|(refine svK0 F (h:=?_))|((refine sx_guardb F rfl (fun hg=>?_) (fun hg=>?_))<;>(rw[hg] at F;(try(exact no hg)))))|(first|(refine pv1 (h:=?_) (hr:=by(apply(rt_neqT (f:=prL));(exact rfl);(exact rfl);(exact rfl);(exact inferInstance);(exact inferInstance))))|(refine pv1 (h:=?_))|(refine pv3 (h:=?_))|(refine pv2 (h:=?_);intro b)|(refine pvC (h:=?_);fail;(refine⟨?_,?_⟩;(exact rvsA)))|(refine pvC0 (h:=?_);fail;(refine⟨?_,?_⟩;(exact rvsA)))|(refine pv1 (h:=?_) (hr:=by fail))|(refine pvF (h:=?_);intro b)|(refine pvK (h:=?_))|(refine pvK0 (h:=?_))|(refine pv_nil ?_;intro a w F M;refine ql_open ?_)|(refine pv_nil ?_;intro a w F M;(try(replace F:=F.filt zk126 rfl))))|((fail_if_success(with_reducible show wpList _ _ _ _ _ _));(fail_if_success(with_reducible show PW _ _ _ _ _ _ _ _ _ _));(fail_if_success(with_reducible show Code.wp _ (Code.loop _) _ _ _));(first|((with_reducible show Code.wp _ (Code.region _ _ false) _ _ _);(refine sx_region ?_))|((with_reducible show Code.wp _ (Code.cond _ _ _) _ _ _);(first|(refine svT F (h:=?_))|(refine svF F (h:=?_))|((refine svB F (fun hc=>?_) (fun hc=>?_))<;>(try(exact no hc)))))|((with_reducible show Code.wp _ (Code.region _ _ true) _ _ _);(first|(refine zD zd127 F M ?_;clear F M a w)))|go_step))))
  (all_goals((first|(refine svEnd F M ?_)|(refine svRet F M ?_));refine⟨?_,M.perms permsA⟩))
  simp[tupOf,hne]
theorem eqs_rq (u v:Value) (xs ys:List (Nat × Int)) {L:List Asn} (hu:GS L 2 u xs.length (xs.flatMap rqL)) (hv:GS L 2 v ys.length (ys.flatMap rqL)) :
  Reads 88 [u,v] (.bool (decide (xs=ys))) L:=by
 (intro K hK w M;refine sx_enter Tryz.func88 (n:=26) rfl rfl rfl rfl ?_;intro a F)
 replace hu:=hu.imp hK
 replace hv:=hv.imp hK
 have hlu:=hu.len_le M
 have hlv:=hv.len_le M
 by_cases hl:xs.length=ys.length
 ·have hR:decide (xs=ys)=decide (xs.drop 0=ys.drop 0):=by simp
  generalize decide (xs=ys)=R at *
  (repeat'(first|(first|(refine sx_nil ?_;(try(replace F:=F.filt zk126 rfl)))|(refine sv1 F M (h:=?_) (hr:=by(apply(rt_neqT (f:=rqL));(exact rfl);(exact rfl);(exact rfl);(exact inferInstance);(exact inferInstance)));clear F a;intro a F)|(refine sv1 F M (h:=?_);clear F a;intro a F)|(refine sv3 F M (h:=?_);clear M;intro w M)|(refine sv2 F M (h:=?_);clear F M a;intro b a w F M)|(refine svC F M (h:=?_);fail;(clear F M a;intro a w F M))|(refine svC0 F M (h:=?_);fail;(clear M;intro w M))|(refine sv1 F M (h:=?_) (hr:=by fail);clear F a;intro a F)|(refine svK F (h:=?_);clear F a;intro a F)|(refine svK0 F (h:=?_))|((refine sx_guardb F rfl (fun hg=>?_) (fun hg=>?_))<;>(rw[hg] at F;(try(exact no hg)))))|(first|(refine pv1 (h:=?_) (hr:=by(apply(rt_neqT (f:=rqL));(exact rfl);(exact rfl);(exact rfl);(exact inferInstance);(exact inferInstance))))|(refine pv1 (h:=?_))|(refine pv3 (h:=?_))|(refine pv2 (h:=?_);intro b)|(refine pvC (h:=?_);fail;(refine⟨?_,?_⟩;(exact rvsA)))|(refine pvC0 (h:=?_);fail;(refine⟨?_,?_⟩;(exact rvsA)))|(refine pv1 (h:=?_) (hr:=by fail))|(refine pvF (h:=?_);intro b)|(refine pvK (h:=?_))|(refine pvK0 (h:=?_))|(refine pv_nil ?_;intro a w F M;refine ql_open ?_)|(refine pv_nil ?_;intro a w F M;(try(replace F:=F.filt zk126 rfl))))|((fail_if_success(with_reducible show wpList _ _ _ _ _ _));(fail_if_success(with_reducible show PW _ _ _ _ _ _ _ _ _ _));(fail_if_success(with_reducible show Code.wp _ (Code.loop _) _ _ _));(first|((with_reducible show Code.wp _ (Code.region _ _ false) _ _ _);(refine sx_region ?_))|((with_reducible show Code.wp _ (Code.cond _ _ _) _ _ _);(first|(refine svT F (h:=?_))|(refine svF F (h:=?_))|((refine svB F (fun hc=>?_) (fun hc=>?_))<;>(try(exact no hc)))))|((with_reducible show Code.wp _ (Code.region _ _ true) _ _ _);(first|(refine zD zd127 F M ?_;clear F M a w)))|go_step))))
  refine sv_loop (σ:=Nat) (fun s=>[(0,u),(1,v),(12,.int .i64 xs.length),(13,.int .i64 s)]) (fun _=>K) (fun s=>s≤xs.length∧R=decide (xs.drop s=ys.drop s)) (fun s=>xs.length - s) F M 0 kpA permsA ⟨by omega,hR⟩ ?_
  rintro k ⟨h1,h2⟩ a w F M
  try simp only at h1 h2 F ⊢
  by_cases hlt:k<xs.length
  ·obtain ⟨x,hx⟩:∃ x,xs[k]? = some x:=⟨xs[k],by simp[hlt]⟩
   obtain ⟨y,hy⟩:∃ y,ys[k]? = some y:=⟨ys[k]'(by omega),by rw[List.getElem?_eq_getElem (by omega)]⟩
   rw[drop_cons hx,drop_cons hy] at h2
   by_cases he:x=y
   ·subst he
    (repeat'(first|(first|(refine sx_nil ?_;(try(replace F:=F.filt zk126 rfl)))|(refine sv1 F M (h:=?_) (hr:=by(apply(rt_neqT (f:=rqL));(exact rfl);(exact rfl);(exact rfl);(exact inferInstance);(exact inferInstance)));clear F a;intro a F)|(refine sv1 F M (h:=?_);clear F a;intro a F)|(refine sv3 F M (h:=?_);clear M;intro w M)|(refine sv2 F M (h:=?_);clear F M a;intro b a w F M)|(refine svC F M (h:=?_);fail;(clear F M a;intro a w F M))|(refine svC0 F M (h:=?_);fail;(clear M;intro w M))|(refine sv1 F M (h:=?_) (hr:=by fail);clear F a;intro a F)|(refine svK F (h:=?_);clear F a;intro a F)|(refine svK0 F (h:=?_))|((refine sx_guardb F rfl (fun hg=>?_) (fun hg=>?_))<;>(rw[hg] at F;(try(exact no hg)))))|(first|(refine pv1 (h:=?_) (hr:=by(apply(rt_neqT (f:=rqL));(exact rfl);(exact rfl);(exact rfl);(exact inferInstance);(exact inferInstance))))|(refine pv1 (h:=?_))|(refine pv3 (h:=?_))|(refine pv2 (h:=?_);intro b)|(refine pvC (h:=?_);fail;(refine⟨?_,?_⟩;(exact rvsA)))|(refine pvC0 (h:=?_);fail;(refine⟨?_,?_⟩;(exact rvsA)))|(refine pv1 (h:=?_) (hr:=by fail))|(refine pvF (h:=?_);intro b)|(refine pvK (h:=?_))|(refine pvK0 (h:=?_))|(refine pv_nil ?_;intro a w F M;refine ql_open ?_)|(refine pv_nil ?_;intro a w F M;(try(replace F:=F.filt zk126 rfl))))|((fail_if_success(with_reducible show wpList _ _ _ _ _ _));(fail_if_success(with_reducible show PW _ _ _ _ _ _ _ _ _ _));(fail_if_success(with_reducible show Code.wp _ (Code.loop _) _ _ _));(first|((with_reducible show Code.wp _ (Code.region _ _ false) _ _ _);(refine sx_region ?_))|((with_reducible show Code.wp _ (Code.cond _ _ _) _ _ _);(first|(refine svT F (h:=?_))|(refine svF F (h:=?_))|((refine svB F (fun hc=>?_) (fun hc=>?_))<;>(try(exact no hc)))))|((with_reducible show Code.wp _ (Code.region _ _ true) _ _ _);(first|(refine zD zd127 F M ?_;clear F M a w)))|go_step))))
    (refine sv_again F M (k+1) kpA permsA ?_ ?_)
    ·exact⟨by omega,by rw[h2];simp⟩
    ·omega
   ·(repeat'(first|(first|(refine sx_nil ?_;(try(replace F:=F.filt zk126 rfl)))|(refine sv1 F M (h:=?_) (hr:=by(apply(rt_neqT (f:=rqL));(exact rfl);(exact rfl);(exact rfl);(exact inferInstance);(exact inferInstance)));clear F a;intro a F)|(refine sv1 F M (h:=?_);clear F a;intro a F)|(refine sv3 F M (h:=?_);clear M;intro w M)|(refine sv2 F M (h:=?_);clear F M a;intro b a w F M)|(refine svC F M (h:=?_);fail;(clear F M a;intro a w F M))|(refine svC0 F M (h:=?_);fail;(clear M;intro w M))|(refine sv1 F M (h:=?_) (hr:=by fail);clear F a;intro a F)|(refine svK F (h:=?_);clear F a;intro a F)|(refine svK0 F (h:=?_))|((refine sx_guardb F rfl (fun hg=>?_) (fun hg=>?_))<;>(rw[hg] at F;(try(exact no hg)))))|(first|(refine pv1 (h:=?_) (hr:=by(apply(rt_neqT (f:=rqL));(exact rfl);(exact rfl);(exact rfl);(exact inferInstance);(exact inferInstance))))|(refine pv1 (h:=?_))|(refine pv3 (h:=?_))|(refine pv2 (h:=?_);intro b)|(refine pvC (h:=?_);fail;(refine⟨?_,?_⟩;(exact rvsA)))|(refine pvC0 (h:=?_);fail;(refine⟨?_,?_⟩;(exact rvsA)))|(refine pv1 (h:=?_) (hr:=by fail))|(refine pvF (h:=?_);intro b)|(refine pvK (h:=?_))|(refine pvK0 (h:=?_))|(refine pv_nil ?_;intro a w F M;refine ql_open ?_)|(refine pv_nil ?_;intro a w F M;(try(replace F:=F.filt zk126 rfl))))|((fail_if_success(with_reducible show wpList _ _ _ _ _ _));(fail_if_success(with_reducible show PW _ _ _ _ _ _ _ _ _ _));(fail_if_success(with_reducible show Code.wp _ (Code.loop _) _ _ _));(first|((with_reducible show Code.wp _ (Code.region _ _ false) _ _ _);(refine sx_region ?_))|((with_reducible show Code.wp _ (Code.cond _ _ _) _ _ _);(first|(refine svT F (h:=?_))|(refine svF F (h:=?_))|((refine svB F (fun hc=>?_) (fun hc=>?_))<;>(try(exact no hc)))))|((with_reducible show Code.wp _ (Code.region _ _ true) _ _ _);(first|(refine zD zd127 F M ?_;clear F M a w)))|go_step))))
    (all_goals((first|(refine svEnd F M ?_)|(refine svRet F M ?_));refine⟨?_,M.perms permsA⟩))
    rw[h2];simp[tupOf,he]
  ·(repeat'(first|(first|(refine sx_nil ?_;(try(replace F:=F.filt zk126 rfl)))|(refine sv1 F M (h:=?_) (hr:=by(apply(rt_neqT (f:=rqL));(exact rfl);(exact rfl);(exact rfl);(exact inferInstance);(exact inferInstance)));clear F a;intro a F)|(refine sv1 F M (h:=?_);clear F a;intro a F)|(refine sv3 F M (h:=?_);clear M;intro w M)|(refine sv2 F M (h:=?_);clear F M a;intro b a w F M)|(refine svC F M (h:=?_);fail;(clear F M a;intro a w F M))|(refine svC0 F M (h:=?_);fail;(clear M;intro w M))|(refine sv1 F M (h:=?_) (hr:=by fail);clear F a;intro a F)|(refine svK F (h:=?_);clear F a;intro a F)|(refine svK0 F (h:=?_))|((refine sx_guardb F rfl (fun hg=>?_) (fun hg=>?_))<;>(rw[hg] at F;(try(exact no hg)))))|(first|(refine pv1 (h:=?_) (hr:=by(apply(rt_neqT (f:=rqL));(exact rfl);(exact rfl);(exact rfl);(exact inferInstance);(exact inferInstance))))|(refine pv1 (h:=?_))|(refine pv3 (h:=?_))|(refine pv2 (h:=?_);intro b)|(refine pvC (h:=?_);fail;(refine⟨?_,?_⟩;(exact rvsA)))|(refine pvC0 (h:=?_);fail;(refine⟨?_,?_⟩;(exact rvsA)))|(refine pv1 (h:=?_) (hr:=by fail))|(refine pvF (h:=?_);intro b)|(refine pvK (h:=?_))|(refine pvK0 (h:=?_))|(refine pv_nil ?_;intro a w F M;refine ql_open ?_)|(refine pv_nil ?_;intro a w F M;(try(replace F:=F.filt zk126 rfl))))|((fail_if_success(with_reducible show wpList _ _ _ _ _ _));(fail_if_success(with_reducible show PW _ _ _ _ _ _ _ _ _ _));(fail_if_success(with_reducible show Code.wp _ (Code.loop _) _ _ _));(first|((with_reducible show Code.wp _ (Code.region _ _ false) _ _ _);(refine sx_region ?_))|((with_reducible show Code.wp _ (Code.cond _ _ _) _ _ _);(first|(refine svT F (h:=?_))|(refine svF F (h:=?_))|((refine svB F (fun hc=>?_) (fun hc=>?_))<;>(try(exact no hc)))))|((with_reducible show Code.wp _ (Code.region _ _ true) _ _ _);(first|(refine zD zd127 F M ?_;clear F M a w)))|go_step))))
   (all_goals((first|(refine svEnd F M ?_)|(refine svRet F M ?_));refine⟨?_,M.perms permsA⟩))
   rw[h2,List.drop_of_length_le (by omega),List.drop_of_length_le (by omega)];rfl
 ·have hne:xs≠ys:=fun e=>hl (by rw[e])
  have hl':¬((xs.length:Int)=(ys.length:Int)):=by omega
  (repeat'(first|(first|(refine sx_nil ?_;(try(replace F:=F.filt zk126 rfl)))|(refine sv1 F M (h:=?_) (hr:=by(apply(rt_neqT (f:=rqL));(exact rfl);(exact rfl);(exact rfl);(exact inferInstance);(exact inferInstance)));clear F a;intro a F)|(refine sv1 F M (h:=?_);clear F a;intro a F)|(refine sv3 F M (h:=?_);clear M;intro w M)|(refine sv2 F M (h:=?_);clear F M a;intro b a w F M)|(refine svC F M (h:=?_);fail;(clear F M a;intro a w F M))|(refine svC0 F M (h:=?_);fail;(clear M;intro w M))|(refine sv1 F M (h:=?_) (hr:=by fail);clear F a;intro a F)|(refine svK F (h:=?_);clear F a;intro a F)|(refine svK0 F (h:=?_))|((refine sx_guardb F rfl (fun hg=>?_) (fun hg=>?_))<;>(rw[hg] at F;(try(exact no hg)))))|(first|(refine pv1 (h:=?_) (hr:=by(apply(rt_neqT (f:=rqL));(exact rfl);(exact rfl);(exact rfl);(exact inferInstance);(exact inferInstance))))|(refine pv1 (h:=?_))|(refine pv3 (h:=?_))|(refine pv2 (h:=?_);intro b)|(refine pvC (h:=?_);fail;(refine⟨?_,?_⟩;(exact rvsA)))|(refine pvC0 (h:=?_);fail;(refine⟨?_,?_⟩;(exact rvsA)))|(refine pv1 (h:=?_) (hr:=by fail))|(refine pvF (h:=?_);intro b)|(refine pvK (h:=?_))|(refine pvK0 (h:=?_))|(refine pv_nil ?_;intro a w F M;refine ql_open ?_)|(refine pv_nil ?_;intro a w F M;(try(replace F:=F.filt zk126 rfl))))|((fail_if_success(with_reducible show wpList _ _ _ _ _ _));(fail_if_success(with_reducible show PW _ _ _ _ _ _ _ _ _ _));(fail_if_success(with_reducible show Code.wp _ (Code.loop _) _ _ _));(first|((with_reducible show Code.wp _ (Code.region _ _ false) _ _ _);(refine sx_region ?_))|((with_reducible show Code.wp _ (Code.cond _ _ _) _ _ _);(first|(refine svT F (h:=?_))|(refine svF F (h:=?_))|((refine svB F (fun hc=>?_) (fun hc=>?_))<;>(try(exact no hc)))))|((with_reducible show Code.wp _ (Code.region _ _ true) _ _ _);(first|(refine zD zd127 F M ?_;clear F M a w)))|go_step))))
  (all_goals((first|(refine svEnd F M ?_)|(refine svRet F M ?_));refine⟨?_,M.perms permsA⟩))
  simp[tupOf,hne]
end
section
open Go.RowKit
section
variable (c:Cfg) (s:St) (a1 a2 a3 a4 a5 a6 b1 b2 b3 b4 b5 b6:SlH) (R:List Asn)
 (ga1:GS R 7 (sl a1) s.V.length (s.V.flatMap valL)) (ga2:GS R 1 (sl a2) s.pe.length (s.pe.flatMap natL)) (ga3:GS R 1 (sl a3) s.fo.length (s.fo.flatMap natL)) (ga4:GS R 1 (sl a4) s.vo.length (s.vo.flatMap natL)) (ga5:GS R 2 (sl a5) s.me.length (s.me.flatMap prL)) (ga6:GS R 2 (sl a6) s.pa.length (s.pa.flatMap rqL))
 (gb1:GS R 7 (sl b1) s.V.length (s.V.flatMap valL)) (gb2:GS R 1 (sl b2) s.pe.length (s.pe.flatMap natL)) (gb3:GS R 1 (sl b3) s.fo.length (s.fo.flatMap natL)) (gb4:GS R 1 (sl b4) s.vo.length (s.vo.flatMap natL)) (gb5:GS R 2 (sl b5) s.me.length (s.me.flatMap prL)) (gb6:GS R 2 (sl b6) s.pa.length (s.pa.flatMap rqL))
include ga1 ga2 ga3 ga4 ga5 ga6 gb1 gb2 gb3 gb4 gb5 gb6
theorem equal_spec:Spec 34 [snV (snOf c s a1 a2 a3 a4 a5 a6),snV (snOf c s b1 b2 b3 b4 b5 b6)] R fun u L'=>u=.bool true∧L'=R:=by
 have e1:∀ {L:List Asn},GS L 7 (sl a1) s.V.length (s.V.flatMap valL)→GS L 7 (sl b1) s.V.length (s.V.flatMap valL)→Reads 27 [sl a1,sl b1] (.bool true) L:=fun g1 g2=>by simpa using eqs_val (sl a1) (sl b1) s.V s.V g1 g2
 have en:∀ (x y:SlH) (l:List Nat) {L:List Asn},GS L 1 (sl x) l.length (l.flatMap natL)→GS L 1 (sl y) l.length (l.flatMap natL)→Reads 20 [sl x,sl y] (.bool true) L:=fun x y l _ g1 g2=>by simpa using eqs_nat (sl x) (sl y) l l g1 g2
 have e5:∀ {L:List Asn},GS L 2 (sl a5) s.me.length (s.me.flatMap prL)→GS L 2 (sl b5) s.me.length (s.me.flatMap prL)→Reads 87 [sl a5,sl b5] (.bool true) L:=fun g1 g2=>by simpa using eqs_pr (sl a5) (sl b5) s.me s.me g1 g2
 have e6:∀ {L:List Asn},GS L 2 (sl a6) s.pa.length (s.pa.flatMap rqL)→GS L 2 (sl b6) s.pa.length (s.pa.flatMap rqL)→Reads 88 [sl a6,sl b6] (.bool true) L:=fun g1 g2=>by simpa using eqs_rq (sl a6) (sl b6) s.pa s.pa g1 g2
 (intro G w M;refine sx_enter (vs:=([snV (snOf c s a1 a2 a3 a4 a5 a6),snV (snOf c s b1 b2 b3 b4 b5 b6)]:List Value)) Tryz.func34 (n:=108) rfl rfl rfl rfl ?_;intro a F;(try simp only[zc,zn] at M))
 replace ga1:GS (R++G) 7 (sl a1) s.V.length (s.V.flatMap valL):=Gives.app ga1
 replace ga2:GS (R++G) 1 (sl a2) s.pe.length (s.pe.flatMap natL):=Gives.app ga2
 replace ga3:GS (R++G) 1 (sl a3) s.fo.length (s.fo.flatMap natL):=Gives.app ga3
 replace ga4:GS (R++G) 1 (sl a4) s.vo.length (s.vo.flatMap natL):=Gives.app ga4
 replace ga5:GS (R++G) 2 (sl a5) s.me.length (s.me.flatMap prL):=Gives.app ga5
 replace ga6:GS (R++G) 2 (sl a6) s.pa.length (s.pa.flatMap rqL):=Gives.app ga6
 replace gb1:GS (R++G) 7 (sl b1) s.V.length (s.V.flatMap valL):=Gives.app gb1
 replace gb2:GS (R++G) 1 (sl b2) s.pe.length (s.pe.flatMap natL):=Gives.app gb2
 replace gb3:GS (R++G) 1 (sl b3) s.fo.length (s.fo.flatMap natL):=Gives.app gb3
 replace gb4:GS (R++G) 1 (sl b4) s.vo.length (s.vo.flatMap natL):=Gives.app gb4
 replace gb5:GS (R++G) 2 (sl b5) s.me.length (s.me.flatMap prL):=Gives.app gb5
 replace gb6:GS (R++G) 2 (sl b6) s.pa.length (s.pa.flatMap rqL):=Gives.app gb6
 (repeat'(first|(first|refine sx_nil ?_|refine pv_nil ?_;intro a w F M);try replace F:=F.filt zk95 rfl|refine zn1 F M ?_;clear F M a;(try clear w);intro a w F M|refine sv2 F M ?_;clear F M a;intro nb a w F M|refine zp1 ?_|refine zp2 ?_;intro nb|((first|refine svC F M ?_|refine svC0 F M ?_|refine pvC ?_|refine pvC0 ?_);((first|((refine acCall (k:=27) ?_);(refine Spec.of_reads (e1 gsA gsA) rfl ?_))|((refine acCall (k:=20) ?_);(first|(refine Spec.of_reads (en a2 b2 s.pe gsA gsA) rfl ?_)|(refine Spec.of_reads (en a3 b3 s.fo gsA gsA) rfl ?_)|(refine Spec.of_reads (en a4 b4 s.vo gsA gsA) rfl ?_)))|((refine acCall (k:=87) ?_);(refine Spec.of_reads (e5 gsA gsA) rfl ?_))|((refine acCall (k:=88) ?_);(refine Spec.of_reads (e6 gsA gsA) rfl ?_))));(first|refine⟨rvsA,?_⟩|clear F M a;intro a w F M|clear M;intro w M))|refine zh F ?_ ?_<;>(intro hg;rw[hg] at F;try exact no hg)|refine zT F ?_|((with_reducible refine isK ?_);refine svB F ?_ ?_<;>intro hc<;>try exact no hc)|refine zY ?_;go_step|fail))
 all_goals refine zE F M ?_
 exact⟨_,_,rfl,⟨congrArg Value.bool (decide_eq_true rfl),rfl⟩,M.perms permsA⟩
end
end
section
open Go.RowKit
theorem opM_rej (c:Cfg) (s:St) (o:Opn) (h:(opM c s o).c≠0):(opM c s o).s=s:=by
 revert h
 unfold opM opDep opLeave opSlash opMerge opPart no'
 repeat'(first|(intro h;rfl)|(intro h;exact absurd rfl h)|split|dsimp only)
theorem step_rej {c:Cfg} {s:St} {o:Opn} (h:(stepM c s o).1.c≠0):(stepM c s o).2=s∧(stepM c s o).1.ix = -1∧(stepM c s o).1.dl = -1∧(stepM c s o).1.asg=[]∧(stepM c s o).1.pms=[]:=by
 unfold stepM at h ⊢
 by_cases h7:o.k=7
 ·rw[if_pos h7] at h;exact absurd rfl h
 ·rw[if_neg h7] at h ⊢
  obtain ⟨h1,h2⟩:=opM_no c s o h
  exact⟨opM_rej c s o h,h1,h2,rfl,rfl⟩
end
def zk131:List Nat:=[0,1,2,4,5,7,9,10,11,20,23,26,27,28,29,67]
section
open Go.RowKit
structure RjZ where
 k:Nat
 H:EH
 s:St
 h1:SlH
 h2:SlH
 h3:SlH
 h4:SlH
 h5:SlH
 h6:SlH
abbrev snS (s:St) (h1 h2 h3 h4 h5 h6:SlH) (R:List Asn):List Asn:=ownT 48 valL 7 (sl h1) s.V::ownT 3 natL 1 (sl h2) s.pe::ownT 3 natL 1 (sl h3) s.fo::ownT 3 natL 1 (sl h4) s.vo::ownT 89 prL 2 (sl h5) s.me::ownT 91 rqL 2 (sl h6) s.pa::R
section
variable (c:Cfg) (v:Value) (l:List Opn) (R:List Asn) (hg:GS R 4 v l.length (l.flatMap opL)) (h0:0≤c.forcedCap) (h1:0≤c.penNum) (hwf:∀ o∈l,I64 o.k∧U64 o.am)
include hg h0 h1 hwf
theorem rejects_law:Spec 8 [cfgV c,v] R fun u L'=>u=.bool true∧L'=R:=by
 have hal:=fun R=>alive22_spec R
 by_cases hF:Fit c l.length
 ·have hck:=hF.ck
  have hcf:CfOk c:=cfOk_of hck h0 h1
  have hnl:=hF.n
  have hnw:=fun R=>eng_new c hcf hck R
  have hft:=fun (R:List Asn) hg=>fits_yes c v l R hg hF
  have hs0:=fun (b:Nat) (H:EH) R=>snap_spec b H c St.ini hcf (Inv.ini hcf) R
  (intro G w M;refine sx_enter (vs:=([cfgV c,v]:List Value)) Tryz.func8 (n:=71) rfl rfl rfl rfl ?_;intro a F;(try simp only[zc,zn] at M))
  have hG:GS (R++G) 4 v l.length (l.flatMap opL):=Gives.app hg
  (repeat'(first|(first|refine sx_nil ?_|refine pv_nil ?_;intro a w F M);try replace F:=F.filt zk131 rfl|refine zn1 F M ?_;clear F M a;(try clear w);intro a w F M|refine sv2 F M ?_;clear F M a;intro nb a w F M|refine zp1 ?_|refine zp2 ?_;intro nb|((first|refine svC F M ?_|refine svC0 F M ?_|refine pvC ?_|refine pvC0 ?_);((first|((refine acW (k:=28) (hnw _) ?_);rintro u L' ⟨eb,H,rfl,rfl⟩)|((refine acW (k:=29) (hft _ ?_) ?_);(exact gsA);rintro u L' ⟨rfl,rfl⟩)|(refine acK (L1:=engL eb H c St.ini _) (k:=33) (hs0 eb H _) ?_;rintro u L' ⟨a1,a2,a3,a4,a5,a6,rfl,rfl⟩)));(first|refine⟨rvsA,?_⟩|clear F M a;intro a w F M|clear M;intro w M))|refine zh F ?_ ?_<;>(intro hg;rw[hg] at F;try exact no hg)|refine zT F ?_|((with_reducible refine isK ?_);refine svB F ?_ ?_<;>intro hc<;>try exact no hc)|refine zY ?_;go_step|fail))
  refine svLoop F M (⟨0,H,St.ini,a1,a2,a3,a4,a5,a6⟩:RjZ) (fun z=>[(28,.int .i64 z.k)]) (fun z=>pt nb (snL (snOf c z.s z.h1 z.h2 z.h3 z.h4 z.h5 z.h6)) 28::snS z.s z.h1 z.h2 z.h3 z.h4 z.h5 z.h6 (engL eb z.H c z.s [])) (fun z=>z.k≤l.length∧Inv c z.s∧z.s.bk≤z.k) (fun z=>l.length - z.k) [] ⟨Nat.zero_le _,Inv.ini hcf,Nat.le_refl _⟩ ?_ (hR:=by(repeat (first|exact Pulls.nil|(apply Pulls.cons;(focus ((repeat (first|exact Pull.here|apply Pull.there));done))))))
  (rintro⟨k,H3,s,a1,a2,a3,a4,a5,a6⟩ ⟨q1,q2,q3⟩ a w F M;(try simp only[zc,zn] at F M q1 q2 q3 ⊢))
  by_cases hk:k<l.length
  ·obtain ⟨o,ho⟩:∃ o,l[k]? = some o:=⟨l[k],by simp[hk]⟩
   obtain ⟨ho1,ho2⟩:=hwf o (List.mem_of_getElem? ho)
   have hap:=fun R=>apply_spec eb H3 c s R hcf q2 (by omega) o ho1 ho2
   obtain ⟨n1,n2⟩:=stepM_inv hcf q2 (by omega) o ho2
   have hrj:(stepM c s o).1.c≠0→_:=step_rej
   simp only[apQ] at hap
   generalize stepM c s o=Y at *
   obtain ⟨⟨y1,y2,y3,y4,y5,y6,y7,y8,y9⟩,s2⟩:=Y
   simp only at hap n1 n2 hrj
   have hsn:=fun (H:EH) R=>snap_spec eb H c s2 hcf n1 R
   obtain ⟨ok,oi,ot,oa⟩:=o
   obtain ⟨b7,rfl⟩:∃ x,x=nb:=⟨_,rfl⟩
   by_cases hy:y2=0
   ·subst hy
    (repeat'(first|(first|refine sx_nil ?_|refine pv_nil ?_;intro a w F M);try replace F:=F.filt zk131 rfl|refine zn1 F M ?_;clear F M a;(try clear w);intro a w F M|refine sv2 F M ?_;clear F M a;intro nb a w F M|refine zp1 ?_|refine zp2 ?_;intro nb|((first|refine svC F M ?_|refine svC0 F M ?_|refine pvC ?_|refine pvC0 ?_);((first|(refine acK (L1:=engL eb H3 c s _) (k:=31) (hap _) ?_;rintro u L' ⟨ha,hp,H4,rfl,rfl⟩)|(refine acK (k:=33) (hsn H4 _) ?_;rintro u L' ⟨b1,b2,b3,b4,b5,b6,rfl,rfl⟩)));(first|refine⟨rvsA,?_⟩|clear F M a;intro a w F M|clear M;intro w M))|refine zh F ?_ ?_<;>(intro hg;rw[hg] at F;try exact no hg)|refine zT F ?_|((with_reducible refine isK ?_);refine svB F ?_ ?_<;>intro hc<;>try exact no hc)|refine zY ?_;go_step|fail))
    exact sv_again F M (⟨k+1,H4,s2,b1,b2,b3,b4,b5,b6⟩:RjZ) kpA permsA ⟨by simp only;omega,n1,by simp only;omega⟩ (by simp only;omega)
   ·obtain ⟨hss,rfl,rfl,rfl,rfl⟩:=hrj hy
    obtain rfl:s=s2:=hss.symm
    have heq:=fun (a1 a2 a3 a4 a5 a6 b1 b2 b3 b4 b5 b6:SlH) (R:List Asn) g1 g2 g3 g4 g5 g6 g7 g8 g9 g10 g11 g12=>equal_spec c s a1 a2 a3 a4 a5 a6 b1 b2 b3 b4 b5 b6 R g1 g2 g3 g4 g5 g6 g7 g8 g9 g10 g11 g12
    have dy:decide (y2≠0)=true:=by simpa using hy
    (repeat'(first|(first|refine sx_nil ?_|refine pv_nil ?_;intro a w F M);try replace F:=F.filt zk131 rfl|refine zn1 F M ?_;clear F M a;(try clear w);intro a w F M|refine sv2 F M ?_;clear F M a;intro nb a w F M|refine zp1 ?_|refine zp2 ?_;intro nb|((first|refine svC F M ?_|refine svC0 F M ?_|refine pvC ?_|refine pvC0 ?_);((first|(refine acK (L1:=engL eb H3 c s _) (k:=31) (hap _) ?_;rintro u L' ⟨ha,hp,H4,rfl,rfl⟩)|(refine acK (k:=33) (hsn H4 _) ?_;rintro u L' ⟨b1,b2,b3,b4,b5,b6,rfl,rfl⟩)|(refine acW (k:=34) (heq a1 a2 a3 a4 a5 a6 b1 b2 b3 b4 b5 b6 _ ?_ ?_ ?_ ?_ ?_ ?_ ?_ ?_ ?_ ?_ ?_ ?_) ?_;(exact gsA);(exact gsA);(exact gsA);(exact gsA);(exact gsA);(exact gsA);(exact gsA);(exact gsA);(exact gsA);(exact gsA);(exact gsA);(exact gsA);rintro u L' ⟨rfl,rfl⟩)));(first|refine⟨rvsA,?_⟩|clear F M a;intro a w F M|clear M;intro w M))|refine zh F ?_ ?_<;>(intro hg;rw[hg] at F;try exact no hg)|refine zT F ?_|((with_reducible refine isK ?_);refine svB F ?_ ?_<;>intro hc<;>try exact no hc)|refine zY ?_;go_step|fail))
    try rw[dy] at F
    try(repeat'(first|(first|refine sx_nil ?_|refine pv_nil ?_;intro a w F M);try replace F:=F.filt zk131 rfl|refine zn1 F M ?_;clear F M a;(try clear w);intro a w F M|refine sv2 F M ?_;clear F M a;intro nb a w F M|refine zp1 ?_|refine zp2 ?_;intro nb|((first|refine svC F M ?_|refine svC0 F M ?_|refine pvC ?_|refine pvC0 ?_);((first|(refine acK (L1:=engL eb H3 c s _) (k:=31) (hap _) ?_;rintro u L' ⟨ha,hp,H4,rfl,rfl⟩)|(refine acK (k:=33) (hsn H4 _) ?_;rintro u L' ⟨b1,b2,b3,b4,b5,b6,rfl,rfl⟩)|(refine acW (k:=34) (heq a1 a2 a3 a4 a5 a6 b1 b2 b3 b4 b5 b6 _ ?_ ?_ ?_ ?_ ?_ ?_ ?_ ?_ ?_ ?_ ?_ ?_) ?_;(exact gsA);(exact gsA);(exact gsA);(exact gsA);(exact gsA);(exact gsA);(exact gsA);(exact gsA);(exact gsA);(exact gsA);(exact gsA);(exact gsA);rintro u L' ⟨rfl,rfl⟩)));(first|refine⟨rvsA,?_⟩|clear F M a;intro a w F M|clear M;intro w M))|refine zh F ?_ ?_<;>(intro hg;rw[hg] at F;try exact no hg)|refine zT F ?_|((with_reducible refine isK ?_);refine svB F ?_ ?_<;>intro hc<;>try exact no hc)|refine zY ?_;go_step|fail))
    exact sv_again F M (⟨k+1,H4,s,b1,b2,b3,b4,b5,b6⟩:RjZ) kpA permsA ⟨by simp only;omega,n1,by simp only;omega⟩ (by simp only;omega)
  ·obtain rfl:k=l.length:=by omega
   (repeat'(first|(first|refine sx_nil ?_|refine pv_nil ?_;intro a w F M);try replace F:=F.filt zk131 rfl|refine zn1 F M ?_;clear F M a;(try clear w);intro a w F M|refine sv2 F M ?_;clear F M a;intro nb a w F M|refine zp1 ?_|refine zp2 ?_;intro nb|((first|refine svC F M ?_|refine svC0 F M ?_|refine pvC ?_|refine pvC0 ?_);(((refine acW (k:=30) (hal _) ?_);rintro u L' ⟨rfl,rfl⟩));(first|refine⟨rvsA,?_⟩|clear F M a;intro a w F M|clear M;intro w M))|refine zh F ?_ ?_<;>(intro hg;rw[hg] at F;try exact no hg)|refine zT F ?_|((with_reducible refine isK ?_);refine svB F ?_ ?_<;>intro hc<;>try exact no hc)|refine zY ?_;go_step|fail))
   all_goals refine zE F M ?_
   exact⟨_,_,rfl,⟨rfl,rfl⟩,M.perms permsA⟩
 ·have hft:=fun (R:List Asn) hg=>fits_no c v l R hg hF
  by_cases hck:checkF c=0
  ·have hcf:CfOk c:=cfOk_of hck h0 h1
   have hnw:=fun R=>eng_new c hcf hck R
   (intro G w M;refine sx_enter (vs:=([cfgV c,v]:List Value)) Tryz.func8 (n:=71) rfl rfl rfl rfl ?_;intro a F;(try simp only[zc,zn] at M))
   have hG:GS (R++G) 4 v l.length (l.flatMap opL):=Gives.app hg
   (repeat'(first|(first|refine sx_nil ?_|refine pv_nil ?_;intro a w F M);try replace F:=F.filt zk131 rfl|refine zn1 F M ?_;clear F M a;(try clear w);intro a w F M|refine sv2 F M ?_;clear F M a;intro nb a w F M|refine zp1 ?_|refine zp2 ?_;intro nb|((first|refine svC F M ?_|refine svC0 F M ?_|refine pvC ?_|refine pvC0 ?_);((first|((refine acW (k:=28) (hnw _) ?_);rintro u L' ⟨eb,H,rfl,rfl⟩)|((refine acW (k:=29) (hft _ ?_) ?_);(exact gsA);rintro u L' ⟨rfl,rfl⟩)|((refine acW (k:=30) (hal _) ?_);rintro u L' ⟨rfl,rfl⟩)));(first|refine⟨rvsA,?_⟩|clear F M a;intro a w F M|clear M;intro w M))|refine zh F ?_ ?_<;>(intro hg;rw[hg] at F;try exact no hg)|refine zT F ?_|((with_reducible refine isK ?_);refine svB F ?_ ?_<;>intro hc<;>try exact no hc)|refine zY ?_;go_step|fail))
   all_goals refine zE F M ?_
   exact⟨_,_,rfl,⟨rfl,rfl⟩,M.perms permsA⟩
  ·have hnw:=fun R=>eng_newN c hck R
   (intro G w M;refine sx_enter (vs:=([cfgV c,v]:List Value)) Tryz.func8 (n:=71) rfl rfl rfl rfl ?_;intro a F;(try simp only[zc,zn] at M))
   have hG:GS (R++G) 4 v l.length (l.flatMap opL):=Gives.app hg
   (repeat'(first|(first|refine sx_nil ?_|refine pv_nil ?_;intro a w F M);try replace F:=F.filt zk131 rfl|refine zn1 F M ?_;clear F M a;(try clear w);intro a w F M|refine sv2 F M ?_;clear F M a;intro nb a w F M|refine zp1 ?_|refine zp2 ?_;intro nb|((first|refine svC F M ?_|refine svC0 F M ?_|refine pvC ?_|refine pvC0 ?_);((first|((refine acW (k:=28) (hnw _) ?_);rintro u L' ⟨rfl,rfl⟩)|((refine acW (k:=29) (hft _ ?_) ?_);(exact gsA);rintro u L' ⟨rfl,rfl⟩)|((refine acW (k:=30) (hal _) ?_);rintro u L' ⟨rfl,rfl⟩)));(first|refine⟨rvsA,?_⟩|clear F M a;intro a w F M|clear M;intro w M))|refine zh F ?_ ?_<;>(intro hg;rw[hg] at F;try exact no hg)|refine zT F ?_|((with_reducible refine isK ?_);refine svB F ?_ ?_<;>intro hc<;>try exact no hc)|refine zY ?_;go_step|fail))
   all_goals refine zE F M ?_
   exact⟨_,_,rfl,⟨rfl,rfl⟩,M.perms permsA⟩
end
end
def zk132:List Nat:=[0,2,3,4,8]
section
open Go.RowKit
theorem rlive_spec (s:Int) (R:List Asn):Spec 92 [.int .i64 s] R fun u L'=>u=.bool (decide (s=2) || decide (s=3))∧L'=R:=by
 (intro G w M;refine sx_enter (vs:=([.int .i64 s]:List Value)) Tryz.func92 (n:=9) rfl rfl rfl rfl ?_;intro a F;(try simp only[zc,zn] at M))
 (repeat'(first|(first|refine sx_nil ?_|refine pv_nil ?_;intro a w F M);try replace F:=F.filt [0,2] rfl|refine zn1 F M ?_;clear F M a;(try clear w);intro a w F M|refine sv2 F M ?_;clear F M a;intro nb a w F M|refine zp1 ?_|refine zp2 ?_;intro nb|((first|refine svC F M ?_|refine svC0 F M ?_|refine pvC ?_|refine pvC0 ?_);(fail);(first|refine⟨rvsA,?_⟩|clear F M a;intro a w F M|clear M;intro w M))|refine zh F ?_ ?_<;>(intro hg;rw[hg] at F;try exact no hg)|refine zT F ?_|((with_reducible refine isK ?_);refine svB F ?_ ?_<;>intro hc<;>try exact no hc)|refine zY ?_;go_step|fail))
 all_goals refine zE F M ?_
 all_goals exact⟨_,_,rfl,⟨by simp_all [tupOf],rfl⟩,M.perms permsA⟩
section
variable (V:List Val) (v:Value) (R:List Asn) (hg:GS R 7 v V.length (V.flatMap valL)) (hlen:V.length≤1000000)
include hg hlen
theorem rbals_spec:Spec 90 [v] R fun u L'=>∃ h,u=sl h∧L'=ownT 23 u64L 1 (sl h) (bals V)::R:=by
 have hbl:(bals V).length=V.length:=by simp[bals]
 (intro G w M;refine sx_enter (vs:=([v]:List Value)) Tryz.func90 (n:=20) rfl rfl rfl rfl ?_;intro a F;(try simp only[zc,zn] at M))
 have hG:GS (R++G) 7 v V.length (V.flatMap valL):=Gives.app hg
 have M:=M.own_nil 23 1
 (repeat'(first|(first|refine sx_nil ?_|refine pv_nil ?_;intro a w F M);try replace F:=F.filt zk132 rfl|refine zn1 F M ?_;clear F M a;(try clear w);intro a w F M|refine sv2 F M ?_;clear F M a;intro nb a w F M|refine zp1 ?_|refine zp2 ?_;intro nb|((first|refine svC F M ?_|refine svC0 F M ?_|refine pvC ?_|refine pvC0 ?_);(fail);(first|refine⟨rvsA,?_⟩|clear F M a;intro a w F M|clear M;intro w M))|refine zh F ?_ ?_<;>(intro hg;rw[hg] at F;try exact no hg)|refine zT F ?_|((with_reducible refine isK ?_);refine svB F ?_ ?_<;>intro hc<;>try exact no hc)|refine zY ?_;go_step|fail))
 refine svLoop F M ((0,nilH):Nat × SlH) (fun s=>[(4,.int .i64 s.1),(3,sl s.2)]) (fun s=>[ownT 23 u64L 1 (sl s.2) ((bals V).take s.1)]) (fun s=>s.1≤V.length) (fun s=>V.length - s.1) [] (Nat.zero_le _) ?_ (hR:=by simp only[List.take_zero];(repeat (first|exact Pulls.nil|(apply Pulls.cons;(focus ((repeat (first|exact Pull.here|apply Pull.there));done))))))
 (rintro⟨k,h⟩ q1 a w F M;(try simp only[zc,zn] at F M q1 ⊢))
 by_cases hlt:k<V.length
 ·obtain ⟨x,hx⟩:∃ x,V[k]? = some x:=⟨V[k],by simp[hlt]⟩
  have ht:(bals V).take (k+1)=(bals V).take k++[x.bal]:=by rw[List.take_add_one,bals_get hx];rfl
  have htl:((bals V).take k).length≤1000000:=by rw[List.length_take];omega
  (repeat'(first|(first|refine sx_nil ?_|refine pv_nil ?_;intro a w F M);try replace F:=F.filt zk132 rfl|refine zn1 F M ?_;clear F M a;(try clear w);intro a w F M|refine sv2 F M ?_;clear F M a;intro nb a w F M|refine zp1 ?_|refine zp2 ?_;intro nb|((first|refine svC F M ?_|refine svC0 F M ?_|refine pvC ?_|refine pvC0 ?_);((refine ac_appendH rfl rfl inferInstance rfl rfl pullA inferInstance (ys:=[x.bal]) gsA rfl rfl (by simp;omega) ?_;intro nv));(first|refine⟨rvsA,?_⟩|clear F M a;intro a w F M|clear M;intro w M))|refine zh F ?_ ?_<;>(intro hg;rw[hg] at F;try exact no hg)|refine zT F ?_|((with_reducible refine isK ?_);refine svB F ?_ ?_<;>intro hc<;>try exact no hc)|refine zY ?_;go_step|fail))
  rw[← ht] at M
  refine sv_again F M (k+1,nv) kpA permsA (by simp only;omega) (by simp only;omega)
 ·obtain rfl:k=V.length:=by omega
  rw[List.take_of_length_le (by omega)] at M
  (repeat'(first|(first|refine sx_nil ?_|refine pv_nil ?_;intro a w F M);try replace F:=F.filt zk132 rfl|refine zn1 F M ?_;clear F M a;(try clear w);intro a w F M|refine sv2 F M ?_;clear F M a;intro nb a w F M|refine zp1 ?_|refine zp2 ?_;intro nb|((first|refine svC F M ?_|refine svC0 F M ?_|refine pvC ?_|refine pvC0 ?_);(fail);(first|refine⟨rvsA,?_⟩|clear F M a;intro a w F M|clear M;intro w M))|refine zh F ?_ ?_<;>(intro hg;rw[hg] at F;try exact no hg)|refine zT F ?_|((with_reducible refine isK ?_);refine svB F ?_ ?_<;>intro hc<;>try exact no hc)|refine zY ?_;go_step|fail))
  (all_goals(refine zE F M ?_;exact⟨_,_,rfl,⟨h,rfl,rfl⟩,M.perms permsA⟩))
end
section
variable (x:Sn) (d:SnD) (c:Cfg) (R:List Asn) (h:SnG R x d) (hl:d.V.length≤1000)
include h hl
end
end
section
open Go.RowKit
def QL (ops:Array Oper) (o:Oper) (Q:Exit→Act→World→Prop):Exit→Act→World→Prop:=fun e a w=>match e with
 | .normal=>wpList Tryz.prog ops Q [o] a w
 | e=>Q e a w
section
variable {ops:Array Oper} {Q:Exit→Act→World→Prop} {o:Oper} {a:Act} {w:World} {n:Nat} {l:List (Nat × Value)} {L:List Asn}
theorem ql_open (h:wpList Tryz.prog ops Q [o] a w):QL ops o Q .normal a w:=h
end
end
def zk133:List Nat:=[0,2,3,4,8,16]
def zk134:List Nat:=[0,2,3]
section
open Go.RowKit
theorem actv_take (V:List Val) (h0:∀ x∈bals V,0≤x) (k:Nat):0≤actv (V.take k)∧actv (V.take k)≤actv V:=by
 have e:actv V=actv (V.take k)+actv (V.drop k):=by
  conv=>lhs;rw[← List.take_append_drop k V]
  unfold actv bals
  rw[List.filter_append,List.map_append,sum_app]
 have h1:=actv_le (V.take k) fun x hx=>h0 x (by unfold bals at hx ⊢;rw[List.map_take] at hx;exact List.mem_of_mem_take hx)
 have h2:=actv_le (V.drop k) fun x hx=>h0 x (by unfold bals at hx ⊢;rw[List.map_drop] at hx;exact List.mem_of_mem_drop hx)
 omega
section
variable (V:List Val) (v:Value) (R:List Asn) (hg:GS R 7 v V.length (V.flatMap valL)) (hlen:V.length≤1000000)
include hg hlen
theorem ractive_spec (h0:∀ x∈bals V,0≤x) (hs:actv V≤18446744073709551615):Spec 41 [v] R fun u L'=>u=.int .u64 (actv V)∧L'=R:=by
 have hat:=actv_take V h0
 (intro G w M;refine sx_enter (vs:=([v]:List Value)) Tryz.func41 (n:=25) rfl rfl rfl rfl ?_;intro a F;(try simp only[zc,zn] at M))
 have hG:GS (R++G) 7 v V.length (V.flatMap valL):=Gives.app hg
 (repeat'(first|(first|refine sx_nil ?_|refine pv_nil ?_;intro a w F M);try replace F:=F.filt zk133 rfl|refine zn1 F M ?_;clear F M a;(try clear w);intro a w F M|refine sv2 F M ?_;clear F M a;intro nb a w F M|refine zp1 ?_|refine zp2 ?_;intro nb|((first|refine svC F M ?_|refine svC0 F M ?_|refine pvC ?_|refine pvC0 ?_);(fail);(first|refine⟨rvsA,?_⟩|clear F M a;intro a w F M|clear M;intro w M))|refine zh F ?_ ?_<;>(intro hg;rw[hg] at F;try exact no hg)|refine zT F ?_|((with_reducible refine isK ?_);refine svB F ?_ ?_<;>intro hc<;>try exact no hc)|refine zY ?_;go_step|fail))
 refine svLoop F M (0:Nat) (fun k=>[(4,.int .i64 k),(3,.int .u64 (actv (V.take k)))]) (fun _=>[]) (fun k=>k≤V.length) (fun k=>V.length - k) [] (Nat.zero_le _) ?_
 (rintro k q1 a w F M;(try simp only[zc,zn] at F M q1 ⊢))
 by_cases hlt:k<V.length
 ·obtain ⟨x,hx⟩:∃ x,V[k]? = some x:=⟨V[k],by simp[hlt]⟩
  have hlv:=fun R=>rlive_spec x.st R
  rw[show(decide (x.st=2) || decide (x.st=3))=x.live from rfl] at hlv
  have ht:actv (V.take (k+1))=actv (V.take k)+(if x.live=true then x.bal else 0):=by
   unfold actv bals
   rw[List.take_add_one,hx,List.filter_append];cases hp:x.live<;>simp[hp]
  have hx0:0≤x.bal:=h0 _ (List.mem_of_getElem? (bals_get hx))
  have ha:=hat k
  have hb:=hat (k+1)
  cases hp:x.live
  all_goals rw[hp] at hlv ht
  ·rw[if_neg (by decide),Int.add_zero] at ht
   (repeat'(first|(first|refine sx_nil ?_|refine pv_nil ?_;intro a w F M);try replace F:=F.filt zk133 rfl|refine zn1 F M ?_;clear F M a;(try clear w);intro a w F M|refine sv2 F M ?_;clear F M a;intro nb a w F M|refine zp1 ?_|refine zp2 ?_;intro nb|((first|refine svC F M ?_|refine svC0 F M ?_|refine pvC ?_|refine pvC0 ?_);(((refine acW (k:=92) (hlv _) ?_);rintro u L' ⟨rfl,rfl⟩));(first|refine⟨rvsA,?_⟩|clear F M a;intro a w F M|clear M;intro w M))|refine zh F ?_ ?_<;>(intro hg;rw[hg] at F;try exact no hg)|refine zT F ?_|((with_reducible refine isK ?_);refine svB F ?_ ?_<;>intro hc<;>try exact no hc)|refine zY ?_;go_step|fail))
   rw[← ht] at F
   exact sv_again F M (k+1) kpA permsA (by omega) (by omega)
  ·rw[if_pos rfl] at ht
   (repeat'(first|(first|refine sx_nil ?_|refine pv_nil ?_;intro a w F M);try replace F:=F.filt zk133 rfl|refine zn1 F M ?_;clear F M a;(try clear w);intro a w F M|refine sv2 F M ?_;clear F M a;intro nb a w F M|refine zp1 ?_|refine zp2 ?_;intro nb|((first|refine svC F M ?_|refine svC0 F M ?_|refine pvC ?_|refine pvC0 ?_);(((refine acW (k:=92) (hlv _) ?_);rintro u L' ⟨rfl,rfl⟩));(first|refine⟨rvsA,?_⟩|clear F M a;intro a w F M|clear M;intro w M))|refine zh F ?_ ?_<;>(intro hg;rw[hg] at F;try exact no hg)|refine zT F ?_|((with_reducible refine isK ?_);refine svB F ?_ ?_<;>intro hc<;>try exact no hc)|refine zY ?_;go_step|fail))
   rw[← ht] at F
   exact sv_again F M (k+1) kpA permsA (by omega) (by omega)
 ·obtain rfl:k=V.length:=by omega
  rw[List.take_length] at F
  (repeat'(first|(first|refine sx_nil ?_|refine pv_nil ?_;intro a w F M);try replace F:=F.filt zk133 rfl|refine zn1 F M ?_;clear F M a;(try clear w);intro a w F M|refine sv2 F M ?_;clear F M a;intro nb a w F M|refine zp1 ?_|refine zp2 ?_;intro nb|((first|refine svC F M ?_|refine svC0 F M ?_|refine pvC ?_|refine pvC0 ?_);(fail);(first|refine⟨rvsA,?_⟩|clear F M a;intro a w F M|clear M;intro w M))|refine zh F ?_ ?_<;>(intro hg;rw[hg] at F;try exact no hg)|refine zT F ?_|((with_reducible refine isK ?_);refine svB F ?_ ?_<;>intro hc<;>try exact no hc)|refine zY ?_;go_step|fail))
  all_goals exact zX F M
theorem rfits7_spec (hb:∀ z∈bals V,U64 z):Spec 38 [v] R fun u L'=>u=.bool (addR (bals V)).2∧L'=R:=by
 have hbb:=fun (R:List Asn) hg=>rbals_spec V v R hg hlen
 have ha:∀ {L:List Asn} {v:Value},GS L 1 v (bals V).length ((bals V).flatMap u64L)→Reads 89 [v] (.tuple [.int .u64 (addR (bals V)).1,.bool (addR (bals V)).2].toArray) L:=fun hg=>radd_reads _ _ hb hg
 generalize addR (bals V)=X at *
 obtain ⟨X1,X2⟩:=X
 (intro G w M;refine sx_enter (vs:=([v]:List Value)) Tryz.func38 (n:=12) rfl rfl rfl rfl ?_;intro a F;(try simp only[zc,zn] at M))
 have hG:GS (R++G) 7 v V.length (V.flatMap valL):=Gives.app hg
 (repeat'(first|(first|refine sx_nil ?_|refine pv_nil ?_;intro a w F M);try replace F:=F.filt zk5 rfl|refine zn1 F M ?_;clear F M a;(try clear w);intro a w F M|refine sv2 F M ?_;clear F M a;intro nb a w F M|refine zp1 ?_|refine zp2 ?_;intro nb|((first|refine svC F M ?_|refine svC0 F M ?_|refine pvC ?_|refine pvC0 ?_);((first|(refine acW (k:=90) (hbb _ ?_) ?_;(exact gsA);rintro u L' ⟨hv,rfl,rfl⟩)|((refine acCall (k:=89) ?_);(refine Spec.of_reads (ha (gs_own pullA)) rfl ?_))));(first|refine⟨rvsA,?_⟩|clear F M a;intro a w F M|clear M;intro w M))|refine zh F ?_ ?_<;>(intro hg;rw[hg] at F;try exact no hg)|refine zT F ?_|((with_reducible refine isK ?_);refine svB F ?_ ?_<;>intro hc<;>try exact no hc)|refine zY ?_;go_step|fail))
 all_goals exact zX F M
theorem rtotal7_spec (hb:∀ z∈bals V,U64 z):Spec 40 [v] R fun u L'=>u=.int .u64 (addR (bals V)).1∧L'=R:=by
 have hbb:=fun (R:List Asn) hg=>rbals_spec V v R hg hlen
 have ha:∀ {L:List Asn} {v:Value},GS L 1 v (bals V).length ((bals V).flatMap u64L)→Reads 89 [v] (.tuple [.int .u64 (addR (bals V)).1,.bool (addR (bals V)).2].toArray) L:=fun hg=>radd_reads _ _ hb hg
 generalize addR (bals V)=X at *
 obtain ⟨X1,X2⟩:=X
 (intro G w M;refine sx_enter (vs:=([v]:List Value)) Tryz.func40 (n:=12) rfl rfl rfl rfl ?_;intro a F;(try simp only[zc,zn] at M))
 have hG:GS (R++G) 7 v V.length (V.flatMap valL):=Gives.app hg
 (repeat'(first|(first|refine sx_nil ?_|refine pv_nil ?_;intro a w F M);try replace F:=F.filt zk134 rfl|refine zn1 F M ?_;clear F M a;(try clear w);intro a w F M|refine sv2 F M ?_;clear F M a;intro nb a w F M|refine zp1 ?_|refine zp2 ?_;intro nb|((first|refine svC F M ?_|refine svC0 F M ?_|refine pvC ?_|refine pvC0 ?_);((first|(refine acW (k:=90) (hbb _ ?_) ?_;(exact gsA);rintro u L' ⟨hv,rfl,rfl⟩)|((refine acCall (k:=89) ?_);(refine Spec.of_reads (ha (gs_own pullA)) rfl ?_))));(first|refine⟨rvsA,?_⟩|clear F M a;intro a w F M|clear M;intro w M))|refine zh F ?_ ?_<;>(intro hg;rw[hg] at F;try exact no hg)|refine zT F ?_|((with_reducible refine isK ?_);refine svB F ?_ ?_<;>intro hc<;>try exact no hc)|refine zY ?_;go_step|fail))
 all_goals exact zX F M
end
section
variable (W:List Int) (v:Value) (R:List Asn) (hg:GS R 1 v W.length (W.flatMap u64L))
include hg
end
section
variable (ln mt size:Nat) (W:List Int) (v:Value) (R:List Asn) (hg:GS R 1 v W.length (W.flatMap u64L)) (hW:∀ x∈W,U64 x) (fo vo:List Nat) (hf:fo.length≤4096) (hv:vo.length≤4096) (ca x ep:Int) (hca:U64 ca) (hx:U64 x) (hep:0≤ep∧ep≤1099511627776)
include hg hW hf hv hca hx hep
end
section
variable (W:List Int) (v:Value) (R:List Asn) (hg:GS R 1 v W.length (W.flatMap u64L)) (hW:∀ x∈W,U64 x) (l:List Nat) (hl:SlH) (hgl:GS R 1 (sl hl) l.length (l.flatMap natL)) (hln:l.length≤4096) (hlc:l.length≤hl.c) (lim:Int) (hlim:U64 lim)
include hg hW hgl hln hlc hlim
end
end
section
open Go.RowKit
section
variable (y1 y2:Val) (c:Cfg) (R:List Asn)
end
section
variable (V:List Val) (v:Value) (R:List Asn) (hg:GS R 7 v V.length (V.flatMap valL)) (hl:V.length≤1000000)
include hg hl
end
theorem parV_u64 (c:Cfg) (hc:CfOk c) (Z:List Val × List Pm) (hZ:∀ v∈Z.1,U64 v.bal) (r:Nat × Int) (hr:0≤r.2):∀ v∈(parV c Z r).1,U64 v.bal:=by
 unfold parV
 cases h:Z.1[r.1]? with
 | none=>exact hZ
 | some v =>
  intro x hx
  have hv:=hZ v (List.mem_of_getElem? h)
  have ha:=avail_le c hc v hv
  have v1:=hv.1;have v2:=hv.2
  rcases List.mem_or_eq_of_mem_set hx with hx|rfl
  ·exact hZ x hx
  ·exact⟨by simp only;omega,by simp only;omega⟩
section
variable (V:List Val) (v:Value) (R:List Asn) (hg:GS R 7 v V.length (V.flatMap valL)) (hl:V.length≤4096)
include hg hl
end
end
def zk135:List Nat:=[0,2,3,4,6,8,9,10,11,12,16,17,18,19]
section
open Go.RowKit
def amts (xs:List RcS):List Int:=xs.flatMap fun x=>x.r.pms.map Pm.am
theorem amts_take {xs:List RcS} {i:Nat} {x:RcS} (h:xs[i]? = some x):amts (xs.take (i+1))=amts (xs.take i)++x.r.pms.map Pm.am:=by
 rw[List.take_add_one,h];simp[amts]
theorem amts_len {xs:List RcS} (h:∀ x∈xs,x.r.pms.length≤5000):(amts xs).length≤5000*xs.length:=by
 induction xs with
 | nil=>simp[amts]
 | cons x r ih =>
  have h1:=h x (by simp)
  have h2:=ih fun y hy=>h y (by simp[hy])
  simp[amts] at h2 ⊢
  omega
theorem paid_spec (v:Value) (xs:List RcS) {L:List Asn} (hg:GS L 9 v xs.length (xs.flatMap rsL)) (hr:∀ x∈xs,RcG L x.r x.s x.p) (hn:xs.length≤60) (hm:∀ x∈xs,x.r.pms.length≤5000) (hz:∀ z∈amts xs,U64 z) :
  Reads 37 [v] (.tuple [.int .u64 (addR (amts xs)).1,.bool (addR (amts xs)).2].toArray) L:=by
 (intro K hK w M;refine sx_enter (vs:=[v]) Tryz.func37 (n:=33) rfl rfl rfl rfl ?_;intro a F)
 replace hg:=hg.imp hK
 replace hr:∀ x∈xs,RcG K x.r x.s x.p:=fun x hx=>(hr x hx).imp hK
 generalize hR:addR (amts xs)=R
 replace M:=M.own_nil 23 1
 (repeat'(first|(first|(refine sx_nil ?_;(try(replace F:=F.filt zk135 rfl)))|(refine sv1 F M (h:=?_) (hr:=by fail);clear F a;intro a F)|(refine sv1 F M (h:=?_);clear F a;intro a F)|(refine sv3 F M (h:=?_);clear M;intro w M)|(refine sv2 F M (h:=?_);clear F M a;intro b a w F M)|(refine svC F M (h:=?_);fail;(clear F M a;intro a w F M))|(refine svC0 F M (h:=?_);fail;(clear M;intro w M))|(refine sv1 F M (h:=?_) (hr:=by fail);clear F a;intro a F)|(refine svK F (h:=?_);clear F a;intro a F)|(refine svK0 F (h:=?_))|((refine sx_guardb F rfl (fun hg=>?_) (fun hg=>?_))<;>(rw[hg] at F;(try(exact no hg)))))|(first|(refine pv1 (h:=?_) (hr:=by fail))|(refine pv1 (h:=?_))|(refine pv3 (h:=?_))|(refine pv2 (h:=?_);intro b)|(refine pvC (h:=?_);fail;(refine⟨?_,?_⟩;(exact rvsA)))|(refine pvC0 (h:=?_);fail;(refine⟨?_,?_⟩;(exact rvsA)))|(refine pv1 (h:=?_) (hr:=by fail))|(refine pvF (h:=?_);intro b)|(refine pvK (h:=?_))|(refine pvK0 (h:=?_))|(refine pv_nil ?_;intro a w F M;refine ql_open ?_)|(refine pv_nil ?_;intro a w F M;(try(replace F:=F.filt zk135 rfl))))|((fail_if_success(with_reducible show wpList _ _ _ _ _ _));(fail_if_success(with_reducible show PW _ _ _ _ _ _ _ _ _ _));(fail_if_success(with_reducible show Code.wp _ (Code.loop _) _ _ _));(first|((with_reducible show Code.wp _ (Code.region _ _ false) _ _ _);(refine sx_region ?_))|((with_reducible show Code.wp _ (Code.cond _ _ _) _ _ _);(first|(refine svT F (h:=?_))|(refine svF F (h:=?_))|((refine svB F (fun hc=>?_) (fun hc=>?_))<;>(try(exact no hc)))))|((with_reducible show Code.wp _ (Code.region _ _ true) _ _ _);fail)|go_step))))
 refine svLoop F M ((0,nilH):Nat × SlH) (fun s=>[(4,sl s.2),(11,.int .i64 s.1)]) (fun s=>[ownT 23 u64L 1 (sl s.2) (amts (xs.take s.1))]) (fun s=>s.1≤xs.length) (fun s=>xs.length - s.1) [] (by simp) ?_
 (rintro⟨k,h⟩ q a w F M;(try simp only[zc,zn] at F M q ⊢))
 try simp only at q F M ⊢
 by_cases hlt:k<xs.length
 ·obtain ⟨x,hx⟩:∃ x,xs[k]? = some x:=⟨xs[k],by simp[hlt]⟩
  have hmem:=List.mem_of_getElem? hx
  have hxp:=(hr x hmem).p
  have hxl:=hm x hmem
  have hal:(amts (xs.take k)).length≤5000*60:=by
   have:=amts_len (xs:=xs.take k) fun y hy=>hm y (List.mem_of_mem_take hy)
   simp at this;omega
  (repeat'(first|(first|(refine sx_nil ?_;(try(replace F:=F.filt zk135 rfl)))|(refine sv1 F M (h:=?_) (hr:=by fail);clear F a;intro a F)|(refine sv1 F M (h:=?_);clear F a;intro a F)|(refine sv3 F M (h:=?_);clear M;intro w M)|(refine sv2 F M (h:=?_);clear F M a;intro b a w F M)|(refine svC F M (h:=?_);fail;(clear F M a;intro a w F M))|(refine svC0 F M (h:=?_);fail;(clear M;intro w M))|(refine sv1 F M (h:=?_) (hr:=by fail);clear F a;intro a F)|(refine svK F (h:=?_);clear F a;intro a F)|(refine svK0 F (h:=?_))|((refine sx_guardb F rfl (fun hg=>?_) (fun hg=>?_))<;>(rw[hg] at F;(try(exact no hg)))))|(first|(refine pv1 (h:=?_) (hr:=by fail))|(refine pv1 (h:=?_))|(refine pv3 (h:=?_))|(refine pv2 (h:=?_);intro b)|(refine pvC (h:=?_);fail;(refine⟨?_,?_⟩;(exact rvsA)))|(refine pvC0 (h:=?_);fail;(refine⟨?_,?_⟩;(exact rvsA)))|(refine pv1 (h:=?_) (hr:=by fail))|(refine pvF (h:=?_);intro b)|(refine pvK (h:=?_))|(refine pvK0 (h:=?_))|(refine pv_nil ?_;intro a w F M;refine ql_open ?_)|(refine pv_nil ?_;intro a w F M;(try(replace F:=F.filt zk135 rfl))))|((fail_if_success(with_reducible show wpList _ _ _ _ _ _));(fail_if_success(with_reducible show PW _ _ _ _ _ _ _ _ _ _));(fail_if_success(with_reducible show Code.wp _ (Code.loop _) _ _ _));(first|((with_reducible show Code.wp _ (Code.region _ _ false) _ _ _);(refine sx_region ?_))|((with_reducible show Code.wp _ (Code.cond _ _ _) _ _ _);(first|(refine svT F (h:=?_))|(refine svF F (h:=?_))|((refine svB F (fun hc=>?_) (fun hc=>?_))<;>(try(exact no hc)))))|((with_reducible show Code.wp _ (Code.region _ _ true) _ _ _);fail)|go_step))))
  refine svLoop F M ((0,h):Nat × SlH) (fun s=>[(4,sl s.2),(18,.int .i64 s.1)]) (fun s=>[ownT 23 u64L 1 (sl s.2) (amts (xs.take k)++(x.r.pms.take s.1).map Pm.am)]) (fun s=>s.1≤x.r.pms.length) (fun s=>x.r.pms.length - s.1) [] (by simp) ?_ (hR:=.cons (by simp only[List.take_zero,List.map_nil,List.append_nil];(focus ((repeat (first|exact Pull.here|apply Pull.there));done))) .nil)
  (rintro⟨j,h'⟩ q' a w F M;(try simp only[zc,zn] at F M q' ⊢))
  try simp only at q' F M ⊢
  by_cases hlt':j<x.r.pms.length
  ·obtain ⟨y,hy⟩:∃ y,x.r.pms[j]? = some y:=⟨x.r.pms[j],by simp[hlt']⟩
   (repeat'(first|(first|(refine sx_nil ?_;(try(replace F:=F.filt zk135 rfl)))|(refine sv1 F M (h:=?_) (hr:=by fail);clear F a;intro a F)|(refine sv1 F M (h:=?_);clear F a;intro a F)|(refine sv3 F M (h:=?_);clear M;intro w M)|(refine sv2 F M (h:=?_);clear F M a;intro b a w F M)|(refine svC F M (h:=?_);(refine ac_appendH (f:=u64L) (xs:=amts (xs.take k)++(x.r.pms.take j).map Pm.am) (ys:=[y.am]) rfl rfl inferInstance rfl rfl (by(focus ((repeat (first|exact Pull.here|apply Pull.there));done))) inferInstance (gs_own (by(focus ((repeat (first|exact Pull.here|apply Pull.there));done)))) rfl rfl (by simp;omega) ?_;intro v');(clear F M a;intro a w F M))|(refine svC0 F M (h:=?_);(refine ac_appendH (f:=u64L) (xs:=amts (xs.take k)++(x.r.pms.take j).map Pm.am) (ys:=[y.am]) rfl rfl inferInstance rfl rfl (by(focus ((repeat (first|exact Pull.here|apply Pull.there));done))) inferInstance (gs_own (by(focus ((repeat (first|exact Pull.here|apply Pull.there));done)))) rfl rfl (by simp;omega) ?_;intro v');(clear M;intro w M))|(refine sv1 F M (h:=?_) (hr:=by fail);clear F a;intro a F)|(refine svK F (h:=?_);clear F a;intro a F)|(refine svK0 F (h:=?_))|((refine sx_guardb F rfl (fun hg=>?_) (fun hg=>?_))<;>(rw[hg] at F;(try(exact no hg)))))|(first|(refine pv1 (h:=?_) (hr:=by fail))|(refine pv1 (h:=?_))|(refine pv3 (h:=?_))|(refine pv2 (h:=?_);intro b)|(refine pvC (h:=?_);(refine ac_appendH (f:=u64L) (xs:=amts (xs.take k)++(x.r.pms.take j).map Pm.am) (ys:=[y.am]) rfl rfl inferInstance rfl rfl (by(focus ((repeat (first|exact Pull.here|apply Pull.there));done))) inferInstance (gs_own (by(focus ((repeat (first|exact Pull.here|apply Pull.there));done)))) rfl rfl (by simp;omega) ?_;intro v');(refine⟨?_,?_⟩;(exact rvsA)))|(refine pvC0 (h:=?_);(refine ac_appendH (f:=u64L) (xs:=amts (xs.take k)++(x.r.pms.take j).map Pm.am) (ys:=[y.am]) rfl rfl inferInstance rfl rfl (by(focus ((repeat (first|exact Pull.here|apply Pull.there));done))) inferInstance (gs_own (by(focus ((repeat (first|exact Pull.here|apply Pull.there));done)))) rfl rfl (by simp;omega) ?_;intro v');(refine⟨?_,?_⟩;(exact rvsA)))|(refine pv1 (h:=?_) (hr:=by fail))|(refine pvF (h:=?_);intro b)|(refine pvK (h:=?_))|(refine pvK0 (h:=?_))|(refine pv_nil ?_;intro a w F M;refine ql_open ?_)|(refine pv_nil ?_;intro a w F M;(try(replace F:=F.filt zk135 rfl))))|((fail_if_success(with_reducible show wpList _ _ _ _ _ _));(fail_if_success(with_reducible show PW _ _ _ _ _ _ _ _ _ _));(fail_if_success(with_reducible show Code.wp _ (Code.loop _) _ _ _));(first|((with_reducible show Code.wp _ (Code.region _ _ false) _ _ _);(refine sx_region ?_))|((with_reducible show Code.wp _ (Code.cond _ _ _) _ _ _);(first|(refine svT F (h:=?_))|(refine svF F (h:=?_))|((refine svB F (fun hc=>?_) (fun hc=>?_))<;>(try(exact no hc)))))|((with_reducible show Code.wp _ (Code.region _ _ true) _ _ _);fail)|go_step))))
   rw[List.append_assoc,← take_map hy] at M
   (refine sv_again F M (j+1,v') kpA permsA ?_ ?_)
   ·simp only;omega
   ·simp only;omega
  ·have e1:amts (xs.take k)++(x.r.pms.take j).map Pm.am=amts (xs.take (k+1)):=by rw[amts_take hx,List.take_of_length_le (l:=x.r.pms) (by omega)]
   rw[e1] at M
   (repeat'(first|(first|(refine sx_nil ?_;(try(replace F:=F.filt zk135 rfl)))|(refine sv1 F M (h:=?_) (hr:=by fail);clear F a;intro a F)|(refine sv1 F M (h:=?_);clear F a;intro a F)|(refine sv3 F M (h:=?_);clear M;intro w M)|(refine sv2 F M (h:=?_);clear F M a;intro b a w F M)|(refine svC F M (h:=?_);(refine ac_appendH (f:=u64L) (xs:=amts (xs.take k)++(x.r.pms.take j).map Pm.am) (ys:=[y.am]) rfl rfl inferInstance rfl rfl (by(focus ((repeat (first|exact Pull.here|apply Pull.there));done))) inferInstance (gs_own (by(focus ((repeat (first|exact Pull.here|apply Pull.there));done)))) rfl rfl (by simp;omega) ?_;intro v');(clear F M a;intro a w F M))|(refine svC0 F M (h:=?_);(refine ac_appendH (f:=u64L) (xs:=amts (xs.take k)++(x.r.pms.take j).map Pm.am) (ys:=[y.am]) rfl rfl inferInstance rfl rfl (by(focus ((repeat (first|exact Pull.here|apply Pull.there));done))) inferInstance (gs_own (by(focus ((repeat (first|exact Pull.here|apply Pull.there));done)))) rfl rfl (by simp;omega) ?_;intro v');(clear M;intro w M))|(refine sv1 F M (h:=?_) (hr:=by fail);clear F a;intro a F)|(refine svK F (h:=?_);clear F a;intro a F)|(refine svK0 F (h:=?_))|((refine sx_guardb F rfl (fun hg=>?_) (fun hg=>?_))<;>(rw[hg] at F;(try(exact no hg)))))|(first|(refine pv1 (h:=?_) (hr:=by fail))|(refine pv1 (h:=?_))|(refine pv3 (h:=?_))|(refine pv2 (h:=?_);intro b)|(refine pvC (h:=?_);(refine ac_appendH (f:=u64L) (xs:=amts (xs.take k)++(x.r.pms.take j).map Pm.am) (ys:=[y.am]) rfl rfl inferInstance rfl rfl (by(focus ((repeat (first|exact Pull.here|apply Pull.there));done))) inferInstance (gs_own (by(focus ((repeat (first|exact Pull.here|apply Pull.there));done)))) rfl rfl (by simp;omega) ?_;intro v');(refine⟨?_,?_⟩;(exact rvsA)))|(refine pvC0 (h:=?_);(refine ac_appendH (f:=u64L) (xs:=amts (xs.take k)++(x.r.pms.take j).map Pm.am) (ys:=[y.am]) rfl rfl inferInstance rfl rfl (by(focus ((repeat (first|exact Pull.here|apply Pull.there));done))) inferInstance (gs_own (by(focus ((repeat (first|exact Pull.here|apply Pull.there));done)))) rfl rfl (by simp;omega) ?_;intro v');(refine⟨?_,?_⟩;(exact rvsA)))|(refine pv1 (h:=?_) (hr:=by fail))|(refine pvF (h:=?_);intro b)|(refine pvK (h:=?_))|(refine pvK0 (h:=?_))|(refine pv_nil ?_;intro a w F M;refine ql_open ?_)|(refine pv_nil ?_;intro a w F M;(try(replace F:=F.filt zk135 rfl))))|((fail_if_success(with_reducible show wpList _ _ _ _ _ _));(fail_if_success(with_reducible show PW _ _ _ _ _ _ _ _ _ _));(fail_if_success(with_reducible show Code.wp _ (Code.loop _) _ _ _));(first|((with_reducible show Code.wp _ (Code.region _ _ false) _ _ _);(refine sx_region ?_))|((with_reducible show Code.wp _ (Code.cond _ _ _) _ _ _);(first|(refine svT F (h:=?_))|(refine svF F (h:=?_))|((refine svB F (fun hc=>?_) (fun hc=>?_))<;>(try(exact no hc)))))|((with_reducible show Code.wp _ (Code.region _ _ true) _ _ _);fail)|go_step))))
   (refine sv_again F M (k+1,h') kpA permsA ?_ ?_)
   ·simp only;omega
   ·simp only;omega
 ·have e1:amts (xs.take k)=amts xs:=by rw[List.take_of_length_le (by omega)]
  rw[e1] at M
  (repeat'(first|(first|(refine sx_nil ?_;(try(replace F:=F.filt zk135 rfl)))|(refine sv1 F M (h:=?_) (hr:=by fail);clear F a;intro a F)|(refine sv1 F M (h:=?_);clear F a;intro a F)|(refine sv3 F M (h:=?_);clear M;intro w M)|(refine sv2 F M (h:=?_);clear F M a;intro b a w F M)|(refine svC F M (h:=?_);((refine acCall (k:=39) ?_);(refine Spec.of_reads (gadd_reads (sl h) (amts xs) hz (gs_own pullA)) rfl ?_));(clear F M a;intro a w F M))|(refine svC0 F M (h:=?_);((refine acCall (k:=39) ?_);(refine Spec.of_reads (gadd_reads (sl h) (amts xs) hz (gs_own pullA)) rfl ?_));(clear M;intro w M))|(refine sv1 F M (h:=?_) (hr:=by fail);clear F a;intro a F)|(refine svK F (h:=?_);clear F a;intro a F)|(refine svK0 F (h:=?_))|((refine sx_guardb F rfl (fun hg=>?_) (fun hg=>?_))<;>(rw[hg] at F;(try(exact no hg)))))|(first|(refine pv1 (h:=?_) (hr:=by fail))|(refine pv1 (h:=?_))|(refine pv3 (h:=?_))|(refine pv2 (h:=?_);intro b)|(refine pvC (h:=?_);((refine acCall (k:=39) ?_);(refine Spec.of_reads (gadd_reads (sl h) (amts xs) hz (gs_own pullA)) rfl ?_));(refine⟨?_,?_⟩;(exact rvsA)))|(refine pvC0 (h:=?_);((refine acCall (k:=39) ?_);(refine Spec.of_reads (gadd_reads (sl h) (amts xs) hz (gs_own pullA)) rfl ?_));(refine⟨?_,?_⟩;(exact rvsA)))|(refine pv1 (h:=?_) (hr:=by fail))|(refine pvF (h:=?_);intro b)|(refine pvK (h:=?_))|(refine pvK0 (h:=?_))|(refine pv_nil ?_;intro a w F M;refine ql_open ?_)|(refine pv_nil ?_;intro a w F M;(try(replace F:=F.filt zk135 rfl))))|((fail_if_success(with_reducible show wpList _ _ _ _ _ _));(fail_if_success(with_reducible show PW _ _ _ _ _ _ _ _ _ _));(fail_if_success(with_reducible show Code.wp _ (Code.loop _) _ _ _));(first|((with_reducible show Code.wp _ (Code.region _ _ false) _ _ _);(refine sx_region ?_))|((with_reducible show Code.wp _ (Code.cond _ _ _) _ _ _);(first|(refine svT F (h:=?_))|(refine svF F (h:=?_))|((refine svB F (fun hc=>?_) (fun hc=>?_))<;>(try(exact no hc)))))|((with_reducible show Code.wp _ (Code.region _ _ true) _ _ _);fail)|go_step))))
  (all_goals((first|(refine svEnd F M ?_)|(refine svRet F M ?_));refine⟨?_,M.perms permsA⟩))
  rw[← hR];rfl
end
end Go.Proofs.YtopbohbkhljjgaaGreat
