import Derived.Test.YtopbohbkhljjgaaGreatZpn
set_option linter.unusedVariables false
set_option linter.unusedSimpArgs false
set_option maxRecDepth 100000
set_option maxHeartbeats 8000000
namespace Go.Proofs.YtopbohbkhljjgaaGreat
def zk127:List Nat:=[0,1,2,3,4,5,6,71,76,89,94,107]
def zd128:List ZR:=[⟨6,[],[],[],[0,1,2,3,4,5,6,7,8,9,10]⟩,⟨11,[],[],[],[0,1,2,3,4,5,6,7,8,9,10]⟩]
section
open Go.RowKit
section
variable {x y:Rc} {sx px sy py:SlH} {L:List Asn}
theorem rsame_reads (hx:RcG L x sx px) (hy:RcG L y sy py):Reads 44 [rcV x sx px,rcV y sy py] (.bool (decide (x=y))) L:=by
 generalize hR:decide (x=y)=R
 (intro K hK w M;refine sx_enter (vs:=[rcV x sx px,rcV y sy py]) Tryz.func44 (n:=108) rfl rfl rfl rfl ?_;intro a F)
 have h1:=hx.a.imp hK
 have h2:=hx.p.imp hK
 have h3:=hy.a.imp hK
 have h4:=hy.p.imp hK
 have hl1:=h1.len_le M
 have hl2:=h2.len_le M
 have hl3:=h3.len_le M
 have hl4:=h4.len_le M
 (repeat'(first|(first|(refine sx_nil ?_;(try(replace F:=F.filt zk127 rfl)))|(refine sv1 F M (h:=?_) (hr:=by(first|(apply(rt_neqT (f:=asgL));(exact rfl);(exact rfl);(exact rfl);(exact inferInstance);(exact inferInstance))|(apply(rt_neqT (f:=pmL));(exact rfl);(exact rfl);(exact rfl);(exact inferInstance);(exact inferInstance))));clear F a;intro a F)|(refine sv1 F M (h:=?_);clear F a;intro a F)|(refine sv3 F M (h:=?_);clear M;intro w M)|(refine sv2 F M (h:=?_);clear F M a;intro b a w F M)|(refine svC F M (h:=?_);fail;(clear F M a;intro a w F M))|(refine svC0 F M (h:=?_);fail;(clear M;intro w M))|(refine sv1 F M (h:=?_) (hr:=by fail);clear F a;intro a F)|(refine svK F (h:=?_);clear F a;intro a F)|(refine svK0 F (h:=?_))|((refine sx_guardb F rfl (fun hg=>?_) (fun hg=>?_))<;>(rw[hg] at F;(try(exact no hg)))))|(first|(refine pv1 (h:=?_) (hr:=by(first|(apply(rt_neqT (f:=asgL));(exact rfl);(exact rfl);(exact rfl);(exact inferInstance);(exact inferInstance))|(apply(rt_neqT (f:=pmL));(exact rfl);(exact rfl);(exact rfl);(exact inferInstance);(exact inferInstance)))))|(refine pv1 (h:=?_))|(refine pv3 (h:=?_))|(refine pv2 (h:=?_);intro b)|(refine pvC (h:=?_);fail;(refine⟨?_,?_⟩;(exact rvsA)))|(refine pvC0 (h:=?_);fail;(refine⟨?_,?_⟩;(exact rvsA)))|(refine pv1 (h:=?_) (hr:=by fail))|(refine pvF (h:=?_);intro b)|(refine pvK (h:=?_))|(refine pvK0 (h:=?_))|(refine pv_nil ?_;intro a w F M;refine ql_open ?_)|(refine pv_nil ?_;intro a w F M;(try(replace F:=F.filt zk127 rfl))))|((fail_if_success(with_reducible show wpList _ _ _ _ _ _));(fail_if_success(with_reducible show PW _ _ _ _ _ _ _ _ _ _));(fail_if_success(with_reducible show Code.wp _ (Code.loop _) _ _ _));(first|((with_reducible show Code.wp _ (Code.region _ _ false) _ _ _);(refine sx_region ?_))|((with_reducible show Code.wp _ (Code.cond _ _ _) _ _ _);(first|(refine svT F (h:=?_))|(refine svF F (h:=?_))|((refine svB F (fun hc=>?_) (fun hc=>?_))<;>(try(exact no hc)))))|((with_reducible show Code.wp _ (Code.region _ _ true) _ _ _);(first|(refine zD zd128 F M ?_;clear F M a w)))|go_step))))
 all_goals try((first|(refine svEnd F M ?_)|(refine svRet F M ?_));refine⟨?_,M.perms permsA⟩;(have hne:R=false:=by(rw[← hR];simp only[decide_eq_false_iff_not];intro he;subst he;simp at *));(rw[hne];rfl);done)
 have hla:x.asg.length=y.asg.length:=by simp_all;omega
 have hlp:x.pms.length=y.pms.length:=by omega
 have hR':R=(decide (x.asg.drop 0=y.asg.drop 0) && decide (x.pms=y.pms)):=by rw[← hR,rc_eq];simp_all
 refine svLoop F M (0:Nat) (fun i=>[(5,.int .i64 i)]) (fun _=>[]) (fun i=>i≤x.asg.length∧R=(decide (x.asg.drop i=y.asg.drop i) && decide (x.pms=y.pms))) (fun i=>x.asg.length - i) [] ⟨by omega,hR'⟩ ?_
 (rintro k ⟨q1,q2⟩ a w F M;(try simp only[zc,zn] at F M q1 q2 ⊢))
 by_cases hlt:k<x.asg.length
 ·obtain ⟨u,hu⟩:∃ u,x.asg[k]? = some u:=⟨x.asg[k],by simp[hlt]⟩
  obtain ⟨v,hv⟩:∃ v,y.asg[k]? = some v:=⟨y.asg[k]'(by omega),by rw[List.getElem?_eq_getElem (by omega)]⟩
  rw[drop_cons hu,drop_cons hv] at q2
  by_cases he:u=v
  ·subst he
   (repeat'(first|(first|(refine sx_nil ?_;(try(replace F:=F.filt zk127 rfl)))|(refine sv1 F M (h:=?_) (hr:=by(first|(apply(rt_neqT (f:=asgL));(exact rfl);(exact rfl);(exact rfl);(exact inferInstance);(exact inferInstance))|(apply(rt_neqT (f:=pmL));(exact rfl);(exact rfl);(exact rfl);(exact inferInstance);(exact inferInstance))));clear F a;intro a F)|(refine sv1 F M (h:=?_);clear F a;intro a F)|(refine sv3 F M (h:=?_);clear M;intro w M)|(refine sv2 F M (h:=?_);clear F M a;intro b a w F M)|(refine svC F M (h:=?_);fail;(clear F M a;intro a w F M))|(refine svC0 F M (h:=?_);fail;(clear M;intro w M))|(refine sv1 F M (h:=?_) (hr:=by fail);clear F a;intro a F)|(refine svK F (h:=?_);clear F a;intro a F)|(refine svK0 F (h:=?_))|((refine sx_guardb F rfl (fun hg=>?_) (fun hg=>?_))<;>(rw[hg] at F;(try(exact no hg)))))|(first|(refine pv1 (h:=?_) (hr:=by(first|(apply(rt_neqT (f:=asgL));(exact rfl);(exact rfl);(exact rfl);(exact inferInstance);(exact inferInstance))|(apply(rt_neqT (f:=pmL));(exact rfl);(exact rfl);(exact rfl);(exact inferInstance);(exact inferInstance)))))|(refine pv1 (h:=?_))|(refine pv3 (h:=?_))|(refine pv2 (h:=?_);intro b)|(refine pvC (h:=?_);fail;(refine⟨?_,?_⟩;(exact rvsA)))|(refine pvC0 (h:=?_);fail;(refine⟨?_,?_⟩;(exact rvsA)))|(refine pv1 (h:=?_) (hr:=by fail))|(refine pvF (h:=?_);intro b)|(refine pvK (h:=?_))|(refine pvK0 (h:=?_))|(refine pv_nil ?_;intro a w F M;refine ql_open ?_)|(refine pv_nil ?_;intro a w F M;(try(replace F:=F.filt zk127 rfl))))|((fail_if_success(with_reducible show wpList _ _ _ _ _ _));(fail_if_success(with_reducible show PW _ _ _ _ _ _ _ _ _ _));(fail_if_success(with_reducible show Code.wp _ (Code.loop _) _ _ _));(first|((with_reducible show Code.wp _ (Code.region _ _ false) _ _ _);(refine sx_region ?_))|((with_reducible show Code.wp _ (Code.cond _ _ _) _ _ _);(first|(refine svT F (h:=?_))|(refine svF F (h:=?_))|((refine svB F (fun hc=>?_) (fun hc=>?_))<;>(try(exact no hc)))))|((with_reducible show Code.wp _ (Code.region _ _ true) _ _ _);(first|(refine zD zd128 F M ?_;clear F M a w)))|go_step))))
   (refine sv_again F M (k+1) kpA permsA ?_ ?_)
   ·exact⟨by omega,by rw[q2];simp⟩
   ·omega
  ·(repeat'(first|(first|(refine sx_nil ?_;(try(replace F:=F.filt zk127 rfl)))|(refine sv1 F M (h:=?_) (hr:=by(first|(apply(rt_neqT (f:=asgL));(exact rfl);(exact rfl);(exact rfl);(exact inferInstance);(exact inferInstance))|(apply(rt_neqT (f:=pmL));(exact rfl);(exact rfl);(exact rfl);(exact inferInstance);(exact inferInstance))));clear F a;intro a F)|(refine sv1 F M (h:=?_);clear F a;intro a F)|(refine sv3 F M (h:=?_);clear M;intro w M)|(refine sv2 F M (h:=?_);clear F M a;intro b a w F M)|(refine svC F M (h:=?_);fail;(clear F M a;intro a w F M))|(refine svC0 F M (h:=?_);fail;(clear M;intro w M))|(refine sv1 F M (h:=?_) (hr:=by fail);clear F a;intro a F)|(refine svK F (h:=?_);clear F a;intro a F)|(refine svK0 F (h:=?_))|((refine sx_guardb F rfl (fun hg=>?_) (fun hg=>?_))<;>(rw[hg] at F;(try(exact no hg)))))|(first|(refine pv1 (h:=?_) (hr:=by(first|(apply(rt_neqT (f:=asgL));(exact rfl);(exact rfl);(exact rfl);(exact inferInstance);(exact inferInstance))|(apply(rt_neqT (f:=pmL));(exact rfl);(exact rfl);(exact rfl);(exact inferInstance);(exact inferInstance)))))|(refine pv1 (h:=?_))|(refine pv3 (h:=?_))|(refine pv2 (h:=?_);intro b)|(refine pvC (h:=?_);fail;(refine⟨?_,?_⟩;(exact rvsA)))|(refine pvC0 (h:=?_);fail;(refine⟨?_,?_⟩;(exact rvsA)))|(refine pv1 (h:=?_) (hr:=by fail))|(refine pvF (h:=?_);intro b)|(refine pvK (h:=?_))|(refine pvK0 (h:=?_))|(refine pv_nil ?_;intro a w F M;refine ql_open ?_)|(refine pv_nil ?_;intro a w F M;(try(replace F:=F.filt zk127 rfl))))|((fail_if_success(with_reducible show wpList _ _ _ _ _ _));(fail_if_success(with_reducible show PW _ _ _ _ _ _ _ _ _ _));(fail_if_success(with_reducible show Code.wp _ (Code.loop _) _ _ _));(first|((with_reducible show Code.wp _ (Code.region _ _ false) _ _ _);(refine sx_region ?_))|((with_reducible show Code.wp _ (Code.cond _ _ _) _ _ _);(first|(refine svT F (h:=?_))|(refine svF F (h:=?_))|((refine svB F (fun hc=>?_) (fun hc=>?_))<;>(try(exact no hc)))))|((with_reducible show Code.wp _ (Code.region _ _ true) _ _ _);(first|(refine zD zd128 F M ?_;clear F M a w)))|go_step))))
   (all_goals((first|(refine svEnd F M ?_)|(refine svRet F M ?_));refine⟨?_,M.perms permsA⟩))
   rw[q2];simp[tupOf,he]
 ·rw[List.drop_of_length_le (by omega),List.drop_of_length_le (by omega)] at q2
  have q3:R=decide (x.pms.drop 0=y.pms.drop 0):=by rw[q2];simp
  (repeat'(first|(first|(refine sx_nil ?_;(try(replace F:=F.filt zk127 rfl)))|(refine sv1 F M (h:=?_) (hr:=by(first|(apply(rt_neqT (f:=asgL));(exact rfl);(exact rfl);(exact rfl);(exact inferInstance);(exact inferInstance))|(apply(rt_neqT (f:=pmL));(exact rfl);(exact rfl);(exact rfl);(exact inferInstance);(exact inferInstance))));clear F a;intro a F)|(refine sv1 F M (h:=?_);clear F a;intro a F)|(refine sv3 F M (h:=?_);clear M;intro w M)|(refine sv2 F M (h:=?_);clear F M a;intro b a w F M)|(refine svC F M (h:=?_);fail;(clear F M a;intro a w F M))|(refine svC0 F M (h:=?_);fail;(clear M;intro w M))|(refine sv1 F M (h:=?_) (hr:=by fail);clear F a;intro a F)|(refine svK F (h:=?_);clear F a;intro a F)|(refine svK0 F (h:=?_))|((refine sx_guardb F rfl (fun hg=>?_) (fun hg=>?_))<;>(rw[hg] at F;(try(exact no hg)))))|(first|(refine pv1 (h:=?_) (hr:=by(first|(apply(rt_neqT (f:=asgL));(exact rfl);(exact rfl);(exact rfl);(exact inferInstance);(exact inferInstance))|(apply(rt_neqT (f:=pmL));(exact rfl);(exact rfl);(exact rfl);(exact inferInstance);(exact inferInstance)))))|(refine pv1 (h:=?_))|(refine pv3 (h:=?_))|(refine pv2 (h:=?_);intro b)|(refine pvC (h:=?_);fail;(refine⟨?_,?_⟩;(exact rvsA)))|(refine pvC0 (h:=?_);fail;(refine⟨?_,?_⟩;(exact rvsA)))|(refine pv1 (h:=?_) (hr:=by fail))|(refine pvF (h:=?_);intro b)|(refine pvK (h:=?_))|(refine pvK0 (h:=?_))|(refine pv_nil ?_;intro a w F M;refine ql_open ?_)|(refine pv_nil ?_;intro a w F M;(try(replace F:=F.filt zk127 rfl))))|((fail_if_success(with_reducible show wpList _ _ _ _ _ _));(fail_if_success(with_reducible show PW _ _ _ _ _ _ _ _ _ _));(fail_if_success(with_reducible show Code.wp _ (Code.loop _) _ _ _));(first|((with_reducible show Code.wp _ (Code.region _ _ false) _ _ _);(refine sx_region ?_))|((with_reducible show Code.wp _ (Code.cond _ _ _) _ _ _);(first|(refine svT F (h:=?_))|(refine svF F (h:=?_))|((refine svB F (fun hc=>?_) (fun hc=>?_))<;>(try(exact no hc)))))|((with_reducible show Code.wp _ (Code.region _ _ true) _ _ _);(first|(refine zD zd128 F M ?_;clear F M a w)))|go_step))))
  refine svLoop F M (0:Nat) (fun i=>[(6,.int .i64 i)]) (fun _=>[]) (fun i=>i≤x.pms.length∧R=decide (x.pms.drop i=y.pms.drop i)) (fun i=>x.pms.length - i) [] ⟨by omega,q3⟩ ?_
  (rintro k ⟨q1,q2⟩ a w F M;(try simp only[zc,zn] at F M q1 q2 ⊢))
  by_cases hlt:k<x.pms.length
  ·obtain ⟨u,hu⟩:∃ u,x.pms[k]? = some u:=⟨x.pms[k],by simp[hlt]⟩
   obtain ⟨v,hv⟩:∃ v,y.pms[k]? = some v:=⟨y.pms[k]'(by omega),by rw[List.getElem?_eq_getElem (by omega)]⟩
   rw[drop_cons hu,drop_cons hv] at q2
   by_cases he:u=v
   ·subst he
    (repeat'(first|(first|(refine sx_nil ?_;(try(replace F:=F.filt zk127 rfl)))|(refine sv1 F M (h:=?_) (hr:=by(first|(apply(rt_neqT (f:=asgL));(exact rfl);(exact rfl);(exact rfl);(exact inferInstance);(exact inferInstance))|(apply(rt_neqT (f:=pmL));(exact rfl);(exact rfl);(exact rfl);(exact inferInstance);(exact inferInstance))));clear F a;intro a F)|(refine sv1 F M (h:=?_);clear F a;intro a F)|(refine sv3 F M (h:=?_);clear M;intro w M)|(refine sv2 F M (h:=?_);clear F M a;intro b a w F M)|(refine svC F M (h:=?_);fail;(clear F M a;intro a w F M))|(refine svC0 F M (h:=?_);fail;(clear M;intro w M))|(refine sv1 F M (h:=?_) (hr:=by fail);clear F a;intro a F)|(refine svK F (h:=?_);clear F a;intro a F)|(refine svK0 F (h:=?_))|((refine sx_guardb F rfl (fun hg=>?_) (fun hg=>?_))<;>(rw[hg] at F;(try(exact no hg)))))|(first|(refine pv1 (h:=?_) (hr:=by(first|(apply(rt_neqT (f:=asgL));(exact rfl);(exact rfl);(exact rfl);(exact inferInstance);(exact inferInstance))|(apply(rt_neqT (f:=pmL));(exact rfl);(exact rfl);(exact rfl);(exact inferInstance);(exact inferInstance)))))|(refine pv1 (h:=?_))|(refine pv3 (h:=?_))|(refine pv2 (h:=?_);intro b)|(refine pvC (h:=?_);fail;(refine⟨?_,?_⟩;(exact rvsA)))|(refine pvC0 (h:=?_);fail;(refine⟨?_,?_⟩;(exact rvsA)))|(refine pv1 (h:=?_) (hr:=by fail))|(refine pvF (h:=?_);intro b)|(refine pvK (h:=?_))|(refine pvK0 (h:=?_))|(refine pv_nil ?_;intro a w F M;refine ql_open ?_)|(refine pv_nil ?_;intro a w F M;(try(replace F:=F.filt zk127 rfl))))|((fail_if_success(with_reducible show wpList _ _ _ _ _ _));(fail_if_success(with_reducible show PW _ _ _ _ _ _ _ _ _ _));(fail_if_success(with_reducible show Code.wp _ (Code.loop _) _ _ _));(first|((with_reducible show Code.wp _ (Code.region _ _ false) _ _ _);(refine sx_region ?_))|((with_reducible show Code.wp _ (Code.cond _ _ _) _ _ _);(first|(refine svT F (h:=?_))|(refine svF F (h:=?_))|((refine svB F (fun hc=>?_) (fun hc=>?_))<;>(try(exact no hc)))))|((with_reducible show Code.wp _ (Code.region _ _ true) _ _ _);(first|(refine zD zd128 F M ?_;clear F M a w)))|go_step))))
    (refine sv_again F M (k+1) kpA permsA ?_ ?_)
    ·exact⟨by omega,by rw[q2];simp⟩
    ·omega
   ·(repeat'(first|(first|(refine sx_nil ?_;(try(replace F:=F.filt zk127 rfl)))|(refine sv1 F M (h:=?_) (hr:=by(first|(apply(rt_neqT (f:=asgL));(exact rfl);(exact rfl);(exact rfl);(exact inferInstance);(exact inferInstance))|(apply(rt_neqT (f:=pmL));(exact rfl);(exact rfl);(exact rfl);(exact inferInstance);(exact inferInstance))));clear F a;intro a F)|(refine sv1 F M (h:=?_);clear F a;intro a F)|(refine sv3 F M (h:=?_);clear M;intro w M)|(refine sv2 F M (h:=?_);clear F M a;intro b a w F M)|(refine svC F M (h:=?_);fail;(clear F M a;intro a w F M))|(refine svC0 F M (h:=?_);fail;(clear M;intro w M))|(refine sv1 F M (h:=?_) (hr:=by fail);clear F a;intro a F)|(refine svK F (h:=?_);clear F a;intro a F)|(refine svK0 F (h:=?_))|((refine sx_guardb F rfl (fun hg=>?_) (fun hg=>?_))<;>(rw[hg] at F;(try(exact no hg)))))|(first|(refine pv1 (h:=?_) (hr:=by(first|(apply(rt_neqT (f:=asgL));(exact rfl);(exact rfl);(exact rfl);(exact inferInstance);(exact inferInstance))|(apply(rt_neqT (f:=pmL));(exact rfl);(exact rfl);(exact rfl);(exact inferInstance);(exact inferInstance)))))|(refine pv1 (h:=?_))|(refine pv3 (h:=?_))|(refine pv2 (h:=?_);intro b)|(refine pvC (h:=?_);fail;(refine⟨?_,?_⟩;(exact rvsA)))|(refine pvC0 (h:=?_);fail;(refine⟨?_,?_⟩;(exact rvsA)))|(refine pv1 (h:=?_) (hr:=by fail))|(refine pvF (h:=?_);intro b)|(refine pvK (h:=?_))|(refine pvK0 (h:=?_))|(refine pv_nil ?_;intro a w F M;refine ql_open ?_)|(refine pv_nil ?_;intro a w F M;(try(replace F:=F.filt zk127 rfl))))|((fail_if_success(with_reducible show wpList _ _ _ _ _ _));(fail_if_success(with_reducible show PW _ _ _ _ _ _ _ _ _ _));(fail_if_success(with_reducible show Code.wp _ (Code.loop _) _ _ _));(first|((with_reducible show Code.wp _ (Code.region _ _ false) _ _ _);(refine sx_region ?_))|((with_reducible show Code.wp _ (Code.cond _ _ _) _ _ _);(first|(refine svT F (h:=?_))|(refine svF F (h:=?_))|((refine svB F (fun hc=>?_) (fun hc=>?_))<;>(try(exact no hc)))))|((with_reducible show Code.wp _ (Code.region _ _ true) _ _ _);(first|(refine zD zd128 F M ?_;clear F M a w)))|go_step))))
    (all_goals((first|(refine svEnd F M ?_)|(refine svRet F M ?_));refine⟨?_,M.perms permsA⟩))
    rw[q2];simp[tupOf,he]
  ·(repeat'(first|(first|(refine sx_nil ?_;(try(replace F:=F.filt zk127 rfl)))|(refine sv1 F M (h:=?_) (hr:=by(first|(apply(rt_neqT (f:=asgL));(exact rfl);(exact rfl);(exact rfl);(exact inferInstance);(exact inferInstance))|(apply(rt_neqT (f:=pmL));(exact rfl);(exact rfl);(exact rfl);(exact inferInstance);(exact inferInstance))));clear F a;intro a F)|(refine sv1 F M (h:=?_);clear F a;intro a F)|(refine sv3 F M (h:=?_);clear M;intro w M)|(refine sv2 F M (h:=?_);clear F M a;intro b a w F M)|(refine svC F M (h:=?_);fail;(clear F M a;intro a w F M))|(refine svC0 F M (h:=?_);fail;(clear M;intro w M))|(refine sv1 F M (h:=?_) (hr:=by fail);clear F a;intro a F)|(refine svK F (h:=?_);clear F a;intro a F)|(refine svK0 F (h:=?_))|((refine sx_guardb F rfl (fun hg=>?_) (fun hg=>?_))<;>(rw[hg] at F;(try(exact no hg)))))|(first|(refine pv1 (h:=?_) (hr:=by(first|(apply(rt_neqT (f:=asgL));(exact rfl);(exact rfl);(exact rfl);(exact inferInstance);(exact inferInstance))|(apply(rt_neqT (f:=pmL));(exact rfl);(exact rfl);(exact rfl);(exact inferInstance);(exact inferInstance)))))|(refine pv1 (h:=?_))|(refine pv3 (h:=?_))|(refine pv2 (h:=?_);intro b)|(refine pvC (h:=?_);fail;(refine⟨?_,?_⟩;(exact rvsA)))|(refine pvC0 (h:=?_);fail;(refine⟨?_,?_⟩;(exact rvsA)))|(refine pv1 (h:=?_) (hr:=by fail))|(refine pvF (h:=?_);intro b)|(refine pvK (h:=?_))|(refine pvK0 (h:=?_))|(refine pv_nil ?_;intro a w F M;refine ql_open ?_)|(refine pv_nil ?_;intro a w F M;(try(replace F:=F.filt zk127 rfl))))|((fail_if_success(with_reducible show wpList _ _ _ _ _ _));(fail_if_success(with_reducible show PW _ _ _ _ _ _ _ _ _ _));(fail_if_success(with_reducible show Code.wp _ (Code.loop _) _ _ _));(first|((with_reducible show Code.wp _ (Code.region _ _ false) _ _ _);(refine sx_region ?_))|((with_reducible show Code.wp _ (Code.cond _ _ _) _ _ _);(first|(refine svT F (h:=?_))|(refine svF F (h:=?_))|((refine svB F (fun hc=>?_) (fun hc=>?_))<;>(try(exact no hc)))))|((with_reducible show Code.wp _ (Code.region _ _ true) _ _ _);(first|(refine zD zd128 F M ?_;clear F M a w)))|go_step))))
   (all_goals((first|(refine svEnd F M ?_)|(refine svRet F M ?_));refine⟨?_,M.perms permsA⟩))
   rw[q2,List.drop_of_length_le (by omega),List.drop_of_length_le (by omega)];rfl
end
end
def zk129:List Nat:=[0,1,4,5,10,14,26]
def zd130:List ZR:=[⟨6,[8],[],[],[0,1,2,3,4,5,6,7,8,9]⟩]
def zk131:List Nat:=[0,1,2,3,6,7,9,11,12,32,39]
section
open Go.RowKit
theorem runM_app (c:Cfg):∀ (a b:List Opn) (s:St),runM c s (a++b)=((runM c s a).1++(runM c (runM c s a).2 b).1,(runM c (runM c s a).2 b).2)
 | [],b,s=>by simp[runM]
 | o::a,b,s=>by rw[zc,runM_cons,runM_app c a b,runM_cons];rfl
theorem runM_len (c:Cfg):∀ (l:List Opn) (s:St),(runM c s l).1.length=l.length
 | [],_=>rfl
 | o::l,s=>by rw[runM_cons,List.length_cons,List.length_cons,runM_len c l]
theorem pull_mem {xs:List Asn} {A:Asn} (h:A∈xs) (L:List Asn):∃ L',Pull (xs++L) A L':=by
 obtain ⟨a,b,rfl⟩:=List.append_of_mem h
 refine⟨a++(b++L),?_⟩
 rw[List.append_assoc,zc]
 exact pull_mid a (b++L) A
theorem rsA_rcg {L L':List Asn} {xs:List RcS} (hp:Pull L (rsA xs) L'):∀ x∈xs,RcG L x.r x.s x.p:=fun x hx=>by
 have key:∀ A,A∈rcP x→∀ w,Mem w L→∃ L2,Mem w (A::L2):=fun A hA w M=>by
  obtain ⟨_,M2⟩:=(M.pull hp).exo
  obtain ⟨L2,h2⟩:=pull_mem (xs:=xs.flatMap rcP) (List.mem_flatMap.2 ⟨x,hx,hA⟩) L'
  exact⟨L2,M2.pull h2⟩
 constructor
 ·intro w M
  obtain ⟨L2,M2⟩:=key _ (by simp[rcP];exact .inl rfl) w M
  exact gs_own (L':=L2) .here w M2
 ·intro w M
  obtain ⟨L2,M2⟩:=key _ (by simp[rcP];exact .inr rfl) w M
  exact gs_own (L':=L2) .here w M2
theorem rall21_spec (v1 v2:Value) (xs ys:List RcS) (R:List Asn) (h:xs.map (·.r)=ys.map (·.r)) (hx:∀ x∈xs,RcG R x.r x.s x.p) (hy:∀ x∈ys,RcG R x.r x.s x.p) (g1:GS R 9 v1 xs.length (xs.flatMap rsL)) (g2:GS R 9 v2 ys.length (ys.flatMap rsL)):Spec 36 [v1,v2] R fun u L'=>u=.bool true∧L'=R:=by
 have hl:xs.length=ys.length:=by have:=congrArg List.length h;simpa using this
 (intro G w M;refine sx_enter (vs:=([v1,v2]:List Value)) Tryz.func36 (n:=27) rfl rfl rfl rfl ?_;intro a F;(try simp only[zc,zn] at M))
 replace hx:∀ x∈xs,RcG (R++G) x.r x.s x.p:=fun x h=>(hx x h).imp fun w M=>M.drop_app
 replace hy:∀ x∈ys,RcG (R++G) x.r x.s x.p:=fun x h=>(hy x h).imp fun w M=>M.drop_app
 have hG:GS (R++G) 9 v1 xs.length (xs.flatMap rsL):=Gives.app g1
 have hH:GS (R++G) 9 v2 ys.length (ys.flatMap rsL):=Gives.app g2
 have hlv:=hG.len_le M
 (repeat'(first|(first|refine sx_nil ?_|refine pv_nil ?_;intro a w F M);try replace F:=F.filt zk129 rfl|refine zn1 F M ?_;clear F M a;(try clear w);intro a w F M|refine sv2 F M ?_;clear F M a;intro nb a w F M|refine zp1 ?_|refine zp2 ?_;intro nb|((first|refine svC F M ?_|refine svC0 F M ?_|refine pvC ?_|refine pvC0 ?_);(fail);(first|refine⟨rvsA,?_⟩|clear F M a;intro a w F M|clear M;intro w M))|refine zh F ?_ ?_<;>(intro hg;rw[hg] at F;try exact no hg)|refine zT F ?_|((with_reducible refine isK ?_);refine svB F ?_ ?_<;>intro hc<;>try exact no hc)|((with_reducible refine isD ?_);(first|(refine zD zd130 F M ?_;clear F M a w)))|refine zY ?_;go_step|fail))
 refine svLoop F M (0:Nat) (fun k=>[(5,.int .i64 k)]) (fun _=>[]) (fun k=>k≤xs.length) (fun k=>xs.length - k) [] (Nat.zero_le _) ?_
 (rintro k q1 a w F M;(try simp only[zc,zn] at F M q1 ⊢))
 by_cases hlt:k<xs.length
 ·obtain ⟨x,hx1⟩:∃ x,xs[k]? = some x:=⟨xs[k],by simp[hlt]⟩
  obtain ⟨y,hy1⟩:∃ y,ys[k]? = some y:=⟨ys[k]'(by omega),by rw[List.getElem?_eq_getElem]⟩
  have hxy:x.r=y.r:=by
   have h1:(xs.map (·.r))[k]? = some x.r:=by simp[hx1]
   have h2:(ys.map (·.r))[k]? = some y.r:=by simp[hy1]
   rw[h,h2] at h1
   exact(Option.some.inj h1).symm
  have gx:=hx x (List.mem_of_getElem? hx1)
  have gy:=hy y (List.mem_of_getElem? hy1)
  have hs:Reads 44 [rcV x.r x.s x.p,rcV y.r y.s y.p] (.bool true) (R++G):=by
   have:=rsame_reads gx gy
   rw[hxy] at this
   simpa[hxy] using this
  (repeat'(first|(first|refine sx_nil ?_|refine pv_nil ?_;intro a w F M);try replace F:=F.filt zk129 rfl|refine zn1 F M ?_;clear F M a;(try clear w);intro a w F M|refine sv2 F M ?_;clear F M a;intro nb a w F M|refine zp1 ?_|refine zp2 ?_;intro nb|((first|refine svC F M ?_|refine svC0 F M ?_|refine pvC ?_|refine pvC0 ?_);(((refine acCall (k:=44) ?_);(refine Spec.of_reads hs rfl ?_)));(first|refine⟨rvsA,?_⟩|clear F M a;intro a w F M|clear M;intro w M))|refine zh F ?_ ?_<;>(intro hg;rw[hg] at F;try exact no hg)|refine zT F ?_|((with_reducible refine isK ?_);refine svB F ?_ ?_<;>intro hc<;>try exact no hc)|((with_reducible refine isD ?_);(first|(refine zD zd130 F M ?_;clear F M a w)))|refine zY ?_;go_step|fail))
  exact sv_again F M (k+1) kpA permsA (by omega) (by omega)
 ·obtain rfl:k=xs.length:=by omega
  (repeat'(first|(first|refine sx_nil ?_|refine pv_nil ?_;intro a w F M);try replace F:=F.filt zk129 rfl|refine zn1 F M ?_;clear F M a;(try clear w);intro a w F M|refine sv2 F M ?_;clear F M a;intro nb a w F M|refine zp1 ?_|refine zp2 ?_;intro nb|((first|refine svC F M ?_|refine svC0 F M ?_|refine pvC ?_|refine pvC0 ?_);(fail);(first|refine⟨rvsA,?_⟩|clear F M a;intro a w F M|clear M;intro w M))|refine zh F ?_ ?_<;>(intro hg;rw[hg] at F;try exact no hg)|refine zT F ?_|((with_reducible refine isK ?_);refine svB F ?_ ?_<;>intro hc<;>try exact no hc)|refine zY ?_;go_step|fail))
  all_goals exact zX F M
theorem mem_both {α:Type} {p:α→Prop} {a b:List α} (h1:∀ x∈a,p x) (h2:∀ x∈b,p x):∀ x∈a++b,p x:=fun x hx=>by
 rcases List.mem_append.1 hx with h|h
 ·exact h1 x h
 ·exact h2 x h
theorem parts_walk (c:Cfg) (va vb:Value) (la lb:List Opn) (R:List Asn) (hga:GS R 4 va la.length (la.flatMap opL)) (hgb:GS R 4 vb lb.length (lb.flatMap opL)) (hna:la.length≤400) (hnb:lb.length≤400) (x1 x2:List Rc) (s0 s1 s2:St) (hl1:x1.length≤400) (hl2:x2.length≤400)
  (hnw:∀ R,Spec 28 [cfgV c] R fun u L'=>∃ b,u=.tuple [ptr b,.int .i64 0].toArray∧L'=engB b c s0::R)
  (hfa:∀ R:List Asn,GS R 4 va la.length (la.flatMap opL)→Spec 29 [cfgV c,va] R fun u L'=>u=.int .i64 1∧L'=R)
  (hfb:∀ R:List Asn,GS R 4 vb lb.length (lb.flatMap opL)→Spec 29 [cfgV c,vb] R fun u L'=>u=.int .i64 1∧L'=R)
  (hr1:∀ (b:Nat) (R:List Asn),GS R 4 va la.length (la.flatMap opL)→Spec 35 [ptr b,va] (engB b c s0::R) fun u L'=>∃ hr xs,(u=sl hr∧xs.map (·.r)=x1)∧L'=ownT 62 rsL 9 (sl hr) xs::rsA xs::engB b c s1::R)
  (hr2:∀ (b:Nat) (R:List Asn),GS R 4 vb lb.length (lb.flatMap opL)→Spec 35 [ptr b,vb] (engB b c s1::R) fun u L'=>∃ hr xs,(u=sl hr∧xs.map (·.r)=x2)∧L'=ownT 62 rsL 9 (sl hr) xs::rsA xs::engB b c s2::R)
  (hr3:∀ (b:Nat) (R:List Asn) (v:Value),GS R 4 v (la++lb).length ((la++lb).flatMap opL)→Spec 35 [ptr b,v] (engB b c s0::R) fun u L'=>∃ hr xs,(u=sl hr∧xs.map (·.r)=x1++x2)∧L'=ownT 62 rsL 9 (sl hr) xs::rsA xs::engB b c s2::R)
  (hsn:∀ (b:Nat) (R:List Asn),Spec 33 [ptr b] (engB b c s2::R) fun u L'=>∃ h1 h2 h3 h4 h5 h6,u=snV (snOf c s2 h1 h2 h3 h4 h5 h6)∧L'=snA s2 h1 h2 h3 h4 h5 h6::engB b c s2::R):Spec 9 [cfgV c,va,vb] R fun u L'=>u=.bool true∧L'=R:=by
 have hal:=fun R=>alive22_spec R
 have heq:=fun (R:List Asn) a1 a2 a3 a4 a5 a6 b1 b2 b3 b4 b5 b6=>equalB c s2 R a1 a2 a3 a4 a5 a6 b1 b2 b3 b4 b5 b6
 (intro G w M;refine sx_enter (vs:=([cfgV c,va,vb]:List Value)) Tryz.func9 (n:=67) rfl rfl rfl rfl ?_;intro a F;(try simp only[zc,zn] at M))
 have gA:GS (R++G) 4 va la.length (la.flatMap opL):=Gives.app hga
 have gB:GS (R++G) 4 vb lb.length (lb.flatMap opL):=Gives.app hgb
 (repeat'(first|(first|refine sx_nil ?_|refine pv_nil ?_;intro a w F M);try replace F:=F.filt zk131 rfl|refine zn1 F M ?_;clear F M a;(try clear w);intro a w F M|refine sv2 F M ?_;clear F M a;intro nb a w F M|refine zp1 ?_|refine zp2 ?_;intro nb|((first|refine svC F M ?_|refine svC0 F M ?_|refine pvC ?_|refine pvC0 ?_);((first|((fail_if_success(have h9:=eb));((refine acW (k:=28) (hnw _) ?_);rintro u L' ⟨eb,rfl,rfl⟩))|((refine acW (k:=28) (hnw _) ?_);rintro u L' ⟨eb2,rfl,rfl⟩)|((refine acW (k:=29) (hfa _ ?_) ?_);(exact gsA);rintro u L' ⟨rfl,rfl⟩)|((refine acW (k:=29) (hfb _ ?_) ?_);(exact gsA);rintro u L' ⟨rfl,rfl⟩)));(first|refine⟨rvsA,?_⟩|clear F M a;intro a w F M|clear M;intro w M))|refine zh F ?_ ?_<;>(intro hg;rw[hg] at F;try exact no hg)|refine zT F ?_|((with_reducible refine isK ?_);refine svB F ?_ ?_<;>intro hc<;>try exact no hc)|refine zY ?_;go_step|fail))
 (repeat'(first|(first|refine sx_nil ?_|refine pv_nil ?_;intro a w F M);try replace F:=F.filt zk131 rfl|refine zn1 F M ?_;clear F M a;(try clear w);intro a w F M|refine sv2 F M ?_;clear F M a;intro nb a w F M|refine zp1 ?_|refine zp2 ?_;intro nb|((first|refine svC F M ?_|refine svC0 F M ?_|refine pvC ?_|refine pvC0 ?_);((refine acK (L1:=engB eb c s0::_) (k:=35) (hr1 eb _ ?_) ?_;(exact gsA);rintro u L' ⟨p1,xs,⟨rfl,hxs⟩,rfl⟩));(first|refine⟨rvsA,?_⟩|clear F M a;intro a w F M|clear M;intro w M))|refine zh F ?_ ?_<;>(intro hg;rw[hg] at F;try exact no hg)|refine zT F ?_|((with_reducible refine isK ?_);refine svB F ?_ ?_<;>intro hc<;>try exact no hc)|refine zY ?_;go_step|fail))
 (repeat'(first|(first|refine sx_nil ?_|refine pv_nil ?_;intro a w F M);try replace F:=F.filt zk131 rfl|refine zn1 F M ?_;clear F M a;(try clear w);intro a w F M|refine sv2 F M ?_;clear F M a;intro nb a w F M|refine zp1 ?_|refine zp2 ?_;intro nb|((first|refine svC F M ?_|refine svC0 F M ?_|refine pvC ?_|refine pvC0 ?_);((refine acK (L1:=engB eb c s1::_) (k:=35) (hr2 eb _ ?_) ?_;(exact gsA);rintro u L' ⟨p2,ys,⟨rfl,hys⟩,rfl⟩));(first|refine⟨rvsA,?_⟩|clear F M a;intro a w F M|clear M;intro w M))|refine zh F ?_ ?_<;>(intro hg;rw[hg] at F;try exact no hg)|refine zT F ?_|((with_reducible refine isK ?_);refine svB F ?_ ?_<;>intro hc<;>try exact no hc)|refine zY ?_;go_step|fail))
 have e1:=congrArg List.length hxs
 have e2:=congrArg List.length hys
 simp only[List.length_map] at e1 e2
 (repeat'(first|(first|refine sx_nil ?_|refine pv_nil ?_;intro a w F M);try replace F:=F.filt zk131 rfl|refine zn1 F M ?_;clear F M a;(try clear w);intro a w F M|refine sv2 F M ?_;clear F M a;intro nb a w F M|refine zp1 ?_|refine zp2 ?_;intro nb|((first|refine svC F M ?_|refine svC0 F M ?_|refine pvC ?_|refine pvC0 ?_);((first|(refine ac_appendH (f:=rsL) (xs:=xs) (ys:=ys) rfl rfl inferInstance rfl rfl pullA inferInstance (gs_own pullA) rfl rfl (by omega) ?_;intro nv)|(refine ac_appendE (f:=opL) (ys:=la) rfl rfl inferInstance rfl rfl pullA inferInstance gsA rfl rfl (by omega) ?_;intro n1)|(refine ac_appendH (f:=opL) (xs:=la) (ys:=lb) rfl rfl inferInstance rfl rfl pullA inferInstance gsA rfl rfl (by omega) ?_;intro n2)));(first|refine⟨rvsA,?_⟩|clear F M a;intro a w F M|clear M;intro w M))|refine zh F ?_ ?_<;>(intro hg;rw[hg] at F;try exact no hg)|refine zT F ?_|((with_reducible refine isK ?_);refine svB F ?_ ?_<;>intro hc<;>try exact no hc)|refine zY ?_;go_step|fail))
 (repeat'(first|(first|refine sx_nil ?_|refine pv_nil ?_;intro a w F M);try replace F:=F.filt zk131 rfl|refine zn1 F M ?_;clear F M a;(try clear w);intro a w F M|refine sv2 F M ?_;clear F M a;intro nb a w F M|refine zp1 ?_|refine zp2 ?_;intro nb|((first|refine svC F M ?_|refine svC0 F M ?_|refine pvC ?_|refine pvC0 ?_);((refine acK (L1:=engB eb2 c s0::_) (k:=35) (hr3 eb2 _ _ ?_) ?_;(exact gs_own pullA);rintro u L' ⟨p3,zs,⟨rfl,hzs⟩,rfl⟩));(first|refine⟨rvsA,?_⟩|clear F M a;intro a w F M|clear M;intro w M))|refine zh F ?_ ?_<;>(intro hg;rw[hg] at F;try exact no hg)|refine zT F ?_|((with_reducible refine isK ?_);refine svB F ?_ ?_<;>intro hc<;>try exact no hc)|refine zY ?_;go_step|fail))
 (repeat'(first|(first|refine sx_nil ?_|refine pv_nil ?_;intro a w F M);try replace F:=F.filt zk131 rfl|refine zn1 F M ?_;clear F M a;(try clear w);intro a w F M|refine sv2 F M ?_;clear F M a;intro nb a w F M|refine zp1 ?_|refine zp2 ?_;intro nb|((first|refine svC F M ?_|refine svC0 F M ?_|refine pvC ?_|refine pvC0 ?_);((first|((refine acW (k:=30) (hal _) ?_);rintro u L' ⟨rfl,rfl⟩)|((refine acW (k:=36) (rall21_spec _ _ (xs++ys) zs _ ?_ ?_ ?_ ?_ ?_) ?_);(rw[List.map_append,hxs,hys,hzs]);(exact mem_both (rsA_rcg pullA) (rsA_rcg pullA));(exact rsA_rcg pullA);(exact gs_own pullA);(exact gs_own pullA);rintro u L' ⟨rfl,rfl⟩)|(refine acK (L1:=engB eb c s2::_) (k:=33) (hsn eb _) ?_;rintro u L' ⟨a1,a2,a3,a4,a5,a6,rfl,rfl⟩)|(refine acK (L1:=engB eb2 c s2::_) (k:=33) (hsn eb2 _) ?_;rintro u L' ⟨b1,b2,b3,b4,b5,b6,rfl,rfl⟩)|(refine acK (L1:=snA s2 a1 a2 a3 a4 a5 a6::snA s2 b1 b2 b3 b4 b5 b6::_) (k:=34) (heq _ a1 a2 a3 a4 a5 a6 b1 b2 b3 b4 b5 b6) ?_;rintro u L' ⟨rfl,rfl⟩)));(first|refine⟨rvsA,?_⟩|clear F M a;intro a w F M|clear M;intro w M))|refine zh F ?_ ?_<;>(intro hg;rw[hg] at F;try exact no hg)|refine zT F ?_|((with_reducible refine isK ?_);refine svB F ?_ ?_<;>intro hc<;>try exact no hc)|refine zY ?_;go_step|fail))
 all_goals refine zE F M ?_
 exact⟨_,_,rfl,⟨rfl,rfl⟩,M.perms permsA⟩
section
variable (c:Cfg) (va vb:Value) (la lb:List Opn) (R:List Asn) (hga:GS R 4 va la.length (la.flatMap opL)) (hgb:GS R 4 vb lb.length (lb.flatMap opL)) (h0:0≤c.forcedCap) (h1:0≤c.penNum) (hwa:∀ o∈la,I64 o.k∧U64 o.am) (hwb:∀ o∈lb,I64 o.k∧U64 o.am)
include hga hgb h0 h1 hwa hwb
theorem parts_law:Spec 9 [cfgV c,va,vb] R fun u L'=>u=.bool true∧L'=R:=by
 have hal:=fun R=>alive22_spec R
 by_cases hA:Fit c la.length
 ·have hck:=hA.ck
  have hcf:CfOk c:=cfOk_of hck h0 h1
  have hnw:=fun R=>newB c R hcf hck
  have hfa:=fun (R:List Asn) hg=>fits_yes c va la R hg hA
  by_cases hB:Fit c lb.length
  ·have hna:=hA.n;have hnb:=hB.n
   have hini:=Inv.ini hcf
   obtain ⟨i1,j1⟩:=runM_inv hcf la hini (by show 0+la.length<_;omega) fun o ho=>(hwa o ho).2
   have j1':(runM c St.ini la).2.bk≤400:=by have:St.ini.bk=0:=rfl;omega
   obtain ⟨i2,j2⟩:=runM_inv hcf lb i1 (by omega) fun o ho=>(hwb o ho).2
   have hl1:(runM c St.ini la).1.length≤400:=by rw[runM_len];exact hna
   have hl2:(runM c (runM c St.ini la).2 lb).1.length≤400:=by rw[runM_len];exact hnb
   refine parts_walk c va vb la lb R hga hgb hna hnb _ _ _ _ _ hl1 hl2 hnw hfa (fun R hg=>fits_yes c vb lb R hg hB) (fun b R hg=>runB b c St.ini R hcf hini va la hg (by omega) (by show 0+la.length<_;omega) hwa) (fun b R hg=>runB b c _ R hcf i1 vb lb hg (by omega) (by omega) hwb) (fun b R v hg=>?_) fun b R=>snapB b c _ R hcf i2
   have:=runB b c St.ini R hcf hini v (la++lb) hg (by rw[List.length_append];omega) (by show 0+(la++lb).length<_;rw[List.length_append];omega) (mem_both hwa hwb)
   rw[runM_app] at this
   exact this
  ·have hfb:=fun (R:List Asn) hg=>fits_no c vb lb R hg hB
   (intro G w M;refine sx_enter (vs:=([cfgV c,va,vb]:List Value)) Tryz.func9 (n:=67) rfl rfl rfl rfl ?_;intro a F;(try simp only[zc,zn] at M))
   have gA:GS (R++G) 4 va la.length (la.flatMap opL):=Gives.app hga
   have gB:GS (R++G) 4 vb lb.length (lb.flatMap opL):=Gives.app hgb
   (repeat'(first|(first|refine sx_nil ?_|refine pv_nil ?_;intro a w F M);try replace F:=F.filt zk131 rfl|refine zn1 F M ?_;clear F M a;(try clear w);intro a w F M|refine sv2 F M ?_;clear F M a;intro nb a w F M|refine zp1 ?_|refine zp2 ?_;intro nb|((first|refine svC F M ?_|refine svC0 F M ?_|refine pvC ?_|refine pvC0 ?_);((first|((fail_if_success(have h9:=eb));((refine acW (k:=28) (hnw _) ?_);rintro u L' ⟨eb,rfl,rfl⟩))|((refine acW (k:=28) (hnw _) ?_);rintro u L' ⟨eb2,rfl,rfl⟩)|((refine acW (k:=29) (hfa _ ?_) ?_);(exact gsA);rintro u L' ⟨rfl,rfl⟩)|((refine acW (k:=29) (hfb _ ?_) ?_);(exact gsA);rintro u L' ⟨rfl,rfl⟩)|((refine acW (k:=30) (hal _) ?_);rintro u L' ⟨rfl,rfl⟩)));(first|refine⟨rvsA,?_⟩|clear F M a;intro a w F M|clear M;intro w M))|refine zh F ?_ ?_<;>(intro hg;rw[hg] at F;try exact no hg)|refine zT F ?_|((with_reducible refine isK ?_);refine svB F ?_ ?_<;>intro hc<;>try exact no hc)|refine zY ?_;go_step|fail))
   all_goals refine zE F M ?_
   exact⟨_,_,rfl,⟨rfl,rfl⟩,M.perms permsA⟩
 ·have hfa:=fun (R:List Asn) hg=>fits_no c va la R hg hA
  by_cases hck:checkF c=0
  ·have hcf:CfOk c:=cfOk_of hck h0 h1
   have hnw:=fun R=>newB c R hcf hck
   (intro G w M;refine sx_enter (vs:=([cfgV c,va,vb]:List Value)) Tryz.func9 (n:=67) rfl rfl rfl rfl ?_;intro a F;(try simp only[zc,zn] at M))
   have gA:GS (R++G) 4 va la.length (la.flatMap opL):=Gives.app hga
   (repeat'(first|(first|refine sx_nil ?_|refine pv_nil ?_;intro a w F M);try replace F:=F.filt zk131 rfl|refine zn1 F M ?_;clear F M a;(try clear w);intro a w F M|refine sv2 F M ?_;clear F M a;intro nb a w F M|refine zp1 ?_|refine zp2 ?_;intro nb|((first|refine svC F M ?_|refine svC0 F M ?_|refine pvC ?_|refine pvC0 ?_);((first|((fail_if_success(have h9:=eb));((refine acW (k:=28) (hnw _) ?_);rintro u L' ⟨eb,rfl,rfl⟩))|((refine acW (k:=28) (hnw _) ?_);rintro u L' ⟨eb2,rfl,rfl⟩)|((refine acW (k:=29) (hfa _ ?_) ?_);(exact gsA);rintro u L' ⟨rfl,rfl⟩)|((refine acW (k:=30) (hal _) ?_);rintro u L' ⟨rfl,rfl⟩)));(first|refine⟨rvsA,?_⟩|clear F M a;intro a w F M|clear M;intro w M))|refine zh F ?_ ?_<;>(intro hg;rw[hg] at F;try exact no hg)|refine zT F ?_|((with_reducible refine isK ?_);refine svB F ?_ ?_<;>intro hc<;>try exact no hc)|refine zY ?_;go_step|fail))
   all_goals refine zE F M ?_
   exact⟨_,_,rfl,⟨rfl,rfl⟩,M.perms permsA⟩
  ·have hnw:=fun R=>eng_newN c hck R
   (intro G w M;refine sx_enter (vs:=([cfgV c,va,vb]:List Value)) Tryz.func9 (n:=67) rfl rfl rfl rfl ?_;intro a F;(try simp only[zc,zn] at M))
   have gA:GS (R++G) 4 va la.length (la.flatMap opL):=Gives.app hga
   (repeat'(first|(first|refine sx_nil ?_|refine pv_nil ?_;intro a w F M);try replace F:=F.filt zk131 rfl|refine zn1 F M ?_;clear F M a;(try clear w);intro a w F M|refine sv2 F M ?_;clear F M a;intro nb a w F M|refine zp1 ?_|refine zp2 ?_;intro nb|((first|refine svC F M ?_|refine svC0 F M ?_|refine pvC ?_|refine pvC0 ?_);((first|((refine acW (k:=28) (hnw _) ?_);rintro u L' ⟨rfl,rfl⟩)|((refine acW (k:=29) (hfa _ ?_) ?_);(exact gsA);rintro u L' ⟨rfl,rfl⟩)|((refine acW (k:=30) (hal _) ?_);rintro u L' ⟨rfl,rfl⟩)));(first|refine⟨rvsA,?_⟩|clear F M a;intro a w F M|clear M;intro w M))|refine zh F ?_ ?_<;>(intro hg;rw[hg] at F;try exact no hg)|refine zT F ?_|((with_reducible refine isK ?_);refine svB F ?_ ?_<;>intro hc<;>try exact no hc)|refine zY ?_;go_step|fail))
   all_goals refine zE F M ?_
   exact⟨_,_,rfl,⟨rfl,rfl⟩,M.perms permsA⟩
end
end
section
open Go.RowKit
theorem start_EngineParts (w:World) (ks:Array Value) (hk:HasSh w cfgSh ks.toList) (va:Value) (hva:HasSh w (.slice 4 oprSh) [va]) (vb:Value) (hvb:HasSh w (.slice 4 oprSh) [vb]):Calls Tryz.prog 9 #[.agg ks,va,vb] w fun e w'=>e=.returned (.bool true)∧Below w.heap.size w w':=by
 obtain ⟨c,rfl,h0,h1⟩:=cfg_ops hk
 obtain ⟨la,ga,ha⟩:=ops_sh hva
 obtain ⟨lb,gb,hb⟩:=ops_sh hvb
 exact law_old (us:=[cfgV c,va,vb]) (parts_law c va vb la lb [Old w] ga gb h0 h1 ha hb)
end
end Go.Proofs.YtopbohbkhljjgaaGreat
