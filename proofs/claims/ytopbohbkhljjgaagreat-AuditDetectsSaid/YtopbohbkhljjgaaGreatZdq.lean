import Derived.Test.YtopbohbkhljjgaaGreatZdp
set_option linter.unusedVariables false
set_option linter.unusedSimpArgs false
set_option maxRecDepth 100000
set_option maxHeartbeats 8000000
namespace Go.Proofs.YtopbohbkhljjgaaGreat
def zk143:List Nat:=[0,2,3,4,8]
def zk144:List Nat:=[0,2,3,4,8,16]
def zk145:List Nat:=[0,1,4,5,6]
def zk146:List Nat:=[0,1,2,3,4,7]
def zk147:List Nat:=[0,1,2,3,4,6,7,8,13,28,45,66]
def zk148:List Nat:=[0,1,2,4,5,6,7,12,20,37,45]
def zk149:List Nat:=[0,2,3,4,8,14]
def zk150:List Nat:=[0,1,4,5,6,7,8,12,18,26,39]
section
open Go.RowKit
def boolL (b:Bool):List Value:=[.bool b]
instance:EL boolL 1:=⟨fun _=>rfl,fun x u h=>by simp[boolL] at h;subst h;rfl⟩
theorem rlive_spec (s:Int) (R:List Asn):Spec 92 [.int .i64 s] R fun u L'=>u=.bool (decide (s=2) || decide (s=3))∧L'=R:=by
 (intro G w M;refine sx_enter (vs:=([.int .i64 s]:List Value)) Tryz.func92 (n:=9) rfl rfl rfl rfl ?_;intro a F;(try simp only[zc,zn] at M))
 (repeat'(first|(first|refine sx_nil ?_|fail);try replace F:=F.filt [0,2] rfl|refine zn1 F M ?_;clear F M a;(try clear w);intro a w F M|refine zh F ?_ ?_<;>(intro hg;rw[hg] at F;try exact no hg)|refine zT F ?_|refine zY ?_;go_step|fail))
 all_goals refine zE F M ?_
 all_goals exact⟨_,_,rfl,⟨by simp_all [tupOf],rfl⟩,M.perms permsA⟩
section
variable (V:List Val) (v:Value) (R:List Asn) (hg:GS R 7 v V.length (V.flatMap valL)) (hlen:V.length≤1000000)
include hg hlen
theorem rbals_spec:Spec 90 [v] R fun u L'=>∃ h,u=sl h∧L'=ownT 23 u64L 1 (sl h) (bals V)::R:=by
 have hbl:(bals V).length=V.length:=by simp[bals]
 (intro G w M;refine sx_enter (vs:=([v]:List Value)) Tryz.func90 (n:=20) rfl rfl rfl rfl ?_;intro a F;(try simp only[zc,zn] at M))
 have hG:GS (R++G) 7 v V.length (V.flatMap valL):=Gives.app hg
 have M:=M.own_nil 23 1
 (repeat'(first|(first|refine sx_nil ?_|fail);try replace F:=F.filt zk143 rfl|refine zn1 F M ?_;clear F M a;(try clear w);intro a w F M|refine zT F ?_|refine zY ?_;go_step|fail))
 refine svLoop F M ((0,nilH):Nat × SlH) (fun s=>[(4,.int .i64 s.1),(3,sl s.2)]) (fun s=>[ownT 23 u64L 1 (sl s.2) ((bals V).take s.1)]) (fun s=>s.1≤V.length) (fun s=>V.length - s.1) [] (Nat.zero_le _) ?_ (hR:=by simp only[List.take_zero];(repeat (first|exact Pulls.nil|(apply Pulls.cons;(focus ((repeat (first|exact Pull.here|apply Pull.there));done))))))
 (rintro⟨k,h⟩ q1 a w F M;(try simp only[zc,zn] at F M q1 ⊢))
 by_cases hlt:k<V.length
 ·obtain ⟨x,hx⟩:∃ x,V[k]? = some x:=⟨V[k],by simp[hlt]⟩
  have ht:(bals V).take (k+1)=(bals V).take k++[x.bal]:=by rw[List.take_add_one,bals_get hx];rfl
  have htl:((bals V).take k).length≤1000000:=by rw[List.length_take];omega
  (repeat'(first|(first|refine sx_nil ?_|fail);try replace F:=F.filt zk143 rfl|refine zn1 F M ?_;clear F M a;(try clear w);intro a w F M|refine sv2 F M ?_;clear F M a;intro nb a w F M|((first|refine svC F M ?_|fail);((refine ac_appendH rfl rfl inferInstance rfl rfl pullA inferInstance (ys:=[x.bal]) gsA rfl rfl (by simp;omega) ?_;intro nv));(first|clear F M a;intro a w F M|fail))|refine zT F ?_|((with_reducible refine isK ?_);refine svB F ?_ ?_<;>intro hc<;>try exact no hc)|refine zY ?_;go_step|fail))
  rw[← ht] at M
  refine sv_again F M (k+1,nv) kpA permsA (by simp only;omega) (by simp only;omega)
 ·obtain rfl:k=V.length:=by omega
  rw[List.take_of_length_le (by omega)] at M
  (repeat'(first|(first|refine sx_nil ?_|fail);try replace F:=F.filt zk143 rfl|refine zn1 F M ?_;clear F M a;(try clear w);intro a w F M|refine zT F ?_|((with_reducible refine isK ?_);refine svB F ?_ ?_<;>intro hc<;>try exact no hc)|refine zY ?_;go_step|fail))
  (all_goals(refine zE F M ?_;exact⟨_,_,rfl,⟨h,rfl,rfl⟩,M.perms permsA⟩))
theorem rlive24_spec:Spec 131 [v] R fun u L'=>∃ h,u=sl h∧L'=ownT 23 u64L 1 (sl h) (bals (V.filter Val.live))::R:=by
 (intro G w M;refine sx_enter (vs:=([v]:List Value)) Tryz.func131 (n:=26) rfl rfl rfl rfl ?_;intro a F;(try simp only[zc,zn] at M))
 have hG:GS (R++G) 7 v V.length (V.flatMap valL):=Gives.app hg
 have M:=M.own_nil 23 1
 (repeat'(first|(first|refine sx_nil ?_|fail);try replace F:=F.filt zk144 rfl|refine zn1 F M ?_;clear F M a;(try clear w);intro a w F M|refine zT F ?_|refine zY ?_;go_step|fail))
 refine svLoop F M ((0,nilH):Nat × SlH) (fun s=>[(4,.int .i64 s.1),(3,sl s.2)]) (fun s=>[ownT 23 u64L 1 (sl s.2) (bals ((V.take s.1).filter Val.live))]) (fun s=>s.1≤V.length) (fun s=>V.length - s.1) [] (Nat.zero_le _) ?_ (hR:=by simp only[List.take_zero,List.filter_nil,bals,List.map_nil];(repeat (first|exact Pulls.nil|(apply Pulls.cons;(focus ((repeat (first|exact Pull.here|apply Pull.there));done))))))
 (rintro⟨k,h⟩ q1 a w F M;(try simp only[zc,zn] at F M q1 ⊢))
 have hfl:(bals ((V.take k).filter Val.live)).length≤1000000:=by
  rw[bals,List.length_map]
  exact Nat.le_trans (List.length_filter_le _ _) (by rw[List.length_take];omega)
 by_cases hlt:k<V.length
 ·obtain ⟨x,hx⟩:∃ x,V[k]? = some x:=⟨V[k],by simp[hlt]⟩
  have hs:=fun R=>rlive_spec x.st R
  have ht:bals ((V.take (k+1)).filter Val.live)=bals ((V.take k).filter Val.live)++(if x.live=true then [x.bal] else []):=by
   rw[List.take_add_one,hx,List.filter_append];cases hp:x.live<;>simp[hp,bals]
  rw[show(decide (x.st=2) || decide (x.st=3))=x.live from rfl] at hs
  cases hp:x.live
  all_goals rw[hp] at hs ht
  ·(repeat'(first|(first|refine sx_nil ?_|fail);try replace F:=F.filt zk144 rfl|refine zn1 F M ?_;clear F M a;(try clear w);intro a w F M|((first|refine svC F M ?_|fail);((first|((refine acW (k:=92) (hs _) ?_);rintro u L' ⟨rfl,rfl⟩)|fail));(first|clear F M a;intro a w F M|fail))|refine zT F ?_|((with_reducible refine isK ?_);refine svB F ?_ ?_<;>intro hc<;>try exact no hc)|refine zY ?_;go_step|fail))
   rw[if_neg (by decide),List.append_nil] at ht
   rw[← ht] at M
   refine sv_again F M (k+1,h) kpA permsA (by simp only;omega) (by simp only;omega)
  ·(repeat'(first|(first|refine sx_nil ?_|fail);try replace F:=F.filt zk144 rfl|refine zn1 F M ?_;clear F M a;(try clear w);intro a w F M|refine sv2 F M ?_;clear F M a;intro nb a w F M|((first|refine svC F M ?_|fail);((first|((refine acW (k:=92) (hs _) ?_);rintro u L' ⟨rfl,rfl⟩)|(refine ac_appendH rfl rfl inferInstance rfl rfl pullA inferInstance (ys:=[x.bal]) gsA rfl rfl (by simp;omega) ?_;intro nv)));(first|clear F M a;intro a w F M|fail))|refine zT F ?_|((with_reducible refine isK ?_);refine svB F ?_ ?_<;>intro hc<;>try exact no hc)|refine zY ?_;go_step|fail))
   rw[if_pos rfl] at ht
   rw[← ht] at M
   refine sv_again F M (k+1,nv) kpA permsA (by simp only;omega) (by simp only;omega)
 ·obtain rfl:k=V.length:=by omega
  rw[List.take_length] at M
  (repeat'(first|(first|refine sx_nil ?_|fail);try replace F:=F.filt zk144 rfl|refine zn1 F M ?_;clear F M a;(try clear w);intro a w F M|refine zT F ?_|((with_reducible refine isK ?_);refine svB F ?_ ?_<;>intro hc<;>try exact no hc)|refine zY ?_;go_step|fail))
  (all_goals(refine zE F M ?_;exact⟨_,_,rfl,⟨h,rfl,rfl⟩,M.perms permsA⟩))
end
theorem ris_spec (l:List Int) (x:Int) (hl:∀ z∈l,U64 z) (v:Value) (R:List Asn) (hg:GS R 1 v l.length (l.flatMap u64L)):Spec 130 [v,.int .u64 x] R fun u L'=>u=.bool (isR l x)∧L'=R:=by
 have ha:∀ {L:List Asn},GS L 1 v l.length (l.flatMap u64L)→Reads 89 [v] (.tuple [.int .u64 (addR l).1,.bool (addR l).2].toArray) L:=fun hg=>radd_reads _ _ hl hg
 unfold isR
 generalize addR l=X at *
 obtain ⟨n,b⟩:=X
 (intro G w M;refine sx_enter (vs:=([v,.int .u64 x]:List Value)) Tryz.func130 (n:=18) rfl rfl rfl rfl ?_;intro a F;(try simp only[zc,zn] at M))
 have hG:GS (R++G) 1 v l.length (l.flatMap u64L):=Gives.app hg
 cases b
 ·(repeat'(first|(first|refine sx_nil ?_|fail);try replace F:=F.filt zk145 rfl|refine zn1 F M ?_;clear F M a;(try clear w);intro a w F M|((first|refine svC F M ?_|fail);(((refine acCall (k:=89) ?_);(refine Spec.of_reads (ha gsA) rfl ?_)));(first|clear F M a;intro a w F M|fail))|refine zT F ?_|refine zY ?_;go_step|fail))
  all_goals exact zX F M
 ·(repeat'(first|(first|refine sx_nil ?_|fail);try replace F:=F.filt zk145 rfl|refine zn1 F M ?_;clear F M a;(try clear w);intro a w F M|((first|refine svC F M ?_|fail);(((refine acCall (k:=89) ?_);(refine Spec.of_reads (ha gsA) rfl ?_)));(first|clear F M a;intro a w F M|fail))|refine zT F ?_|refine zY ?_;go_step|fail))
  all_goals exact zX F M
theorem repochs_spec (y:Val) (c:Cfg) (hy:epR y) (R:List Asn):Spec 190 [valV y,cfgV c] R fun u L'=>u=.bool (pEpo c.unbonding y)∧L'=R:=by
 obtain ⟨h1,h2⟩:=hy
 (intro G w M;refine sx_enter (vs:=([valV y,cfgV c]:List Value)) Tryz.func190 (n:=33) rfl rfl rfl rfl ?_;intro a F;(try simp only[zc,zn] at M))
 (repeat'(first|(first|refine sx_nil ?_|fail);try replace F:=F.filt zk146 rfl|refine zn1 F M ?_;clear F M a;(try clear w);intro a w F M|refine sv2 F M ?_;clear F M a;intro nb a w F M|refine zh F ?_ ?_<;>(intro hg;rw[hg] at F;try exact no hg)|refine zT F ?_|((with_reducible refine isK ?_);refine svB F ?_ ?_<;>intro hc<;>try exact no hc)|refine zY ?_;go_step|fail))
 all_goals refine zE F M ?_
 all_goals(refine⟨_,_,rfl,⟨?_,rfl⟩,M.perms permsA⟩)
 all_goals(simp_all [tupOf,pEpo,pLeav]<;>omega)
section
variable (x:Sn) (d:SnD) (c:Cfg) (R:List Asn) (h:SnG R x d) (hl:d.V.length≤1000)
include h hl
theorem revery7_spec (hep:∀ v∈d.V,epR v):Spec 134 [stV24 x d,cfgV c,.int .i64 7] R fun u L'=>u=.bool (d.V.all (pEpo c.unbonding))∧L'=R:=by
 generalize hX:d.V.all (pEpo c.unbonding)=X
 (intro G w M;refine sx_enter (vs:=([stV24 x d,cfgV c,.int .i64 7]:List Value)) Tryz.func134 (n:=67) rfl rfl rfl rfl ?_;intro a F;(try simp only[zc,zn] at M))
 have gV:=(h.app G).gV
 (repeat'(first|(first|refine sx_nil ?_|fail);try replace F:=F.filt zk147 rfl|refine zn1 F M ?_;clear F M a;(try clear w);intro a w F M|refine sv2 F M ?_;clear F M a;intro nb a w F M|refine zT F ?_|refine zY ?_;go_step|fail))
 refine svLoop F M (0:Nat) (fun k=>[(7,.int .i64 k)]) (fun _=>[]) (fun k=>k≤d.V.length∧(d.V.drop k).all (pEpo c.unbonding)=X) (fun k=>d.V.length - k) [8] ⟨Nat.zero_le _,hX⟩ ?_
 (rintro k ⟨q1,q2⟩ a w F M;(try simp only[zc,zn] at F M q1 q2 ⊢))
 by_cases hlt:k<d.V.length
 ·obtain ⟨y,hy⟩:∃ y,d.V[k]? = some y:=⟨d.V[k],by simp[hlt]⟩
  have hs:=fun R=>repochs_spec y c (hep y (List.mem_of_getElem? hy)) R
  rw[drop_cons hy,List.all_cons] at q2
  cases hp:pEpo c.unbonding y
  all_goals rw[hp] at hs q2
  ·(repeat'(first|(first|refine sx_nil ?_|fail);try replace F:=F.filt zk147 rfl|refine zn1 F M ?_;clear F M a;(try clear w);intro a w F M|refine sv2 F M ?_;clear F M a;intro nb a w F M|((first|refine svC F M ?_|fail);(((refine acW (k:=190) (hs _) ?_);rintro u L' ⟨rfl,rfl⟩));(first|clear F M a;intro a w F M|fail))|refine zT F ?_|((with_reducible refine isK ?_);refine svB F ?_ ?_<;>intro hc<;>try exact no hc)|refine zY ?_;go_step|fail))
   (all_goals(refine zE F M ?_;exact⟨_,_,rfl,⟨by rw[← q2];rfl,rfl⟩,M.perms permsA⟩))
  ·(repeat'(first|(first|refine sx_nil ?_|fail);try replace F:=F.filt zk147 rfl|refine zn1 F M ?_;clear F M a;(try clear w);intro a w F M|refine sv2 F M ?_;clear F M a;intro nb a w F M|((first|refine svC F M ?_|fail);(((refine acW (k:=190) (hs _) ?_);rintro u L' ⟨rfl,rfl⟩));(first|clear F M a;intro a w F M|fail))|refine zT F ?_|((with_reducible refine isK ?_);refine svB F ?_ ?_<;>intro hc<;>try exact no hc)|refine zY ?_;go_step|fail))
   refine sv_again F M (k+1) kpA permsA ⟨by omega,by simpa using q2⟩ (by omega)
 ·obtain rfl:k=d.V.length:=by omega
  rw[List.drop_length] at q2
  (repeat'(first|(first|refine sx_nil ?_|fail);try replace F:=F.filt zk147 rfl|refine zn1 F M ?_;clear F M a;(try clear w);intro a w F M|refine zT F ?_|((with_reducible refine isK ?_);refine svB F ?_ ?_<;>intro hc<;>try exact no hc)|refine zY ?_;go_step|fail))
  (all_goals(refine zE F M ?_;exact⟨_,_,rfl,⟨by rw[← q2];rfl,rfl⟩,M.perms permsA⟩))
theorem revery8_spec:Spec 134 [stV24 x d,cfgV c,.int .i64 8] R fun u L'=>u=.bool (d.V.all pEmp)∧L'=R:=by
 generalize hX:d.V.all pEmp=X
 (intro G w M;refine sx_enter (vs:=([stV24 x d,cfgV c,.int .i64 8]:List Value)) Tryz.func134 (n:=67) rfl rfl rfl rfl ?_;intro a F;(try simp only[zc,zn] at M))
 have gV:=(h.app G).gV
 (repeat'(first|(first|refine sx_nil ?_|fail);try replace F:=F.filt zk147 rfl|refine zn1 F M ?_;clear F M a;(try clear w);intro a w F M|refine sv2 F M ?_;clear F M a;intro nb a w F M|refine zT F ?_|refine zY ?_;go_step|fail))
 refine svLoop F M (0:Nat) (fun k=>[(7,.int .i64 k)]) (fun _=>[]) (fun k=>k≤d.V.length∧(d.V.drop k).all pEmp=X) (fun k=>d.V.length - k) [8] ⟨Nat.zero_le _,hX⟩ ?_
 (rintro k ⟨q1,q2⟩ a w F M;(try simp only[zc,zn] at F M q1 q2 ⊢))
 by_cases hlt:k<d.V.length
 ·obtain ⟨y,hy⟩:∃ y,d.V[k]? = some y:=⟨d.V[k],by simp[hlt]⟩
  rw[drop_cons hy,List.all_cons] at q2
  (repeat'(first|(first|refine sx_nil ?_|fail);try replace F:=F.filt zk147 rfl|refine zn1 F M ?_;clear F M a;(try clear w);intro a w F M|refine sv2 F M ?_;clear F M a;intro nb a w F M|refine zh F ?_ ?_<;>(intro hg;rw[hg] at F;try exact no hg)|refine zT F ?_|((with_reducible refine isK ?_);refine svB F ?_ ?_<;>intro hc<;>try exact no hc)|refine zY ?_;go_step|fail))
  all_goals first
   | (refine zE F M ?_;(refine⟨_,_,rfl,⟨?_,rfl⟩,M.perms permsA⟩);rw[← q2];(have e:pEmp y=false:=(by simp_all [pEmp]));rw[e];rfl)
   | (refine sv_again F M (k+1) kpA permsA ⟨by omega,by have e:pEmp y=true:=(by simp_all [pEmp]);rw[e,Bool.true_and] at q2;exact q2⟩ (by omega))
 ·obtain rfl:k=d.V.length:=by omega
  rw[List.drop_length] at q2
  (repeat'(first|(first|refine sx_nil ?_|fail);try replace F:=F.filt zk147 rfl|refine zn1 F M ?_;clear F M a;(try clear w);intro a w F M|refine zT F ?_|((with_reducible refine isK ?_);refine svB F ?_ ?_<;>intro hc<;>try exact no hc)|refine zY ?_;go_step|fail))
  (all_goals(refine zE F M ?_;exact⟨_,_,rfl,⟨by rw[← q2];rfl,rfl⟩,M.perms permsA⟩))
theorem revery12_spec:Spec 134 [stV24 x d,cfgV c,.int .i64 12] R fun u L'=>u=.bool (d.V.all pSla)∧L'=R:=by
 generalize hX:d.V.all pSla=X
 (intro G w M;refine sx_enter (vs:=([stV24 x d,cfgV c,.int .i64 12]:List Value)) Tryz.func134 (n:=67) rfl rfl rfl rfl ?_;intro a F;(try simp only[zc,zn] at M))
 have gV:=(h.app G).gV
 (repeat'(first|(first|refine sx_nil ?_|fail);try replace F:=F.filt zk147 rfl|refine zn1 F M ?_;clear F M a;(try clear w);intro a w F M|refine sv2 F M ?_;clear F M a;intro nb a w F M|refine zT F ?_|refine zY ?_;go_step|fail))
 refine svLoop F M (0:Nat) (fun k=>[(7,.int .i64 k)]) (fun _=>[]) (fun k=>k≤d.V.length∧(d.V.drop k).all pSla=X) (fun k=>d.V.length - k) [8] ⟨Nat.zero_le _,hX⟩ ?_
 (rintro k ⟨q1,q2⟩ a w F M;(try simp only[zc,zn] at F M q1 q2 ⊢))
 by_cases hlt:k<d.V.length
 ·obtain ⟨y,hy⟩:∃ y,d.V[k]? = some y:=⟨d.V[k],by simp[hlt]⟩
  rw[drop_cons hy,List.all_cons] at q2
  (repeat'(first|(first|refine sx_nil ?_|fail);try replace F:=F.filt zk147 rfl|refine zn1 F M ?_;clear F M a;(try clear w);intro a w F M|refine sv2 F M ?_;clear F M a;intro nb a w F M|refine zh F ?_ ?_<;>(intro hg;rw[hg] at F;try exact no hg)|refine zT F ?_|((with_reducible refine isK ?_);refine svB F ?_ ?_<;>intro hc<;>try exact no hc)|refine zY ?_;go_step|fail))
  all_goals first
   | (refine zE F M ?_;(refine⟨_,_,rfl,⟨?_,rfl⟩,M.perms permsA⟩);rw[← q2];(have e:pSla y=false:=(by simp_all [pSla,pLeav]<;>omega));rw[e];rfl)
   | (refine sv_again F M (k+1) kpA permsA ⟨by omega,by have e:pSla y=true:=(by simp_all [pSla,pLeav]<;>omega);rw[e,Bool.true_and] at q2;exact q2⟩ (by omega))
 ·obtain rfl:k=d.V.length:=by omega
  rw[List.drop_length] at q2
  (repeat'(first|(first|refine sx_nil ?_|fail);try replace F:=F.filt zk147 rfl|refine zn1 F M ?_;clear F M a;(try clear w);intro a w F M|refine zT F ?_|((with_reducible refine isK ?_);refine svB F ?_ ?_<;>intro hc<;>try exact no hc)|refine zY ?_;go_step|fail))
  (all_goals(refine zE F M ?_;exact⟨_,_,rfl,⟨by rw[← q2];rfl,rfl⟩,M.perms permsA⟩))
theorem rchosen5_spec:Spec 133 [stV24 x d,.int .i64 5] R fun u L'=>∃ h,u=sl h∧L'=ownT 4 boolL 1 (sl h) (d.V.map pPend)::R:=by
 (intro G w M;refine sx_enter (vs:=([stV24 x d,.int .i64 5]:List Value)) Tryz.func133 (n:=59) rfl rfl rfl rfl ?_;intro a F;(try simp only[zc,zn] at M))
 have gV:=(h.app G).gV
 have M:=M.own_nil 4 1
 (repeat'(first|(first|refine sx_nil ?_|fail);try replace F:=F.filt zk148 rfl|refine zn1 F M ?_;clear F M a;(try clear w);intro a w F M|refine sv2 F M ?_;clear F M a;intro nb a w F M|refine zT F ?_|refine zY ?_;go_step|fail))
 refine svLoop F M ((0,nilH):Nat × SlH) (fun s=>[(6,.int .i64 s.1),(5,sl s.2)]) (fun s=>[ownT 4 boolL 1 (sl s.2) ((d.V.take s.1).map pPend)]) (fun s=>s.1≤d.V.length) (fun s=>d.V.length - s.1) [7,20] (Nat.zero_le _) ?_ (hR:=by simp only[List.take_zero,List.map_nil];(repeat (first|exact Pulls.nil|(apply Pulls.cons;(focus ((repeat (first|exact Pull.here|apply Pull.there));done))))))
 (rintro⟨k,h⟩ q1 a w F M;(try simp only[zc,zn] at F M q1 ⊢))
 by_cases hlt:k<d.V.length
 ·obtain ⟨y,hy⟩:∃ y,d.V[k]? = some y:=⟨d.V[k],by simp[hlt]⟩
  have ht:=take_map (f:=pPend) hy
  have htl:((d.V.take k).map pPend).length≤1000:=by rw[List.length_map,List.length_take];omega
  obtain ⟨p,hp⟩:∃ p,pPend y=p:=⟨_,rfl⟩
  rw[hp] at ht
  (repeat'(first|(first|refine sx_nil ?_|fail);try replace F:=F.filt zk148 rfl|refine zn1 F M ?_;clear F M a;(try clear w);intro a w F M|refine sv2 F M ?_;clear F M a;intro nb a w F M|((first|refine svC F M ?_|fail);((refine ac_appendH rfl rfl inferInstance rfl rfl pullA inferInstance (ys:=[_]) gsA rfl rfl (by simp;omega) ?_;intro nv));(first|clear F M a;intro a w F M|fail))|refine zT F ?_|((with_reducible refine isK ?_);refine svB F ?_ ?_<;>intro hc<;>try exact no hc)|refine zY ?_;go_step|fail))
  all_goals(have e:p=_:=hp.symm;clear hp;simp only[pPend, *,Bool.true_and,Bool.and_true,Bool.false_and,Bool.and_false,Bool.true_or,Bool.or_true,Bool.false_or,Bool.or_false] at e;subst e;rw[← ht] at M;exact sv_again F M (k+1,nv) kpA permsA (by simp only;omega) (by simp only;omega))
 ·obtain rfl:k=d.V.length:=by omega
  rw[List.take_length] at M
  (repeat'(first|(first|refine sx_nil ?_|fail);try replace F:=F.filt zk148 rfl|refine zn1 F M ?_;clear F M a;(try clear w);intro a w F M|refine zT F ?_|((with_reducible refine isK ?_);refine svB F ?_ ?_<;>intro hc<;>try exact no hc)|refine zY ?_;go_step|fail))
  (all_goals(refine zE F M ?_;exact⟨_,_,rfl,⟨h,rfl,rfl⟩,M.perms permsA⟩))
theorem rchosen6_spec:Spec 133 [stV24 x d,.int .i64 6] R fun u L'=>∃ h,u=sl h∧L'=ownT 4 boolL 1 (sl h) (d.V.map pExit)::R:=by
 (intro G w M;refine sx_enter (vs:=([stV24 x d,.int .i64 6]:List Value)) Tryz.func133 (n:=59) rfl rfl rfl rfl ?_;intro a F;(try simp only[zc,zn] at M))
 have gV:=(h.app G).gV
 have M:=M.own_nil 4 1
 (repeat'(first|(first|refine sx_nil ?_|fail);try replace F:=F.filt zk148 rfl|refine zn1 F M ?_;clear F M a;(try clear w);intro a w F M|refine sv2 F M ?_;clear F M a;intro nb a w F M|refine zT F ?_|refine zY ?_;go_step|fail))
 refine svLoop F M ((0,nilH):Nat × SlH) (fun s=>[(6,.int .i64 s.1),(5,sl s.2)]) (fun s=>[ownT 4 boolL 1 (sl s.2) ((d.V.take s.1).map pExit)]) (fun s=>s.1≤d.V.length) (fun s=>d.V.length - s.1) [7,20] (Nat.zero_le _) ?_ (hR:=by simp only[List.take_zero,List.map_nil];(repeat (first|exact Pulls.nil|(apply Pulls.cons;(focus ((repeat (first|exact Pull.here|apply Pull.there));done))))))
 (rintro⟨k,h⟩ q1 a w F M;(try simp only[zc,zn] at F M q1 ⊢))
 by_cases hlt:k<d.V.length
 ·obtain ⟨y,hy⟩:∃ y,d.V[k]? = some y:=⟨d.V[k],by simp[hlt]⟩
  have ht:=take_map (f:=pExit) hy
  have htl:((d.V.take k).map pExit).length≤1000:=by rw[List.length_map,List.length_take];omega
  obtain ⟨p,hp⟩:∃ p,pExit y=p:=⟨_,rfl⟩
  rw[hp] at ht
  (repeat'(first|(first|refine sx_nil ?_|fail);try replace F:=F.filt zk148 rfl|refine zn1 F M ?_;clear F M a;(try clear w);intro a w F M|refine sv2 F M ?_;clear F M a;intro nb a w F M|((first|refine svC F M ?_|fail);((refine ac_appendH rfl rfl inferInstance rfl rfl pullA inferInstance (ys:=[_]) gsA rfl rfl (by simp;omega) ?_;intro nv));(first|clear F M a;intro a w F M|fail))|refine zh F ?_ ?_<;>(intro hg;rw[hg] at F;try exact no hg)|refine zT F ?_|((with_reducible refine isK ?_);refine svB F ?_ ?_<;>intro hc<;>try exact no hc)|refine zY ?_;go_step|fail))
  all_goals(have e:p=_:=hp.symm;clear hp;simp only[pExit, *,Bool.true_and,Bool.and_true,Bool.false_and,Bool.and_false,Bool.true_or,Bool.or_true,Bool.false_or,Bool.or_false] at e;subst e;rw[← ht] at M;exact sv_again F M (k+1,nv) kpA permsA (by simp only;omega) (by simp only;omega))
 ·obtain rfl:k=d.V.length:=by omega
  rw[List.take_length] at M
  (repeat'(first|(first|refine sx_nil ?_|fail);try replace F:=F.filt zk148 rfl|refine zn1 F M ?_;clear F M a;(try clear w);intro a w F M|refine zT F ?_|((with_reducible refine isK ?_);refine svB F ?_ ?_<;>intro hc<;>try exact no hc)|refine zY ?_;go_step|fail))
  (all_goals(refine zE F M ?_;exact⟨_,_,rfl,⟨h,rfl,rfl⟩,M.perms permsA⟩))
theorem rchosen9_spec:Spec 133 [stV24 x d,.int .i64 9] R fun u L'=>∃ h,u=sl h∧L'=ownT 4 boolL 1 (sl h) (d.V.map pBond)::R:=by
 (intro G w M;refine sx_enter (vs:=([stV24 x d,.int .i64 9]:List Value)) Tryz.func133 (n:=59) rfl rfl rfl rfl ?_;intro a F;(try simp only[zc,zn] at M))
 have gV:=(h.app G).gV
 have M:=M.own_nil 4 1
 (repeat'(first|(first|refine sx_nil ?_|fail);try replace F:=F.filt zk148 rfl|refine zn1 F M ?_;clear F M a;(try clear w);intro a w F M|refine sv2 F M ?_;clear F M a;intro nb a w F M|refine zT F ?_|refine zY ?_;go_step|fail))
 refine svLoop F M ((0,nilH):Nat × SlH) (fun s=>[(6,.int .i64 s.1),(5,sl s.2)]) (fun s=>[ownT 4 boolL 1 (sl s.2) ((d.V.take s.1).map pBond)]) (fun s=>s.1≤d.V.length) (fun s=>d.V.length - s.1) [7,20] (Nat.zero_le _) ?_ (hR:=by simp only[List.take_zero,List.map_nil];(repeat (first|exact Pulls.nil|(apply Pulls.cons;(focus ((repeat (first|exact Pull.here|apply Pull.there));done))))))
 (rintro⟨k,h⟩ q1 a w F M;(try simp only[zc,zn] at F M q1 ⊢))
 by_cases hlt:k<d.V.length
 ·obtain ⟨y,hy⟩:∃ y,d.V[k]? = some y:=⟨d.V[k],by simp[hlt]⟩
  have ht:=take_map (f:=pBond) hy
  have htl:((d.V.take k).map pBond).length≤1000:=by rw[List.length_map,List.length_take];omega
  obtain ⟨p,hp⟩:∃ p,pBond y=p:=⟨_,rfl⟩
  rw[hp] at ht
  (repeat'(first|(first|refine sx_nil ?_|fail);try replace F:=F.filt zk148 rfl|refine zn1 F M ?_;clear F M a;(try clear w);intro a w F M|refine sv2 F M ?_;clear F M a;intro nb a w F M|((first|refine svC F M ?_|fail);((refine ac_appendH rfl rfl inferInstance rfl rfl pullA inferInstance (ys:=[_]) gsA rfl rfl (by simp;omega) ?_;intro nv));(first|clear F M a;intro a w F M|fail))|refine zh F ?_ ?_<;>(intro hg;rw[hg] at F;try exact no hg)|refine zT F ?_|((with_reducible refine isK ?_);refine svB F ?_ ?_<;>intro hc<;>try exact no hc)|refine zY ?_;go_step|fail))
  all_goals(have e:p=_:=hp.symm;clear hp;simp only[pBond, *,Bool.true_and,Bool.and_true,Bool.false_and,Bool.and_false,Bool.true_or,Bool.or_true,Bool.false_or,Bool.or_false] at e;subst e;rw[← ht] at M;exact sv_again F M (k+1,nv) kpA permsA (by simp only;omega) (by simp only;omega))
 ·obtain rfl:k=d.V.length:=by omega
  rw[List.take_length] at M
  (repeat'(first|(first|refine sx_nil ?_|fail);try replace F:=F.filt zk148 rfl|refine zn1 F M ?_;clear F M a;(try clear w);intro a w F M|refine zT F ?_|((with_reducible refine isK ?_);refine svB F ?_ ?_<;>intro hc<;>try exact no hc)|refine zY ?_;go_step|fail))
  (all_goals(refine zE F M ?_;exact⟨_,_,rfl,⟨h,rfl,rfl⟩,M.perms permsA⟩))
end
def cntB (l:List Bool):Nat:=(l.filter fun b=>b).length
theorem rcount_spec (B:List Bool) (hB:B.length≤1000) (v:Value) (R:List Asn) (hg:GS R 1 v B.length (B.flatMap boolL)):Spec 135 [v] R fun u L'=>u=.int .i64 (cntB B)∧L'=R:=by
 (intro G w M;refine sx_enter (vs:=([v]:List Value)) Tryz.func135 (n:=18) rfl rfl rfl rfl ?_;intro a F;(try simp only[zc,zn] at M))
 have hG:GS (R++G) 1 v B.length (B.flatMap boolL):=Gives.app hg
 (repeat'(first|(first|refine sx_nil ?_|fail);try replace F:=F.filt zk149 rfl|refine zn1 F M ?_;clear F M a;(try clear w);intro a w F M|refine zT F ?_|refine zY ?_;go_step|fail))
 refine svLoop F M (0:Nat) (fun k=>[(4,.int .i64 k),(3,.int .i64 (cntB (B.take k)))]) (fun _=>[]) (fun k=>k≤B.length) (fun k=>B.length - k) [] (Nat.zero_le _) ?_
 (rintro k q1 a w F M;(try simp only[zc,zn] at F M q1 ⊢))
 by_cases hlt:k<B.length
 ·obtain ⟨y,hy⟩:∃ y,B[k]? = some y:=⟨B[k],by simp[hlt]⟩
  have hle:cntB (B.take k)≤1000:=Nat.le_trans (List.length_filter_le _ _) (by rw[List.length_take];omega)
  have ht:(cntB (B.take (k+1)):Int)=cntB (B.take k)+(if y=true then 1 else 0):=by
   unfold cntB
   rw[List.take_add_one,hy,List.filter_append];cases y<;>simp
  cases y
  all_goals simp at ht
  all_goals(repeat'(first|(first|refine sx_nil ?_|fail);try replace F:=F.filt zk149 rfl|refine zn1 F M ?_;clear F M a;(try clear w);intro a w F M|refine zT F ?_|((with_reducible refine isK ?_);refine svB F ?_ ?_<;>intro hc<;>try exact no hc)|refine zY ?_;go_step|fail))
  all_goals rw[← ht] at F
  all_goals exact sv_again F M (k+1) kpA permsA (by omega) (by omega)
 ·obtain rfl:k=B.length:=by omega
  rw[List.take_length] at F
  (repeat'(first|(first|refine sx_nil ?_|fail);try replace F:=F.filt zk149 rfl|refine zn1 F M ?_;clear F M a;(try clear w);intro a w F M|refine zT F ?_|((with_reducible refine isK ?_);refine svB F ?_ ?_<;>intro hc<;>try exact no hc)|refine zY ?_;go_step|fail))
  all_goals exact zX F M
def ronceGo (l:List Int):List Bool→Nat→Nat→Bool
 | [],_,n=>decide (n=l.length)
 | b::B,i,n=>decide ((l.count (i:Int):Int)=if b=true then 1 else 0) && ronceGo l B (i+1) (n+l.count (i:Int))
theorem ronce_spec (l:List Int) (B:List Bool) (hl:l.length≤1000) (hB:B.length≤1000) (v vb:Value) (R:List Asn) (hg:GS R 1 v l.length (l.flatMap intL)) (hb:GS R 1 vb B.length (B.flatMap boolL)):Spec 132 [v,vb] R fun u L'=>u=.bool (ronceGo l B 0 0)∧L'=R:=by
 generalize hX:ronceGo l B 0 0=X
 (intro G w M;refine sx_enter (vs:=([v,vb]:List Value)) Tryz.func132 (n:=47) rfl rfl rfl rfl ?_;intro a F;(try simp only[zc,zn] at M))
 have hG:GS (R++G) 1 v l.length (l.flatMap intL):=Gives.app hg
 have hH:GS (R++G) 1 vb B.length (B.flatMap boolL):=Gives.app hb
 (repeat'(first|(first|refine sx_nil ?_|fail);try replace F:=F.filt zk150 rfl|refine zn1 F M ?_;clear F M a;(try clear w);intro a w F M|refine zT F ?_|refine zY ?_;go_step|fail))
 refine svLoop F M ((0,0):Nat × Nat) (fun s=>[(6,.int .i64 s.1),(5,.int .i64 s.2)]) (fun _=>[]) (fun s=>s.1≤B.length∧s.2≤s.1∧ronceGo l (B.drop s.1) s.1 s.2=X) (fun s=>B.length - s.1) [7,8] ⟨Nat.zero_le _,Nat.le_refl _,hX⟩ ?_
 (rintro⟨k,n⟩ ⟨q1,q2,q3⟩ a w F M;(try simp only[zc,zn] at F M q1 q2 q3 ⊢))
 by_cases hlt:k<B.length
 ·obtain ⟨y,hy⟩:∃ y,B[k]? = some y:=⟨B[k],by simp[hlt]⟩
  rw[drop_cons hy,ronceGo] at q3
  (repeat'(first|(first|refine sx_nil ?_|fail);try replace F:=F.filt zk150 rfl|refine zn1 F M ?_;clear F M a;(try clear w);intro a w F M|refine zT F ?_|((with_reducible refine isK ?_);refine svB F ?_ ?_<;>intro hc<;>try exact no hc)|refine zY ?_;go_step|fail))
  refine svLoop F M (0:Nat) (fun j=>[(8,.int .i64 j),(7,.int .i64 ((l.take j).count (k:Int)))]) (fun _=>[]) (fun j=>j≤l.length) (fun j=>l.length - j) [] (Nat.zero_le _) ?_
  (rintro j p1 a w F M;(try simp only[zc,zn] at F M p1 ⊢))
  have hcl:(l.take j).count (k:Int)≤1000:=Nat.le_trans List.count_le_length (by rw[List.length_take];omega)
  by_cases hj:j<l.length
  ·obtain ⟨z,hz⟩:∃ z,l[j]? = some z:=⟨l[j],by simp[hj]⟩
   have ht:(((l.take (j+1)).count (k:Int):Nat):Int)=(l.take j).count (k:Int)+(if z=(k:Int) then 1 else 0):=by
    rw[List.take_add_one,hz,List.count_append]
    by_cases hzk:z=(k:Int)<;>simp[hzk]
   by_cases hzk:z=(k:Int)
   ·rw[if_pos hzk] at ht
    (repeat'(first|(first|refine sx_nil ?_|fail);try replace F:=F.filt zk150 rfl|refine zn1 F M ?_;clear F M a;(try clear w);intro a w F M|refine zT F ?_|((with_reducible refine isK ?_);refine svB F ?_ ?_<;>intro hc<;>try exact no hc)|refine zY ?_;go_step|fail))
    rw[← ht] at F
    exact sv_again F M (j+1) kpA permsA (by omega) (by omega)
   ·rw[if_neg hzk,Int.add_zero] at ht
    (repeat'(first|(first|refine sx_nil ?_|fail);try replace F:=F.filt zk150 rfl|refine zn1 F M ?_;clear F M a;(try clear w);intro a w F M|refine zT F ?_|((with_reducible refine isK ?_);refine svB F ?_ ?_<;>intro hc<;>try exact no hc)|refine zY ?_;go_step|fail))
    rw[← ht] at F
    exact sv_again F M (j+1) kpA permsA (by omega) (by omega)
  ·obtain rfl:j=l.length:=by omega
   rw[List.take_length] at F hcl
   generalize List.count (k:Int) l=m at *
   by_cases hm:1<m
   ·have e:decide ((m:Int)=if y=true then 1 else 0)=false:=by cases y<;>simp<;>omega
    rw[e,Bool.false_and] at q3
    (repeat'(first|(first|refine sx_nil ?_|fail);try replace F:=F.filt zk150 rfl|refine zn1 F M ?_;clear F M a;(try clear w);intro a w F M|refine zh F ?_ ?_<;>(intro hg;rw[hg] at F;try exact no hg)|refine zT F ?_|((with_reducible refine isK ?_);refine svB F ?_ ?_<;>intro hc<;>try exact no hc)|refine zY ?_;go_step|fail))
    (all_goals(refine zE F M ?_;exact⟨_,_,rfl,⟨by rw[← q3];rfl,rfl⟩,M.perms permsA⟩))
   ·rcases (by omega:m=0∨m=1) with rfl|rfl
    all_goals cases y
    all_goals simp at q3
    all_goals(repeat'(first|(first|refine sx_nil ?_|fail);try replace F:=F.filt zk150 rfl|refine zn1 F M ?_;clear F M a;(try clear w);intro a w F M|refine zT F ?_|((with_reducible refine isK ?_);refine svB F ?_ ?_<;>intro hc<;>try exact no hc)|refine zY ?_;go_step|fail))
    all_goals first
     | (refine zE F M ?_;exact⟨_,_,rfl,⟨by rw[← q3];rfl,rfl⟩,M.perms permsA⟩)
     | (refine sv_again F M (k+1,n) kpA permsA ⟨by simp only;omega,by simp only;omega,q3⟩ (by simp only;omega))
     | (refine sv_again F M (k+1,n+1) kpA permsA ⟨by simp only;omega,by simp only;omega,q3⟩ (by simp only;omega))
 ·obtain rfl:k=B.length:=by omega
  rw[List.drop_length,ronceGo] at q3
  (repeat'(first|(first|refine sx_nil ?_|fail);try replace F:=F.filt zk150 rfl|refine zn1 F M ?_;clear F M a;(try clear w);intro a w F M|refine zT F ?_|((with_reducible refine isK ?_);refine svB F ?_ ?_<;>intro hc<;>try exact no hc)|refine zY ?_;go_step|fail))
  all_goals refine zE F M ?_
  refine⟨_,_,rfl,⟨?_,rfl⟩,M.perms permsA⟩
  rw[← q3]
  (simp[tupOf]<;>omega)
end
def zk151:List Nat:=[0,1,2,3,4,6,7,8,9,13,14,22,34,48,56,63,75,83,91]
def zd152:List ZR:=[⟨6,[5,6,9],[],[(5,[0,7,8]),(6,[7,8])],[0,1,2,3,4,7,8,5,6,9,10]⟩,⟨11,[2,5],[],[(2,[3,4])],[0,1,3,4,2,5,6]⟩,⟨13,[3,4],[],[(3,[0,1])],[0,1,2,3,4,5]⟩,⟨15,[0,3,6,8,9],[],[(0,[1,2,4,5,7]),(3,[4,5,7]),(6,[7])],[1,2,4,5,7,0,3,6,8,9,10]⟩,⟨21,[3,4],[],[(3,[0,1]),(4,[0,1])],[0,1,2,3,4,5,6]⟩,⟨24,[],[],[],[0,1,2,3,4,5,6,7,8,9,10,11,12,13]⟩]
def zk153:List Nat:=[0,1,2,3,4,5,6,8,15]
section
open Go.RowKit
theorem filter_count (q:List Int) (i j:Int):(q.filter fun z=>decide (z≠i)).count j=if j=i then 0 else q.count j:=by
 by_cases h:j=i
 ·rw[if_pos h,List.count_eq_zero]
  intro hm
  have:=(List.mem_filter.1 hm).2
  simp[h] at this
 ·rw[if_neg h,count_filter_ne h]
theorem filter_len (i:Int):∀ q:List Int,(q.filter fun z=>decide (z≠i)).length+q.count i=q.length
 | []=>rfl
 | z::q=>by
  have:=filter_len i q
  by_cases h:z=i
  ·simp[h] at this ⊢;omega
  ·simp[h] at this ⊢;omega
theorem once_ronce (p:Val→Bool) (l:List Int):∀ (V:List Val) (i n:Nat) (q:List Int),(∀ j:Int,(i:Int)≤j→q.count j=l.count j)→q.length+n=l.length→onceGo p V i q=ronceGo l (V.map p) i n
 | [],i,n,q,_,h2=>by
  simp only[onceGo,List.map_nil,ronceGo]
  congr 1
  rw[← List.length_eq_zero_iff]
  apply propext;omega
 | v::V,i,n,q,h1,h2=>by
  have e1:=h1 i (Int.le_refl _)
  have e2:=filter_len (i:Int) q
  simp only[onceGo,List.map_cons,ronceGo]
  rw[e1]
  congr 1
  apply once_ronce p l V
  ·intro j hj
   rw[filter_count,if_neg (by omega)]
   exact h1 j (by omega)
  ·omega
theorem isR_comm (a b:Int) (l:List Int) (x:Int) (ha:0≤a) (hb:0≤b) (hl:∀ z∈l,0≤z):isR (l++[a,b]) x=isR ([a,b]++l) x:=by
 unfold isR
 have h1:∀ z∈l++[a,b],0≤z:=fun z hz=>by
  rcases List.mem_append.1 hz with h|h
  ·exact hl z h
  ·simp at h;rcases h with rfl|rfl<;>assumption
 have h2:∀ z∈[a,b]++l,0≤z:=fun z hz=>h1 z (by rcases List.mem_append.1 hz with h|h;exact List.mem_append_right _ h;exact List.mem_append_left _ h)
 rw[addR_sum _ h1,addR_sum _ h2,List.sum_append,List.sum_append,Int.add_comm]
section
variable (x:Sn) (d:SnD) (c:Cfg) (R:List Asn) (h:SnG R x d) (hr:SnR x d) (hf:fewB d=true) (hc:checkF c=0)
include h hr hf hc
theorem rholds_spec (k:Nat) (h1:1≤k) (h2:k≤12):Spec 51 [stV24 x d,cfgV c,.int .i64 k] R fun u L'=>u=.bool (ruleN x d c k)∧L'=R:=by
 have hok:=auOK_of h hr hf hc
 have hf2:=hf
 simp only[fewB,fewT,Bool.and_eq_true,List.all_eq_true,decide_eq_true_eq] at hf2
 obtain ⟨hfv,⟨⟨⟨⟨l1,l2⟩,l3⟩,l4⟩,l5⟩,l6⟩:=hf2
 have hep:∀ v∈d.V,epR v:=fun v hv=>fewV_ep (hfv v hv)
 have hel:=hok.el
 have hbk:=hr.bk
 have hpd:=hr.pd;have hbu:=hr.bu
 have hbl:∀ z∈bals d.V,U64 z:=fun z hz=>by obtain ⟨y,hy,rfl⟩:=List.mem_map.1 hz;exact hr.bal y hy
 have hbf:∀ z∈bals (d.V.filter Val.live),U64 z:=fun z hz=>by obtain ⟨y,hy,rfl⟩:=List.mem_map.1 hz;exact hr.bal y (List.mem_filter.1 hy).1
 have hb2:∀ z∈bals d.V++[x.pd,x.bu],U64 z:=fun z hz=>by
  rcases List.mem_append.1 hz with hz|hz
  ·exact hbl z hz
  ·simp at hz;rcases hz with rfl|rfl;exact hpd;exact hbu
 have e2:=isR_comm x.pd x.bu (bals d.V) x.dep hpd.1 hbu.1 fun z hz=>(hbl z hz).1
 have e5:=once_ronce pPend d.pe d.V 0 0 d.pe (fun _ _=>rfl) rfl
 have e6:=once_ronce pExit (d.fo++d.vo) d.V 0 0 (d.fo++d.vo) (fun _ _=>rfl) rfl
 have e9:cntB (d.V.map pBond)=(d.V.filter pBond).length:=by
  unfold cntB
  rw[List.filter_map,List.length_map];rfl
 have hbb:=fun (R:List Asn) hg=>rbals_spec d.V (sl x.hV) R hg (by omega)
 have hll:=fun (R:List Asn) hg=>rlive24_spec d.V (sl x.hV) R hg (by omega)
 have hch5:=fun (R:List Asn) h=>rchosen5_spec x d R h (by omega)
 have hch6:=fun (R:List Asn) h=>rchosen6_spec x d R h (by omega)
 have hch9:=fun (R:List Asn) h=>rchosen9_spec x d R h (by omega)
 have hev7:=fun (R:List Asn) h=>revery7_spec x d c R h (by omega) hep
 have hev8:=fun (R:List Asn) h=>revery8_spec x d c R h (by omega)
 have hev12:=fun (R:List Asn) h=>revery12_spec x d c R h (by omega)
 have hi2:=fun (v:Value) (R:List Asn) hg=>ris_spec (bals d.V++[x.pd,x.bu]) x.dep hb2 v R hg
 have hi4:=fun (v:Value) (R:List Asn) hg=>ris_spec (bals (d.V.filter Val.live)) x.ac hbf v R hg
 have ho5:=fun (v vb:Value) (R:List Asn) hg hb=>ronce_spec d.pe (d.V.map pPend) (by omega) (by simp;omega) v vb R hg hb
 have ho6:=fun (v vb:Value) (R:List Asn) hg hb=>ronce_spec (d.fo++d.vo) (d.V.map pExit) (by simp;omega) (by simp;omega) v vb R hg hb
 have hc9:=fun (v:Value) (R:List Asn) hg=>rcount_spec (d.V.map pBond) (by simp;omega) v R hg
 have hbs:(bals d.V).length≤60:=by simp[bals];omega
 have ha3:∀ {L:List Asn} {v:Value},GS L 1 v (bals d.V).length ((bals d.V).flatMap u64L)→Reads 89 [v] (.tuple [.int .u64 (addR (bals d.V)).1,.bool (addR (bals d.V)).2].toArray) L:=fun hg=>radd_reads _ _ hbl hg
 rw[← e5] at ho5
 rw[← e6] at ho6
 rw[e9] at hc9
 rw[e2] at hi2
 (rcases (by omega:k=1∨k=2∨k=3∨k=4∨k=5∨k=6∨k=7∨k=8∨k=9∨k=10∨k=11∨k=12) with rfl|rfl|rfl|rfl|rfl|rfl|rfl|rfl|rfl|rfl|rfl|rfl)
 ·((intro G w M;refine sx_enter (vs:=([stV24 x d,cfgV c,.int .i64 ((1:Nat):Int)]:List Value)) Tryz.func51 (n:=123) rfl rfl rfl rfl ?_;intro a F;(try simp only[zc,zn] at M));have hh:=h.app G;have gV:=hh.gV;have gP:=hh.gP;have gF:=hh.gF;have gO:=hh.gO)
  (repeat'(first|(first|refine sx_nil ?_|fail);try replace F:=F.filt zk151 rfl|refine zn1 F M ?_;clear F M a;(try clear w);intro a w F M|refine sv2 F M ?_;clear F M a;intro nb a w F M|((first|refine svC F M ?_|fail);((first|(refine acW (k:=90) (hbb _ ?_) ?_;(exact gsA);rintro u L' ⟨hb,rfl,rfl⟩)|fail));(first|clear F M a;intro a w F M|fail))|refine zT F ?_|refine zY ?_;go_step|fail))
  all_goals exact zX F M
 ·((intro G w M;refine sx_enter (vs:=([stV24 x d,cfgV c,.int .i64 ((2:Nat):Int)]:List Value)) Tryz.func51 (n:=123) rfl rfl rfl rfl ?_;intro a F;(try simp only[zc,zn] at M));have hh:=h.app G;have gV:=hh.gV;have gP:=hh.gP;have gF:=hh.gF;have gO:=hh.gO)
  (repeat'(first|(first|refine sx_nil ?_|refine pv_nil ?_;intro a w F M);try replace F:=F.filt zk151 rfl|refine zn1 F M ?_;clear F M a;(try clear w);intro a w F M|refine sv2 F M ?_;clear F M a;intro nb a w F M|refine zp1 ?_|refine zp2 ?_;intro nb|((first|refine svC F M ?_|refine pvC ?_|fail);((first|(refine acW (k:=90) (hbb _ ?_) ?_;(exact gsA);rintro u L' ⟨hb,rfl,rfl⟩)|(refine acW (k:=130) (hi2 _ _ ?_) ?_;(exact gs_own pullA);rintro u L' ⟨rfl,rfl⟩)|(refine ac_appendH (f:=u64L) (xs:=bals d.V) (ys:=[x.pd,x.bu]) rfl rfl inferInstance rfl rfl pullA inferInstance gsA rfl rfl (by simp;omega) ?_;intro nv)));(first|refine⟨rvsA,?_⟩|clear F M a;intro a w F M|fail))|refine zT F ?_|((with_reducible refine isD ?_);((refine zD zd152 F M ?_;clear F M a w)))|refine zY ?_;go_step|fail))
  all_goals exact zX F M
 ·((intro G w M;refine sx_enter (vs:=([stV24 x d,cfgV c,.int .i64 ((3:Nat):Int)]:List Value)) Tryz.func51 (n:=123) rfl rfl rfl rfl ?_;intro a F;(try simp only[zc,zn] at M));have hh:=h.app G;have gV:=hh.gV;have gP:=hh.gP;have gF:=hh.gF;have gO:=hh.gO)
  cases hb3:(addR (bals d.V)).2
  all_goals rw[hb3] at ha3
  ·(repeat'(first|(first|refine sx_nil ?_|fail);try replace F:=F.filt zk151 rfl|refine zn1 F M ?_;clear F M a;(try clear w);intro a w F M|refine sv2 F M ?_;clear F M a;intro nb a w F M|((first|refine svC F M ?_|fail);((first|(refine acW (k:=90) (hbb _ ?_) ?_;(exact gsA);rintro u L' ⟨hb,rfl,rfl⟩)|((refine acCall (k:=89) ?_);(refine Spec.of_reads (ha3 (gs_own pullA)) rfl ?_))|fail));(first|clear F M a;intro a w F M|fail))|refine zT F ?_|refine zY ?_;go_step|fail))
   (all_goals(refine zE F M ?_;exact⟨_,_,rfl,⟨by simp[tupOf,ruleN,rule3,hb3],rfl⟩,M.perms permsA⟩))
  ·(repeat'(first|(first|refine sx_nil ?_|fail);try replace F:=F.filt zk151 rfl|refine zn1 F M ?_;clear F M a;(try clear w);intro a w F M|refine sv2 F M ?_;clear F M a;intro nb a w F M|((first|refine svC F M ?_|fail);((first|(refine acW (k:=90) (hbb _ ?_) ?_;(exact gsA);rintro u L' ⟨hb,rfl,rfl⟩)|((refine acCall (k:=89) ?_);(refine Spec.of_reads (ha3 (gs_own pullA)) rfl ?_))|fail));(first|clear F M a;intro a w F M|fail))|refine zT F ?_|refine zY ?_;go_step|fail))
   (all_goals(refine zE F M ?_;exact⟨_,_,rfl,⟨by simp[tupOf,ruleN,rule3,hb3],rfl⟩,M.perms permsA⟩))
 ·((intro G w M;refine sx_enter (vs:=([stV24 x d,cfgV c,.int .i64 ((4:Nat):Int)]:List Value)) Tryz.func51 (n:=123) rfl rfl rfl rfl ?_;intro a F;(try simp only[zc,zn] at M));have hh:=h.app G;have gV:=hh.gV;have gP:=hh.gP;have gF:=hh.gF;have gO:=hh.gO)
  (repeat'(first|(first|refine sx_nil ?_|refine pv_nil ?_;intro a w F M);try replace F:=F.filt zk151 rfl|refine zn1 F M ?_;clear F M a;(try clear w);intro a w F M|refine sv2 F M ?_;clear F M a;intro nb a w F M|refine zp1 ?_|((first|refine svC F M ?_|refine pvC ?_|fail);((first|(refine acW (k:=90) (hbb _ ?_) ?_;(exact gsA);rintro u L' ⟨hb,rfl,rfl⟩)|(refine acW (k:=131) (hll _ ?_) ?_;(exact gsA);rintro u L' ⟨hv,rfl,rfl⟩)|(refine acW (k:=130) (hi4 _ _ ?_) ?_;(exact gs_own pullA);rintro u L' ⟨rfl,rfl⟩)|fail));(first|refine⟨rvsA,?_⟩|clear F M a;intro a w F M|fail))|refine zT F ?_|((with_reducible refine isD ?_);((refine zD zd152 F M ?_;clear F M a w)))|refine zY ?_;go_step|fail))
  all_goals exact zX F M
 ·((intro G w M;refine sx_enter (vs:=([stV24 x d,cfgV c,.int .i64 ((5:Nat):Int)]:List Value)) Tryz.func51 (n:=123) rfl rfl rfl rfl ?_;intro a F;(try simp only[zc,zn] at M));have hh:=h.app G;have gV:=hh.gV;have gP:=hh.gP;have gF:=hh.gF;have gO:=hh.gO)
  (repeat'(first|(first|refine sx_nil ?_|refine pv_nil ?_;intro a w F M);try replace F:=F.filt zk151 rfl|refine zn1 F M ?_;clear F M a;(try clear w);intro a w F M|refine sv2 F M ?_;clear F M a;intro nb a w F M|refine zp1 ?_|((first|refine svC F M ?_|refine pvC ?_|fail);((first|(refine acW (k:=90) (hbb _ ?_) ?_;(exact gsA);rintro u L' ⟨hb,rfl,rfl⟩)|(refine acW (k:=133) (hch5 _ ?_) ?_;(focus ((repeat (first|exact hh|apply SnG.tail));done));rintro u L' ⟨hv,rfl,rfl⟩)|(refine acW (k:=132) (ho5 _ _ _ ?_ ?_) ?_;(exact gsA);(exact gs_own pullA);rintro u L' ⟨rfl,rfl⟩)|fail));(first|refine⟨rvsA,?_⟩|clear F M a;intro a w F M|fail))|refine zT F ?_|((with_reducible refine isD ?_);((refine zD zd152 F M ?_;clear F M a w)))|refine zY ?_;go_step|fail))
  all_goals exact zX F M
 ·((intro G w M;refine sx_enter (vs:=([stV24 x d,cfgV c,.int .i64 ((6:Nat):Int)]:List Value)) Tryz.func51 (n:=123) rfl rfl rfl rfl ?_;intro a F;(try simp only[zc,zn] at M));have hh:=h.app G;have gV:=hh.gV;have gP:=hh.gP;have gF:=hh.gF;have gO:=hh.gO)
  (repeat'(first|(first|refine sx_nil ?_|refine pv_nil ?_;intro a w F M);try replace F:=F.filt zk151 rfl|refine zn1 F M ?_;clear F M a;(try clear w);intro a w F M|refine sv2 F M ?_;clear F M a;intro nb a w F M|refine zp1 ?_|refine zp2 ?_;intro nb|((first|refine svC F M ?_|refine pvC ?_|fail);((first|(refine ac_appendH (f:=intL) (v:=sl ⟨some ⟨nb,0,none⟩,0,0⟩) (xs:=[]) (ys:=d.fo) rfl rfl inferInstance rfl rfl pullA inferInstance gsA rfl rfl (by simp;omega) ?_;intro nv)|(refine ac_appendH (f:=intL) (xs:=[]++d.fo) (ys:=d.vo) rfl rfl inferInstance rfl rfl pullA inferInstance gsA rfl rfl (by simp;omega) ?_;intro nv2)|(refine acW (k:=132) (ho6 _ _ _ ?_ ?_) ?_;(exact gs_own pullA);(exact gs_own pullA);rintro u L' ⟨rfl,rfl⟩)|(refine acW (k:=133) (hch6 _ ?_) ?_;(focus ((repeat (first|exact hh|apply SnG.tail));done));rintro u L' ⟨hv,rfl,rfl⟩)|(refine acW (k:=90) (hbb _ ?_) ?_;(exact gsA);rintro u L' ⟨hb,rfl,rfl⟩)));(first|refine⟨rvsA,?_⟩|clear F M a;intro a w F M|fail))|refine zT F ?_|((with_reducible refine isD ?_);((refine zD zd152 F M ?_;clear F M a w)))|refine zY ?_;go_step|fail))
  all_goals exact zX F M
 ·((intro G w M;refine sx_enter (vs:=([stV24 x d,cfgV c,.int .i64 ((7:Nat):Int)]:List Value)) Tryz.func51 (n:=123) rfl rfl rfl rfl ?_;intro a F;(try simp only[zc,zn] at M));have hh:=h.app G;have gV:=hh.gV;have gP:=hh.gP;have gF:=hh.gF;have gO:=hh.gO)
  (repeat'(first|(first|refine sx_nil ?_|fail);try replace F:=F.filt zk151 rfl|refine zn1 F M ?_;clear F M a;(try clear w);intro a w F M|refine sv2 F M ?_;clear F M a;intro nb a w F M|((first|refine svC F M ?_|fail);((first|(refine acW (k:=90) (hbb _ ?_) ?_;(exact gsA);rintro u L' ⟨hb,rfl,rfl⟩)|(refine acW (k:=134) (hev7 _ ?_) ?_;(focus ((repeat (first|exact hh|apply SnG.tail));done));rintro u L' ⟨rfl,rfl⟩)|fail));(first|clear F M a;intro a w F M|fail))|refine zT F ?_|refine zY ?_;go_step|fail))
  all_goals exact zX F M
 ·((intro G w M;refine sx_enter (vs:=([stV24 x d,cfgV c,.int .i64 ((8:Nat):Int)]:List Value)) Tryz.func51 (n:=123) rfl rfl rfl rfl ?_;intro a F;(try simp only[zc,zn] at M));have hh:=h.app G;have gV:=hh.gV;have gP:=hh.gP;have gF:=hh.gF;have gO:=hh.gO)
  (repeat'(first|(first|refine sx_nil ?_|fail);try replace F:=F.filt zk151 rfl|refine zn1 F M ?_;clear F M a;(try clear w);intro a w F M|refine sv2 F M ?_;clear F M a;intro nb a w F M|((first|refine svC F M ?_|fail);((first|(refine acW (k:=90) (hbb _ ?_) ?_;(exact gsA);rintro u L' ⟨hb,rfl,rfl⟩)|(refine acW (k:=134) (hev8 _ ?_) ?_;(focus ((repeat (first|exact hh|apply SnG.tail));done));rintro u L' ⟨rfl,rfl⟩)|fail));(first|clear F M a;intro a w F M|fail))|refine zT F ?_|refine zY ?_;go_step|fail))
  all_goals exact zX F M
 ·((intro G w M;refine sx_enter (vs:=([stV24 x d,cfgV c,.int .i64 ((9:Nat):Int)]:List Value)) Tryz.func51 (n:=123) rfl rfl rfl rfl ?_;intro a F;(try simp only[zc,zn] at M));have hh:=h.app G;have gV:=hh.gV;have gP:=hh.gP;have gF:=hh.gF;have gO:=hh.gO)
  (repeat'(first|(first|refine sx_nil ?_|refine pv_nil ?_;intro a w F M);try replace F:=F.filt zk151 rfl|refine zn1 F M ?_;clear F M a;(try clear w);intro a w F M|refine sv2 F M ?_;clear F M a;intro nb a w F M|refine zp1 ?_|((first|refine svC F M ?_|refine pvC ?_|fail);((first|(refine acW (k:=90) (hbb _ ?_) ?_;(exact gsA);rintro u L' ⟨hb,rfl,rfl⟩)|(refine acW (k:=133) (hch9 _ ?_) ?_;(focus ((repeat (first|exact hh|apply SnG.tail));done));rintro u L' ⟨hv,rfl,rfl⟩)|(refine acW (k:=135) (hc9 _ _ ?_) ?_;(exact gs_own pullA);rintro u L' ⟨rfl,rfl⟩)|fail));(first|refine⟨rvsA,?_⟩|clear F M a;intro a w F M|fail))|refine zT F ?_|((with_reducible refine isD ?_);((refine zD zd152 F M ?_;clear F M a w)))|refine zY ?_;go_step|fail))
  all_goals refine zE F M ?_
  refine⟨_,_,rfl,⟨?_,rfl⟩,M.perms permsA⟩
  simp only[tupOf,ruleN,rule9]
  simp[eq_comm]
 ·((intro G w M;refine sx_enter (vs:=([stV24 x d,cfgV c,.int .i64 ((10:Nat):Int)]:List Value)) Tryz.func51 (n:=123) rfl rfl rfl rfl ?_;intro a F;(try simp only[zc,zn] at M));have hh:=h.app G;have gV:=hh.gV;have gP:=hh.gP;have gF:=hh.gF;have gO:=hh.gO)
  (repeat'(first|((first|refine sv1 F M (h:=?_) (hr:=by((apply rt_max;(exact rfl);(exact rfl);(exact rfl))))|fail);(try(clear F a;intro a F)))|(first|refine sx_nil ?_|fail);try replace F:=F.filt zk151 rfl|refine zn1 F M ?_;clear F M a;(try clear w);intro a w F M|refine sv2 F M ?_;clear F M a;intro nb a w F M|((first|refine svC F M ?_|fail);((first|(refine acW (k:=90) (hbb _ ?_) ?_;(exact gsA);rintro u L' ⟨hb,rfl,rfl⟩)|fail));(first|clear F M a;intro a w F M|fail))|refine zT F ?_|refine zY ?_;go_step|fail))
  all_goals exact zX F M
 ·by_cases h0:0≤x.bk
  ·have hd0:0≤x.bk / c.epochLen:=Int.ediv_nonneg (by omega) (by omega)
   have hd1:x.bk / c.epochLen≤x.bk:=Int.ediv_le_self _ (by omega)
   have hw:IntKind.i64.wrap (x.bk / c.epochLen)=x.bk / c.epochLen:=IntWalk.i64_in _ ⟨by have:=hbk.1;omega,by have:=hbk.2;omega⟩
   ((intro G w M;refine sx_enter (vs:=([stV24 x d,cfgV c,.int .i64 ((11:Nat):Int)]:List Value)) Tryz.func51 (n:=123) rfl rfl rfl rfl ?_;intro a F;(try simp only[zc,zn] at M));have hh:=h.app G;have gV:=hh.gV;have gP:=hh.gP;have gF:=hh.gF;have gO:=hh.gO)
   have hb0:decide (0≤x.bk)=true:=by simp[h0]
   (repeat'(first|(first|refine sx_nil ?_|fail);try replace F:=F.filt zk151 rfl|refine zn1 F M ?_;clear F M a;(try clear w);intro a w F M|refine sv2 F M ?_;clear F M a;intro nb a w F M|refine zp1 ?_|((first|refine svC F M ?_|fail);((first|(refine acW (k:=90) (hbb _ ?_) ?_;(exact gsA);rintro u L' ⟨hb,rfl,rfl⟩)|fail));(first|clear F M a;intro a w F M|fail))|refine zT F ?_|((with_reducible refine isD ?_);((refine zD zd152 F M ?_;clear F M a w)))|refine zY ?_;go_step|fail))
   rw[hb0]
   (repeat'(first|(refine pv_nil ?_;intro a w F M);try replace F:=F.filt zk151 rfl|refine zp1 ?_|refine zY ?_;go_step|fail))
   (all_goals(refine zE F M ?_;exact⟨_,_,rfl,⟨by simp[tupOf,ruleN,rule11,hb0],rfl⟩,M.perms permsA⟩))
  ·((intro G w M;refine sx_enter (vs:=([stV24 x d,cfgV c,.int .i64 ((11:Nat):Int)]:List Value)) Tryz.func51 (n:=123) rfl rfl rfl rfl ?_;intro a F;(try simp only[zc,zn] at M));have hh:=h.app G;have gV:=hh.gV;have gP:=hh.gP;have gF:=hh.gF;have gO:=hh.gO)
   have hb0:decide (0≤x.bk)=false:=by simp[h0]
   (repeat'(first|(first|refine sx_nil ?_|fail);try replace F:=F.filt zk151 rfl|refine zn1 F M ?_;clear F M a;(try clear w);intro a w F M|refine sv2 F M ?_;clear F M a;intro nb a w F M|refine zp1 ?_|((first|refine svC F M ?_|fail);((first|(refine acW (k:=90) (hbb _ ?_) ?_;(exact gsA);rintro u L' ⟨hb,rfl,rfl⟩)|fail));(first|clear F M a;intro a w F M|fail))|refine zT F ?_|((with_reducible refine isD ?_);((refine zD zd152 F M ?_;clear F M a w)))|refine zY ?_;go_step|fail))
   rw[hb0]
   (repeat'(first|(refine pv_nil ?_;intro a w F M);try replace F:=F.filt zk151 rfl|refine zp1 ?_|refine zY ?_;go_step|fail))
   (all_goals(refine zE F M ?_;exact⟨_,_,rfl,⟨by simp[tupOf,ruleN,rule11,hb0],rfl⟩,M.perms permsA⟩))
 ·((intro G w M;refine sx_enter (vs:=([stV24 x d,cfgV c,.int .i64 ((12:Nat):Int)]:List Value)) Tryz.func51 (n:=123) rfl rfl rfl rfl ?_;intro a F;(try simp only[zc,zn] at M));have hh:=h.app G;have gV:=hh.gV;have gP:=hh.gP;have gF:=hh.gF;have gO:=hh.gO)
  (repeat'(first|(first|refine sx_nil ?_|fail);try replace F:=F.filt zk151 rfl|refine zn1 F M ?_;clear F M a;(try clear w);intro a w F M|refine sv2 F M ?_;clear F M a;intro nb a w F M|((first|refine svC F M ?_|fail);((first|(refine acW (k:=90) (hbb _ ?_) ?_;(exact gsA);rintro u L' ⟨hb,rfl,rfl⟩)|(refine acW (k:=134) (hev12 _ ?_) ?_;(focus ((repeat (first|exact hh|apply SnG.tail));done));rintro u L' ⟨rfl,rfl⟩)|fail));(first|clear F M a;intro a w F M|fail))|refine zT F ?_|refine zY ?_;go_step|fail))
  all_goals exact zX F M
theorem rall_spec:Spec 21 [stV24 x d,cfgV c] R fun u L'=>∃ r,u=sl r∧L'=ownT 3 intL 1 (sl r) (allR x d c)::R:=by
 have hho:=fun (R:List Asn) h=>rholds_spec x d c R h hr hf hc
 generalize hX:allR x d c=X
 (intro G w M;refine sx_enter (vs:=([stV24 x d,cfgV c]:List Value)) Tryz.func21 (n:=21) rfl rfl rfl rfl ?_;intro a F;(try simp only[zc,zn] at M))
 have hh:=h.app G
 have M:=M.own_nil 3 1
 (repeat'(first|(first|refine sx_nil ?_|fail);try replace F:=F.filt zk153 rfl|refine zn1 F M ?_;clear F M a;(try clear w);intro a w F M|refine sv2 F M ?_;clear F M a;intro nb a w F M|refine zT F ?_|refine zY ?_;go_step|fail))
 refine svLoop F M ((0,nilH,[]):Nat × SlH × List Int) (fun s=>[(6,.int .i64 ((s.1+1:Nat):Int)),(5,sl s.2.1)]) (fun s=>[ownT 3 intL 1 (sl s.2.1) s.2.2]) (fun s=>s.1≤12∧s.2.2++allGo x d c (12 - s.1) (s.1+1)=X∧s.2.2.length≤s.1) (fun s=>12 - s.1) [] ⟨Nat.zero_le _,hX,Nat.zero_le _⟩ ?_ (hR:=.cons (.there (.there .here)) .nil)
 (rintro⟨k,h1,out⟩ ⟨q1,q2,q3⟩ a w F M;(try simp only[zc,zn] at F M q1 q2 q3 ⊢))
 by_cases hk:k<12
 ·have hk2:12 - k=(12 - (k+1))+1:=by omega
  rw[hk2,allGo] at q2
  have hs:=fun (R:List Asn) h=>hho R h (k+1) (by omega) (by omega)
  have e1:((k+1:Nat):Int)+1=((k+1+1:Nat):Int):=by omega
  have e2:((k+1:Nat):Int)=((k:Int)+1):=by omega
  cases hb:ruleN x d c (k+1)
  all_goals rw[hb] at q2 hs
  ·(repeat'(first|(first|refine sx_nil ?_|fail);try replace F:=F.filt zk153 rfl|refine zn1 F M ?_;clear F M a;(try clear w);intro a w F M|refine sv2 F M ?_;clear F M a;intro nb a w F M|((first|refine svC F M ?_|fail);((first|(refine acW (k:=51) (hs _ ?_) ?_;(focus ((repeat (first|exact hh|apply SnG.tail));done));rintro u L' ⟨rfl,rfl⟩)|(refine ac_appendH rfl rfl inferInstance rfl rfl pullA inferInstance (ys:=[((k+1:Nat):Int)]) gsA rfl rfl (by simp;omega) ?_;intro nv)));(first|clear F M a;intro a w F M|fail))|refine zT F ?_|((with_reducible refine isK ?_);refine svB F ?_ ?_<;>intro hc<;>try exact no hc)|refine zY ?_;go_step|fail))
   try rw[e1] at F
   refine sv_again F M (k+1,nv,out++[((k+1:Nat):Int)]) kpA permsA ⟨by simp only;omega,by simpa using q2,by simp;omega⟩ (by simp only;omega)
  ·(repeat'(first|(first|refine sx_nil ?_|fail);try replace F:=F.filt zk153 rfl|refine zn1 F M ?_;clear F M a;(try clear w);intro a w F M|((first|refine svC F M ?_|fail);((first|(refine acW (k:=51) (hs _ ?_) ?_;(focus ((repeat (first|exact hh|apply SnG.tail));done));rintro u L' ⟨rfl,rfl⟩)|fail));(first|clear F M a;intro a w F M|fail))|refine zT F ?_|((with_reducible refine isK ?_);refine svB F ?_ ?_<;>intro hc<;>try exact no hc)|refine zY ?_;go_step|fail))
   try rw[e1] at F
   refine sv_again F M (k+1,h1,out) kpA permsA ⟨by simp only;omega,by simpa using q2,by simp only;omega⟩ (by simp only;omega)
 ·obtain rfl:k=12:=by omega
  (repeat'(first|(first|refine sx_nil ?_|fail);try replace F:=F.filt zk153 rfl|refine zn1 F M ?_;clear F M a;(try clear w);intro a w F M|refine zT F ?_|refine zY ?_;go_step|fail))
  all_goals refine zE F M ?_
  refine⟨_,_,rfl,⟨h1,rfl,rfl⟩,?_⟩
  rw[← q2]
  simp only[Nat.sub_self,allGo,List.append_nil]
  exact M.perms permsA
end
section
variable (x:Sn) (d:SnD) (c:Cfg) (R:List Asn) (h:SnG R x d) (hr:SnR x d)
include h hr
end
end
section
open Go.RowKit
def QL (ops:Array Oper) (o:Oper) (Q:Exit→Act→World→Prop):Exit→Act→World→Prop:=fun e a w=>match e with
 | .normal=>wpList Tryz.prog ops Q [o] a w
 | e=>Q e a w
section
variable {ops:Array Oper} {Q:Exit→Act→World→Prop} {o:Oper} {a:Act} {w:World} {n:Nat} {l:List (Nat × Value)} {L:List Asn}
theorem ql_open (h:wpList Tryz.prog ops Q [o] a w):QL ops o Q .normal a w:=h
end
end
section
open Go.RowKit
theorem filter_succ (f:Nat→Bool) (n:Nat):((List.range (n+1)).filter f).length=(if f 0=true then 1 else 0)+((List.range n).filter fun i=>f (i+1)).length:=by
 rw[List.range_succ_eq_map,List.filter_cons,List.filter_map]
 split
 ·rw[List.length_cons,List.length_map];exact Nat.add_comm _ _
 ·rw[List.length_map,Nat.zero_add];rfl
theorem filter_idx (p:Val→Bool):∀ (V:List Val),(V.filter p).length=((List.range V.length).filter fun i=>match V[i]? with|some v=>p v|none=>false).length
 | []=>rfl
 | v::V=>by
  rw[List.length_cons,filter_succ,List.filter_cons]
  have ih:=filter_idx p V
  have e:(fun i=>match (v::V)[i+1]? with|some v=>p v|none=>false)=fun i=>match V[i]? with|some v=>p v|none=>false:=by
   funext i;simp
  rw[e,← ih]
  cases hp:p v<;>simp[hp];omega
theorem ix_count {p:Val→Bool} {P:Val→Prop} {V:List Val} {l:List Nat} (h:Ix V P l) (hp:∀ v,p v=true↔P v):(V.filter p).length=l.length:=by
 rw[filter_idx]
 refine List.Perm.length_eq ?_
 refine(List.perm_ext_iff_of_nodup (List.nodup_range.sublist List.filter_sublist) h.nd).2 fun i=>?_
 rw[List.mem_filter,List.mem_range,h.mem]
 constructor
 ·rintro⟨h1,h2⟩
  rw[List.getElem?_eq_getElem h1] at h2 ⊢
  exact⟨_,rfl,(hp _).1 h2⟩
 ·rintro⟨v,h1,h2⟩
  refine⟨(List.getElem?_eq_some_iff.1 h1).1,?_⟩
  rw[h1];exact(hp v).2 h2
def dOf (s:St):SnD:=⟨s.V,s.pe.map Int.ofNat,s.fo.map Int.ofNat,s.vo.map Int.ofNat,s.me.length,s.pa.length⟩
theorem pPend_iff (v:Val):pPend v=true↔pend' v:=by simp[pPend,pend']
theorem pExit_iff (v:Val):pExit v=true↔wait' v:=by simp[pExit,wait']
theorem pBond_iff (v:Val):pBond v=true↔bond' v:=by simp[pBond,bond']
theorem nat_int (l:List Nat):l.flatMap natL=(l.map Int.ofNat).flatMap intL:=by
 induction l with
 | nil=>rfl
 | cons x r ih=>rw[List.map_cons,List.flatMap_cons,List.flatMap_cons,ih];rfl
theorem gs_nat {L:List Asn} {v:Value} {l:List Nat} (h:GS L 1 v l.length (l.flatMap natL)):GS L 1 v (l.map Int.ofNat).length ((l.map Int.ofNat).flatMap intL):=by
 rw[List.length_map,← nat_int];exact h
theorem snG_of {L:List Asn} {c:Cfg} {s:St} {h1 h2 h3 h4 h5 h6:SlH} (g1:GS L 7 (sl h1) s.V.length (s.V.flatMap valL)) (g2:GS L 1 (sl h2) s.pe.length (s.pe.flatMap natL)) (g3:GS L 1 (sl h3) s.fo.length (s.fo.flatMap natL)) (g4:GS L 1 (sl h4) s.vo.length (s.vo.flatMap natL)) (g5:GS L 2 (sl h5) s.me.length (s.me.flatMap prL)) (g6:GS L 2 (sl h6) s.pa.length (s.pa.flatMap rqL)):SnG L (snOf c s h1 h2 h3 h4 h5 h6) (dOf s) :=
 ⟨g1,gs_nat g2,gs_nat g3,gs_nat g4,⟨_,g5⟩,⟨_,g6⟩⟩
theorem i64_nat {l:List Nat} {n:Nat} (h:∀ i∈l,i<n) (hn:n≤9223372036854775807):∀ z∈l.map Int.ofNat,I64 z:=fun z hz=>by
 obtain ⟨i,hi,rfl⟩:=List.mem_map.1 hz
 have:=h i hi
 exact⟨by simp,by simp;omega⟩
theorem Ix.lt {V:List Val} {p:Val→Prop} {l:List Nat} (h:Ix V p l):∀ i∈l,i<V.length:=fun i hi=>by
 obtain ⟨v,hv,_⟩:=(h.mem i).1 hi
 exact(List.getElem?_eq_some_iff.1 hv).1
theorem snR_of {c:Cfg} (hc:CfOk c) {s:St} (h:Inv c s) (h1 h2 h3 h4 h5 h6:SlH):SnR (snOf c s h1 h2 h3 h4 h5 h6) (dOf s):=by
 have hcap:=h.cap;have hca:=hc.ca
 have hb:=h.bal0
 have hsup:=h.sup;have hsc:=hc.sc
 have htot:=h.tot;have hsum:=h.sum
 have hbk:=h.bk
 have hs0:=sum_nonneg _ hb
 have hex:=h.ex.lt
 refine⟨fun v hv=>?_,i64_nat h.pe.lt (by omega),i64_nat (fun i hi=>hex i (List.mem_append_left _ hi)) (by omega),i64_nat (fun i hi=>hex i (List.mem_append_right _ hi)) (by omega),⟨htot.1,?_⟩,⟨htot.2.1,?_⟩,⟨?_,?_⟩⟩
 ·have hm:v.bal∈bals s.V:=List.mem_map.2 ⟨v,hv,rfl⟩
  have:=sum_mem_le _ hb _ hm
  exact⟨hb _ hm,by omega⟩
 ·simp only[snOf];omega
 ·simp only[snOf];omega
 ·simp only[snOf];omega
 ·simp only[snOf];omega
end
section
open Go.RowKit
abbrev cfgSh:Sh:=.agg [.int .i64,.int .i64,.int .u64,.int .u64,.int .u64,.int .u64,.int .u64,.int .u64,.int .u64,.int .u64,.int .i64,.int .i64,.int .i64,.int .i64,.int .i64,.int .i64,.int .i64,.int .i64,.int .u64,.int .u64]
theorem cfg_of_sh {w:World} {l:List Value} (h:HasSh w cfgSh l):∃ c:Cfg,l=cfgL c∧c.wf:=by
 obtain ⟨c0,r0,rfl,h0,h⟩:=shb_cons h
 obtain ⟨c1,r1,rfl,h1,h⟩:=shb_cons h
 obtain ⟨c2,r2,rfl,h2,h⟩:=shb_cons h
 obtain ⟨c3,r3,rfl,h3,h⟩:=shb_cons h
 obtain ⟨c4,r4,rfl,h4,h⟩:=shb_cons h
 obtain ⟨c5,r5,rfl,h5,h⟩:=shb_cons h
 obtain ⟨c6,r6,rfl,h6,h⟩:=shb_cons h
 obtain ⟨c7,r7,rfl,h7,h⟩:=shb_cons h
 obtain ⟨c8,r8,rfl,h8,h⟩:=shb_cons h
 obtain ⟨c9,r9,rfl,h9,h⟩:=shb_cons h
 obtain ⟨c10,r10,rfl,h10,h⟩:=shb_cons h
 obtain ⟨c11,r11,rfl,h11,h⟩:=shb_cons h
 obtain ⟨c12,r12,rfl,h12,h⟩:=shb_cons h
 obtain ⟨c13,r13,rfl,h13,h⟩:=shb_cons h
 obtain ⟨c14,r14,rfl,h14,h⟩:=shb_cons h
 obtain ⟨c15,r15,rfl,h15,h⟩:=shb_cons h
 obtain ⟨c16,r16,rfl,h16,h⟩:=shb_cons h
 obtain ⟨c17,r17,rfl,h17,h⟩:=shb_cons h
 obtain ⟨c18,r18,rfl,h18,h⟩:=shb_cons h
 obtain ⟨c19,r19,rfl,h19,h⟩:=shb_cons h
 obtain rfl:=shb_nil h
 obtain ⟨n0,rfl,w0⟩:=shb_int h0
 obtain ⟨n1,rfl,w1⟩:=shb_int h1
 obtain ⟨n2,rfl,w2⟩:=shb_int h2
 obtain ⟨n3,rfl,w3⟩:=shb_int h3
 obtain ⟨n4,rfl,w4⟩:=shb_int h4
 obtain ⟨n5,rfl,w5⟩:=shb_int h5
 obtain ⟨n6,rfl,w6⟩:=shb_int h6
 obtain ⟨n7,rfl,w7⟩:=shb_int h7
 obtain ⟨n8,rfl,w8⟩:=shb_int h8
 obtain ⟨n9,rfl,w9⟩:=shb_int h9
 obtain ⟨n10,rfl,w10⟩:=shb_int h10
 obtain ⟨n11,rfl,w11⟩:=shb_int h11
 obtain ⟨n12,rfl,w12⟩:=shb_int h12
 obtain ⟨n13,rfl,w13⟩:=shb_int h13
 obtain ⟨n14,rfl,w14⟩:=shb_int h14
 obtain ⟨n15,rfl,w15⟩:=shb_int h15
 obtain ⟨n16,rfl,w16⟩:=shb_int h16
 obtain ⟨n17,rfl,w17⟩:=shb_int h17
 obtain ⟨n18,rfl,w18⟩:=shb_int h18
 obtain ⟨n19,rfl,w19⟩:=shb_int h19
 refine⟨⟨n0,n1,n2,n3,n4,n5,n6,n7,n8,n9,n10,n11,n12,n13,n14,n15,n16,n17,n18,n19⟩,rfl,?_,?_⟩
 ·simp only[Cfg.ints,List.mem_cons,List.not_mem_nil,or_false]
  rintro x (rfl|rfl|rfl|rfl|rfl|rfl|rfl|rfl|rfl|rfl)<;>assumption
 ·simp only[Cfg.amounts,List.mem_cons,List.not_mem_nil,or_false]
  rintro x (rfl|rfl|rfl|rfl|rfl|rfl|rfl|rfl|rfl|rfl)<;>exact u64_wf (by assumption)
theorem law_old {k:FuncId} {us:List Value} {w:World} (h:Spec k us [Old w] fun u L'=>u=.bool true∧L'=[Old w]):Calls Tryz.prog k us.toArray w fun e w'=>e=.returned (.bool true)∧Below w.heap.size w w':=by
 refine(h [] w (Mem.old w)).mono ?_
 rintro e w' ⟨u,L',rfl,⟨rfl,rfl⟩,M⟩
 exact⟨rfl,M.below .here⟩
end
section
open Go.RowKit
abbrev oprSh:Sh:=.agg [.int .i64,.int .i64,.int .i64,.int .u64]
theorem cfg_ops {w:World} {ks:Array Value} (hk:HasSh w cfgSh ks.toList):∃ c:Cfg,ks=(cfgL c).toArray∧0≤c.forcedCap∧0≤c.penNum:=by
 obtain ⟨c,e2,hc⟩:=cfg_of_sh hk
 obtain rfl:=arr_eq e2
 exact⟨c,rfl,(hc.2 c.forcedCap (by simp[Cfg.amounts])).1,(hc.2 c.penNum (by simp[Cfg.amounts])).1⟩
theorem ops_sh {w:World} {v:Value} (hv:HasSh w (.slice 4 oprSh) [v]):∃ l:List Opn,GS [Old w] 4 v l.length (l.flatMap opL)∧∀ o∈l,I64 o.k∧U64 o.am:=by
 obtain ⟨l,gl,hl⟩:=slice_of_sh (f:=opL) (fun cs h=>op_of_sh h) hv
 exact⟨l,gs_oldT gl .here,fun o ho=>⟨(hl o ho).1,(hl o ho).2.2.2⟩⟩
end
end Go.Proofs.YtopbohbkhljjgaaGreat
