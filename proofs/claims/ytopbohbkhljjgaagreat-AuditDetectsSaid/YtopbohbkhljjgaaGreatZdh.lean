import Derived.Test.YtopbohbkhljjgaaGreatZdg
set_option linter.unusedVariables false
set_option linter.unusedSimpArgs false
set_option maxRecDepth 100000
set_option maxHeartbeats 8000000
namespace Go.Proofs.YtopbohbkhljjgaaGreat
def zk36:List Nat:=[0,1,4,5,7,8,9,16]
def zk37:List Nat:=[0,1,4,5,6,7,12,19,29]
section
open Go.RowKit
def visN {α:Type} (p:α→Bool):List α→Nat
 | []=>0
 | x::r=>if p x=true then 1 else visN p r+1
theorem visN_all {α:Type} (p:α→Bool):∀ (xs:List α),(∀ x∈xs,p x=false)→visN p xs=xs.length
 | [],_=>rfl
 | x::r,h=>by rw[visN,h x (by simp),visN_all p r fun y hy=>h y (by simp[hy])];simp
theorem visN_at {α:Type} (p:α→Bool):∀ (xs:List α) (i:Nat) (x:α),xs[i]? = some x→(∀ y∈xs.take i,p y=false)→p x=true→visN p xs=i+1
 | [],i,x,h,_,_=>by simp at h
 | y::r,0,x,h,_,hp=>by
  simp at h;subst h
  rw[visN,hp];simp
 | y::r,i+1,x,h,h2,hp=>by
  rw[visN,h2 y (by simp),visN_at p r i x (by simpa using h) (fun z hz=>h2 z (by simp[hz])) hp];simp
section
variable {w:World} {L:List Asn} {α:Type}
def arrA (f:α→Asn) (l:List α):Asn:=exA fun _:Unit=>l.map f
theorem arr_open {f:α→Asn} {l1 l2:List α} {x:α} (M:Mem w (arrA f (l1++x::l2)::L)):Mem w (f x::arrA f (l1++l2)::L):=by
 obtain ⟨_,M⟩:=M.exo
 simp only[List.map_append,List.map_cons,List.append_assoc,zc] at M
 have M:=M.front
 rw[← List.append_assoc,← List.map_append] at M
 exact(Mem.exc (f:=fun _:Unit=>(l1++l2).map f) () (L:=f x::L) M.back).swap
theorem arr_close {f:α→Asn} {l1 l2:List α} {x:α} (M:Mem w (f x::arrA f (l1++l2)::L)):Mem w (arrA f (l1++x::l2)::L):=by
 obtain ⟨_,M⟩:=M.swap.exo
 have M:=M.front
 rw[List.map_append,List.append_assoc] at M
 have M:=M.back
 refine Mem.exc (f:=fun _:Unit=>(l1++x::l2).map f) () ?_
 simp only[List.map_append,List.map_cons,List.append_assoc,zc]
 exact M
theorem arr_nil {f:α→Asn} (M:Mem w L):Mem w (arrA f []::L):=Mem.exc (f:=fun _:Unit=>([]:List α).map f) () M
theorem arr_rep {f:α→Asn} {x:α} (h:∀ {L:List Asn},Mem w L→Mem w (f x::L)) (M:Mem w L):∀ n,Mem w (arrA f (List.replicate n x)::L)
 | 0=>arr_nil M
 | n+1=>by
  have:=arr_close (l1:=[]) (x:=x) (l2:=List.replicate n x) (h (arr_rep h M n))
  simpa[List.replicate_succ] using this
end
def enL (e:Int × Nat):List Value:=[.int .i64 e.1,.int .i64 (e.2:Int)]
instance:EL enL 2:=⟨fun _=>rfl,fun x u h=>by simp[enL] at h;rcases h with rfl|rfl<;>rfl⟩
abbrev enV (e:Int × Nat):Value:=.agg (enL e).toArray
def shL (h:SlH):List Value:=[sl h]
instance:EL shL 1:=⟨fun _=>rfl,fun x u h=>by simp[shL] at h;subst h;rfl⟩
theorem del_en_idx (c:FuncId) [hfk:FK c] (caps:Array Value) (h:SlH) (xs:List (Int × Nat)) (p:(Int × Nat)→Bool) (St:List (Int × Nat)→Asn) (hcl:∀ j x,xs[j]? = some x→∀ R,Spec c (enV x::caps.toList) (St (xs.take j)::R) fun u L'=>u=.bool (p x)∧L'=St (xs.take (j+1))::R) (hmx:xs.length≤1000000) (R:List Asn) :
  Spec 332 [sl h,.func (.func c) #[] caps] (ownT 297 enL 2 (sl h) xs::St []::R) fun u L'=>u=.int .i64 (idxP p xs 0)∧L'=ownT 297 enL 2 (sl h) xs::St (xs.take (visN p xs))::R:=by
 generalize hX:idxP p xs 0=X
 generalize hN:xs.take (visN p xs)=Y
 (intro G w M;refine sx_enter (vs:=([sl h,.func (.func c) #[] caps]:List Value)) Tryz.func332 (n:=19) rfl rfl rfl rfl ?_;intro a F;(try simp only[zc,zn] at M))
 (repeat'(first|(first|refine sx_nil ?_|fail);try replace F:=F.filt zk36 rfl|refine zn1 F M ?_;clear F M a;(try clear w);intro a w F M|refine zT F ?_|refine zY ?_;go_step|fail))
 refine svLoop F M (0:Nat) (fun k=>[(8,.int .i64 k)]) (fun k=>[St (xs.take k)]) (fun k=>k≤xs.length∧idxP p (xs.drop k) k=X∧xs.take (k+visN p (xs.drop k))=Y) (fun k=>xs.length - k) [] ⟨by omega,by simpa using hX,by simpa using hN⟩ ?_ (hR:=by rw[List.take_zero];(repeat (first|exact Pulls.nil|(apply Pulls.cons;(focus ((repeat (first|exact Pull.here|apply Pull.there));done))))))
 (rintro k ⟨q1,q2,q3⟩ a w F M;(try simp only[zc,zn] at F M q1 q2 q3 ⊢))
 by_cases hlt:k<xs.length
 ·obtain ⟨x,hx⟩:∃ x,xs[k]? = some x:=⟨xs[k],by simp[hlt]⟩
  rw[drop_cons hx,idxP] at q2
  rw[drop_cons hx,visN] at q3
  have hs:=hcl k x hx
  cases hp:p x
  all_goals rw[hp] at hs q2 q3
  ·(repeat'(first|(first|refine sx_nil ?_|fail);try replace F:=F.filt zk36 rfl|refine zn1 F M ?_;clear F M a;(try clear w);intro a w F M|((first|refine svC F M ?_|fail);(((refine acK (k:=c) (hs _) ?_);rintro u L' ⟨rfl,rfl⟩));(first|clear F M a;intro a w F M|fail))|refine zT F ?_|((with_reducible refine isK ?_);refine svB F ?_ ?_<;>intro hc<;>try exact no hc)|refine zY ?_;go_step|fail))
   refine sv_again F M (k+1) kpA permsA ⟨by omega,by simpa using q2,?_⟩ (by omega)
   rw[← q3];simp only[Bool.false_eq_true,if_false];congr 1;omega
  ·simp only[if_true] at q2 q3
   (repeat'(first|(first|refine sx_nil ?_|fail);try replace F:=F.filt zk36 rfl|refine zn1 F M ?_;clear F M a;(try clear w);intro a w F M|((first|refine svC F M ?_|fail);(((refine acK (k:=c) (hs _) ?_);rintro u L' ⟨rfl,rfl⟩));(first|clear F M a;intro a w F M|fail))|refine zT F ?_|((with_reducible refine isK ?_);refine svB F ?_ ?_<;>intro hc<;>try exact no hc)|refine zY ?_;go_step|fail))
   all_goals refine zE F M ?_
   rw[q3] at M
   exact⟨_,_,rfl,⟨by rw[← q2];rfl,rfl⟩,M.perms permsA⟩
 ·rw[List.drop_of_length_le (by omega)] at q2 q3
  simp only[idxP,visN,Nat.add_zero] at q2 q3
  (repeat'(first|(first|refine sx_nil ?_|fail);try replace F:=F.filt zk36 rfl|refine zn1 F M ?_;clear F M a;(try clear w);intro a w F M|refine zT F ?_|((with_reducible refine isK ?_);refine svB F ?_ ?_<;>intro hc<;>try exact no hc)|refine zY ?_;go_step|fail))
  all_goals refine zE F M ?_
  rw[q3] at M
  exact⟨_,_,rfl,⟨by rw[← q2];rfl,rfl⟩,M.perms permsA⟩
theorem del_en_del (c:FuncId) [hfk:FK c] (caps:Array Value) (h:SlH) (xs:List (Int × Nat)) (p:(Int × Nat)→Bool) (St:List (Int × Nat)→Asn) (hcl:∀ j x,xs[j]? = some x→∀ R,Spec c (enV x::caps.toList) (St (xs.take j)::R) fun u L'=>u=.bool (p x)∧L'=St (xs.take (j+1))::R) (hmx:xs.length≤1000000) (R:List Asn) :
  Spec 306 [sl h,.func (.func c) #[] caps] (ownT 297 enL 2 (sl h) xs::St []::R) fun u L'=>∃ h',u=sl h'∧L'=ownT 297 enL 2 (sl h') (xs.filter fun x=>!p x)::St xs::R:=by
 intro G w M
 have M:Mem w (ownT 297 enL 2 (sl h) xs::(St []::R++G)):=M
 obtain ⟨hn,hm,hlen,hmax⟩:=own_h M
 simp only[zc] at M
 have hidx:=del_en_idx c caps h xs p St hcl hmx
 (refine sx_enter (vs:=([sl h,.func (.func c) #[] caps]:List Value)) Tryz.func306 (n:=42) rfl rfl rfl rfl ?_;intro a F;(try simp only[zc,zn] at M))
 rcases idxP_spec p xs 0 with⟨e1,e2⟩|⟨i0,x0,e1,e2,e3,e4⟩
 ·rw[e1,visN_all p xs e2,List.take_of_length_le (Nat.le_refl _)] at hidx
  (repeat'(first|(first|refine sx_nil ?_|fail);try replace F:=F.filt zk37 rfl|refine zn1 F M ?_;clear F M a;(try clear w);intro a w F M|((first|refine svC F M ?_|fail);(((refine acK (k:=332) (hidx _) ?_);rintro u L' ⟨rfl,rfl⟩));(first|clear F M a;intro a w F M|fail))|refine zT F ?_|refine zY ?_;go_step|fail))
  all_goals refine zE F M ?_
  refine⟨_,_,rfl,⟨h,rfl,rfl⟩,?_⟩
  rw[filter_all p xs e2]
  exact M.perms permsA
 ·rw[e2,Nat.zero_add,visN_at p xs i0 x0 e1 e3 e4] at hidx
  have hi0:i0<xs.length:=(List.getElem?_eq_some_iff.1 e1).1
  (repeat'(first|(first|refine sx_nil ?_|fail);try replace F:=F.filt zk37 rfl|refine zn1 F M ?_;clear F M a;(try clear w);intro a w F M|((first|refine svC F M ?_|fail);(((refine acK (k:=332) (hidx _) ?_);rintro u L' ⟨rfl,rfl⟩));(first|clear F M a;intro a w F M|fail))|refine zT F ?_|refine zY ?_;go_step|fail))
  refine svLoop F M ((i0,i0+1,xs):Nat × Nat × List (Int × Nat)) (fun s=>[(5,.int .i64 s.1),(6,.int .i64 s.2.1)]) (fun s=>[ownT 297 enL 2 (sl h) s.2.2,St (xs.take s.2.1)]) (fun s=>s.2.2.length=xs.length∧s.1<s.2.1∧s.2.1≤xs.length∧s.2.2.take s.1=(xs.take s.2.1).filter (fun x=>!p x)∧s.2.2.drop s.2.1=xs.drop s.2.1) (fun s=>xs.length - s.2.1) [7]
   ⟨rfl,by simp only;omega,by simp only;omega,by simp only;rw[List.take_add_one,e1,List.filter_append,filter_all p _ e3];simp[e4],rfl⟩ ?_
  (rintro⟨i,j,ys⟩ ⟨q1,q2,q3,q4,q5⟩ a w F M;(try simp only[zc,zn] at F M q1 q2 q3 q4 q5 ⊢))
  by_cases hlt:j<xs.length
  ·obtain ⟨x,hx⟩:∃ x,xs[j]? = some x:=⟨xs[j],by simp[hlt]⟩
   have hy:ys[j]? = some x:=by
    have:=congrArg (·[0]?) q5
    simpa[hx] using this
   have hj':(j:Int)<ys.length:=by omega
   obtain ⟨u,hu⟩:∃ u,ys[i]? = some u:=⟨ys[i]'(by omega),by rw[List.getElem?_eq_getElem (by omega)]⟩
   have hs:=hcl j x hx
   have ht:(xs.take (j+1)).filter (fun x=>!p x)=(xs.take j).filter (fun x=>!p x)++(if p x=true then [] else [x]):=by
    rw[List.take_add_one,hx,List.filter_append];cases hp:p x<;>simp[hp]
   have hd:ys.drop (j+1)=xs.drop (j+1):=by
    have:=congrArg (List.drop 1) q5
    simpa[List.drop_drop] using this
   cases hp:p x
   all_goals rw[hp] at hs ht
   ·(repeat'(first|(first|refine sx_nil ?_|fail);try replace F:=F.filt zk37 rfl|refine zn1 F M ?_;clear F M a;(try clear w);intro a w F M|refine sv2 F M ?_;clear F M a;intro nb a w F M|((first|refine svC F M ?_|refine svC0 F M ?_|fail);((first|((refine acK (k:=c) (hs _) ?_);rintro u L' ⟨rfl,rfl⟩)|(refine ac_storeEA (f:=enL) (v:=sl h) (j:=i) (k:=2) rfl rfl inferInstance x rfl hu inferInstance (by(focus ((repeat (first|exact Rep.here|apply Rep.there));done))) ?_)|fail));(first|clear F M a;intro a w F M|clear M;intro w M))|refine zT F ?_|((with_reducible refine isK ?_);refine svB F ?_ ?_<;>intro hc<;>try exact no hc)|refine zY ?_;go_step|fail))
    refine sv_again F M (i+1,j+1,ys.set i x) kpA permsA ⟨by simp[q1],by simp only;omega,by simp only;omega,?_,?_⟩ (by simp only;omega)
    ·simp only
     rw[ht,← q4,List.take_add_one,List.take_set,List.set_eq_of_length_le (by rw[List.length_take];omega),List.getElem?_set_self (by omega)]
     simp
    ·simp only
     rw[List.drop_set_of_lt (by omega),hd]
   ·(repeat'(first|(first|refine sx_nil ?_|fail);try replace F:=F.filt zk37 rfl|refine zn1 F M ?_;clear F M a;(try clear w);intro a w F M|refine sv2 F M ?_;clear F M a;intro nb a w F M|((first|refine svC F M ?_|fail);((first|((refine acK (k:=c) (hs _) ?_);rintro u L' ⟨rfl,rfl⟩)|fail));(first|clear F M a;intro a w F M|fail))|refine zT F ?_|((with_reducible refine isK ?_);refine svB F ?_ ?_<;>intro hc<;>try exact no hc)|refine zY ?_;go_step|fail))
    refine sv_again F M (i,j+1,ys) kpA permsA ⟨q1,by simp only;omega,by simp only;omega,by simp only;rw[ht,← q4];simp,hd⟩ (by simp only;omega)
  ·have hjl:j=xs.length:=by omega
   have hin:i≤h.n:=by omega
   have hic:i≤h.c:=by omega
   have hiy:i≤ys.length:=by omega
   rw[hjl,List.take_of_length_le (Nat.le_refl _)] at q4
   have hli:(xs.filter fun x=>!p x).length=i:=by rw[← q4,List.length_take];omega
   have hj':¬((j:Int)<ys.length):=by omega
   rw[show xs.take j=xs by rw[hjl];exact List.take_of_length_le (Nat.le_refl _)] at M
   (repeat'(first|((first|refine sv1 F M (h:=?_) (hr:=by((first|(apply rt_from;(exact rfl);(exact rfl);(exact rfl);(exact inferInstance);(exact hin))|(apply rt_to;(exact rfl);(exact rfl);(exact rfl);(exact inferInstance);(exact hic)))))|fail);(try(clear F a;intro a F)))|(first|refine sx_nil ?_|fail);try replace F:=F.filt zk37 rfl|refine zn1 F M ?_;clear F M a;(try clear w);intro a w F M|((first|refine svC0 F M ?_|fail);((refine ac_clear (h:=h) (j:=i) rfl rfl inferInstance rfl rfl pullA hiy ?_;intro zs hzs));(clear M;intro w M))|refine zT F ?_|((with_reducible refine isK ?_);refine svB F ?_ ?_<;>intro hc<;>try exact no hc)|refine zY ?_;go_step|fail))
   all_goals refine zE F M ?_
   refine⟨_,_,rfl,⟨⟨h.a,i,h.c⟩,rfl,rfl⟩,?_⟩
   have M:=own_cut (M.perms (permsA:Perms _ (own _ _ _ _ zs::St xs::(R++G)))) hiy
   rw[hzs,flat_take (f:=enL) (k:=2) (EL.len),q4] at M
   unfold ownT
   rw[hli]
   exact M.perms permsA
end
def zk38:List Nat:=[0,2,3,13]
def zd39:List ZR:=[⟨0,[],[],[],[0,1,2,3,4,5,6,7,8,9]⟩,⟨1,[12],[],[],[0,1,2,3,4,5,6,7,8,9,10,11,12,13]⟩,⟨2,[10],[],[],[0,1,2,3,4,5,6,7,8,9,10,11]⟩,⟨3,[12],[],[],[0,1,2,3,4,5,6,7,8,9,10,11,12]⟩]
def zk40:List Nat:=[0,1,4,5,7,15,16,17,18]
def zd41:List ZR:=[⟨6,[21],[],[],[0,1,2,3,4,5,6,7,8,9,10,11,12,13,14,15,16,17,18,19,20,21]⟩]
section
open Go.RowKit
theorem rgn_grow (b size:Nat) (q:List (Nat)) (z:rgnH) (hz:rgnOk size q z) (hq:q.length<size) (R:List Asn):Spec 209 [ptr b] (rgnP b size q z++R) fun u L'=>∃ z',rgnOk size q z'∧q.length<z'.S.length∧u=.tuple #[]∧L'=rgnP b size q z'++R:=by
 intro G w M
 have h1:=hz.n
 have h2:=hz.s
 have h3:=hz.p
 simp only[zc,zn] at M
 by_cases hlt:q.length<z.S.length
 ·(refine sx_enter (vs:=([ptr b]:List Value)) Tryz.func209 (n:=58) rfl rfl rfl rfl ?_;intro a F;(try simp only[zc,zn] at M))
  (repeat'(first|(refine pv_nil ?_;intro a w F M);try replace F:=F.filt zk38 rfl|refine zp1 ?_|((with_reducible refine isK ?_);refine svB F ?_ ?_<;>intro hc<;>try exact no hc)|((with_reducible refine isD ?_);((refine zD zd39 F M ?_;clear F M a w)))|refine zY ?_;go_step|fail))
  (all_goals(refine zE F M ?_;exact⟨_,_,rfl,⟨z,hz,hlt,rfl,rfl⟩,M.perms permsA⟩))
 ·have hm:q.length=z.S.length:=by omega
  obtain ⟨m,hmm⟩:∃ m:Nat,m=min size (2*z.S.length+1):=⟨_,rfl⟩
  have hmin:(if (2*(z.S.length:Int)+1)<(size:Int) then (2*(z.S.length:Int)+1) else (size:Int))=(m:Int):=by split<;>omega
  have hf:z.f≤z.S.length:=by rcases hz.f with h|⟨h,h'⟩<;>omega
  have ed:z.S.length - z.f=(z.S.drop z.f).length:=by simp
  have et:z.f=(z.S.take z.f).length:=by simp;omega
  obtain ⟨hzn,hzc,_⟩:=own_h (M.pull (by(focus ((repeat (first|exact Pull.here|apply Pull.there));done))))
  obtain ⟨X1,hX1⟩:∃ X1,z.S.drop z.f++List.replicate (m - (z.S.drop z.f).length) (0)=X1:=⟨_,rfl⟩
  obtain ⟨X2,hX2⟩:∃ X2,z.S.drop z.f++z.S.take z.f++List.replicate (m - z.S.length) (0)=X2:=⟨_,rfl⟩
  have l1:X1.length=m:=by rw[← hX1];simp;omega
  have l2:X2.length=m:=by rw[← hX2];simp;omega
  have x1:(List.replicate m (0)).take 0++z.S.drop z.f++(List.replicate m (0)).drop (0+(z.S.drop z.f).length)=X1:=by rw[← hX1];simp
  have x2:X1.take (z.S.drop z.f).length++z.S.take z.f++X1.drop ((z.S.drop z.f).length+(z.S.take z.f).length)=X2:=by
   rw[← hX1,← hX2,List.take_left' rfl,← List.drop_drop,List.drop_left' rfl,List.drop_replicate,← ed,← et]
   congr 2;omega
  (refine sx_enter (vs:=([ptr b]:List Value)) Tryz.func209 (n:=58) rfl rfl rfl rfl ?_;intro a F;(try simp only[zc,zn] at M))
  (repeat'(first|((refine pv1 (h:=?_) (hr:=by((first|(apply rt_min2;(exact rfl);(exact rfl);(exact hmin))|(apply rt_fromN;(exact rfl);(exact rfl);(exact rfl);(exact inferInstance);(try dsimp only);omega;(try dsimp only);omega)|(apply rt_from;(exact rfl);(exact rfl);(exact rfl);(exact inferInstance);omega)|(apply rt_to;(exact rfl);(exact rfl);(exact rfl);(exact inferInstance);omega)))));(try(clear F a;intro a F)))|(first|refine sx_nil ?_|refine pv_nil ?_;intro a w F M);try replace F:=F.filt zk38 rfl|refine zn1 F M ?_;clear F M a;(try clear w);intro a w F M|refine zp1 ?_|((first|refine pvC ?_|fail);((first|(refine ac_makeT (f:=natL) inferInstance (0) rfl rfl inferInstance rfl (m:=m) rfl rfl (by omega) (by omega) ?_;intro nb)|(refine ac_copyT (f:=natL) (j:=0) rfl rfl inferInstance inferInstance rfl rfl (gs_from (by(focus ((repeat (first|exact Pull.here|apply Pull.there));done))) hf) (flat_drop (f:=natL) EL.len _ _) ed (by(focus ((repeat (first|exact Pull.here|fail));done))) (by rw[List.length_replicate]) (by rw[List.length_replicate];dsimp only;omega) (by dsimp only;omega) ?_;rw[x1])|(refine ac_copyT (f:=natL) (j:=(z.S.drop z.f).length) rfl rfl inferInstance inferInstance rfl rfl (gs_to (by(focus ((repeat (first|exact Pull.here|apply Pull.there));done))) hf) (flat_take (f:=natL) EL.len _ _) et (by(focus ((repeat (first|exact Pull.here|fail));done))) (by rw[l1]) (by dsimp only;omega) (by dsimp only;omega) ?_;rw[x2])));(first|refine⟨rvsA,?_⟩|fail))|refine zT F ?_|((with_reducible refine isK ?_);refine svB F ?_ ?_<;>intro hc<;>try exact no hc)|((with_reducible refine isD ?_);((refine zD zd39 F M ?_;clear F M a w)))|refine zY ?_;go_step|fail))
  all_goals refine zE F M ?_
  refine⟨_,_,rfl,⟨⟨⟨some ⟨nb,0,none⟩,m,m⟩,X2,0⟩,⟨by dsimp only;omega,by dsimp only;omega,h3,.inl (by dsimp only;omega),fun i hi=>?_⟩,by dsimp only;omega,rfl,rfl⟩,M.perms permsA⟩
  rw[← hz.g i hi]
  dsimp only
  rw[l2,Nat.zero_add,Nat.mod_eq_of_lt (by omega),← hX2,List.getElem?_append_left (by simp;omega)]
  by_cases hi2:i<z.S.length - z.f
  ·rw[List.getElem?_append_left (by simp;omega),List.getElem?_drop,Nat.mod_eq_of_lt (by omega)]
  ·rw[List.getElem?_append_right (by simp;omega),List.getElem?_take_of_lt (by simp;omega),List.length_drop]
   congr 1
   rw[Nat.mod_eq_sub_mod (by omega),Nat.mod_eq_of_lt (by omega)];omega
theorem rgn_growA (b size:Nat) (q:List (Nat)) (hq:q.length<size) (R:List Asn):Spec 209 [ptr b] (rgnA b size q::R) fun u L'=>∃ z',rgnOk size q z'∧q.length<z'.S.length∧u=.tuple #[]∧L'=rgnP b size q z'++R:=by
 intro G w M
 obtain ⟨z,hz,M⟩:=rgn_open (L:=R++G) M
 exact rgn_grow b size q z hz hq R G w (by simpa using M)
theorem rgn_push_ok {size:Nat} {x:Nat} {q:List (Nat)} {z:rgnH} (h:rgnOk size q z) (hl:q.length<z.S.length):rgnOk size (q++[x]) ⟨z.h,z.S.set ((z.f+q.length) % z.S.length) x,z.f⟩:=by
 have hf:z.f<z.S.length:=by rcases h.f with h|⟨_,h⟩;(· exact h);(exfalso;rw[h,List.length_nil] at hl;omega)
 have hm:=Nat.mod_lt (z.f+q.length) (show 0<z.S.length by omega)
 refine⟨by simp;omega,by simpa using h.s,h.p,.inl (by simpa using hf),fun i hi=>?_⟩
 simp only[List.length_set]
 by_cases hi2:i=q.length
 ·subst hi2
  rw[List.getElem?_set_self hm];simp
 ·simp at hi
  rw[List.getElem?_append_left (by omega),← h.g i (by omega),List.getElem?_set_ne]
  intro he
  by_cases c1:z.f+q.length<z.S.length
  ·rw[Nat.mod_eq_of_lt c1,Nat.mod_eq_of_lt (by omega)] at he;omega
  ·rw[Nat.mod_eq_sub_mod (by omega),Nat.mod_eq_of_lt (by omega)] at he
   by_cases c2:z.f+i<z.S.length
   ·rw[Nat.mod_eq_of_lt c2] at he;omega
   ·rw[Nat.mod_eq_sub_mod (by omega),Nat.mod_eq_of_lt (by omega)] at he;omega
theorem rgn_fl {size:Nat} {q:List (Nat)} {z:rgnH} (h:rgnOk size q z) (hl:q.length<z.S.length):z.f<z.S.length∧z.S.length≤size∧0≤((z.f:Int)+(q.length:Int)) % (z.S.length:Int)∧((z.f:Int)+(q.length:Int)) % (z.S.length:Int)<(z.S.length:Int):=by
 have hf:z.f<z.S.length:=by rcases h.f with h|⟨_,h⟩;(· exact h);(exfalso;rw[h,List.length_nil] at hl;omega)
 exact⟨hf,h.s,Int.emod_nonneg _ (by omega),Int.emod_lt_of_pos _ (by omega)⟩
theorem rgn_push (b size:Nat) (q:List (Nat)) (x:Nat) (v:SlH) (R:List Asn) (hg:GS R 1 (sl v) 1 ([x].flatMap natL)) (hv:v.n=1∧1≤v.c) (hq:q.length<size) (hs:size≤4096):Spec 144 [ptr b,sl v] (rgnA b size q::R) fun u L'=>u=.int .i64 1∧L'=rgnA b size (q++[x])::R:=by
 obtain ⟨hv1,hv2⟩:=hv
 intro G w M
 have hg1:GS (R++G) 1 (sl v) 1 ([x].flatMap natL):=hg.imp fun w M=>M.drop_app
 have hg2:GS (R++G) 1 (sl ⟨v.a,1,v.c⟩) [x].length ([x].flatMap natL):=fun w M=>by have:=(hg1 w M).to (j:=1) (by omega);rwa [List.take_of_length_le (by rw[flat_lenE (f:=natL) inferInstance];simp)] at this
 have hmin:(if ((size:Int) - (q.length:Int))<((1:Nat):Int) then ((size:Int) - (q.length:Int)) else ((1:Nat):Int))=((1:Nat):Int):=by rw[if_neg];omega
 (refine sx_enter (vs:=([ptr b,sl v]:List Value)) Tryz.func144 (n:=53) rfl rfl rfl rfl ?_;intro a F;(try simp only[zc,zn] at M))
 (repeat'(first|((first|refine sv1 F M (h:=?_) (hr:=by((first|(apply rt_min2;(exact rfl);(exact rfl);(exact hmin))|(apply rt_to;(exact rfl);(exact rfl);(exact rfl);(exact inferInstance);omega))))|fail);(try(clear F a;intro a F)))|(first|refine sx_nil ?_|fail);try replace F:=F.filt zk40 rfl|refine zn1 F M ?_;clear F M a;(try clear w);intro a w F M|((first|refine svC F M ?_|fail);(((refine acK (k:=141) (rgn_free b size q _) ?_);rintro u L' ⟨rfl,rfl⟩));(first|clear F M a;intro a w F M|fail))|refine zT F ?_|refine zY ?_;go_step|fail))
 refine svLoop F M (0:Nat) (fun k=>[(17,.int .i64 k)]) (fun k=>[rgnA b size (q++[x].take k)]) (fun k=>k≤1) (fun k=>1 - k) [] (by simp) ?_ (hR:=by rw[List.take_zero,List.append_nil];(repeat (first|exact Pulls.nil|(apply Pulls.cons;(focus ((repeat (first|exact Pull.here|apply Pull.there));done))))))
 (rintro k q1 a w F M;(try simp only[zc,zn] at F M q1 ⊢))
 by_cases hk:k=0
 ·subst hk
  rw[List.take_zero,List.append_nil] at M
  have hx:[x][0]? = some x:=rfl
  (repeat'(first|(first|refine sx_nil ?_|fail);try replace F:=F.filt zk40 rfl|refine zn1 F M ?_;clear F M a;(try clear w);intro a w F M|refine zp1 ?_|((first|refine svC F M ?_|refine pvC0 ?_);(((refine acK (k:=209) (rgn_growA b size q hq _) ?_);rintro u L' ⟨z,hz,hroom,rfl,rfl⟩);obtain ⟨hf,h2,hm0,hm1⟩:=rgn_fl hz hroom;(simp only[zc,zn]));(first|clear F M a;intro a w F M|fail))|refine zT F ?_|((with_reducible refine isD ?_);((refine zD zd41 F M ?_;clear F M a w)))|refine zY ?_;go_step|fail))
  have hmod:(((z.f:Int)+(q.length:Int)) % (z.S.length:Int)).toNat=(z.f+q.length) % z.S.length:=by
   rw[show(z.f:Int)+(q.length:Int)=((z.f+q.length:Nat):Int) by omega,← Int.natCast_emod,Int.toNat_natCast]
  have hok:=rgn_push_ok (x:=x) hz hroom
  rw[← hmod] at hok
  obtain ⟨j,hj⟩:∃ j,(((z.f:Int)+(q.length:Int)) % (z.S.length:Int)).toNat=j:=⟨_,rfl⟩
  rw[hj] at hok
  obtain ⟨u0,hu0⟩:∃ u0,z.S[j]? = some u0:=⟨z.S[j]'(by omega),by simp⟩
  rw[← hj] at hu0
  (repeat'(first|(first|refine sx_nil ?_|refine pv_nil ?_;intro a w F M);try replace F:=F.filt zk40 rfl|refine zn1 F M ?_;clear F M a;(try clear w);intro a w F M|((refine pvC0 ?_);(((refine ac_storeE (f:=natL) (v:=sl z.h) (k:=1) (i:=0) (xs:=z.S) rfl rfl inferInstance rfl rfl hu0 inferInstance rfl x rfl (by(focus ((repeat (first|exact Rep.here|apply Rep.there));done))) ?_;rw[hj])));(first|refine⟨rvsA,?_⟩|fail))|refine zT F ?_|refine zY ?_;go_step|fail))
  have e:(q.length:Int)+1=(((q++[x]).length:Nat):Int):=by simp
  rw[e] at M
  have M:=rgn_close hok (M.perms (permsA:Perms _ (rgnP b size (q++[x]) ⟨z.h,z.S.set j x,z.f⟩++(R++G))))
  exact sv_again F M 1 kpA permsA (by omega) (by omega)
 ·obtain rfl:k=1:=by omega
  (repeat'(first|(first|refine sx_nil ?_|fail);try replace F:=F.filt zk40 rfl|refine zn1 F M ?_;clear F M a;(try clear w);intro a w F M|refine zT F ?_|refine zY ?_;go_step|fail))
  all_goals exact zX F M
end
def zk42:List Nat:=[0,1,4,14]
def zk43:List Nat:=[0,1,4]
def zk44:List Nat:=[0,1,2,6,7,9,13,16]
def zk45:List Nat:=[0,2,3,4,5,6,7]
def zk46:List Nat:=[0,1,4,5,6,10,13]
section
open Go.RowKit
abbrev lnC (b r0 r1:Nat):Asn:=pt b [ptr r0,ptr r1] 204
abbrev lnP (b r0 r1 size:Nat) (fo vo:List Nat) (R:List Asn):List Asn:=lnC b r0 r1::rgnA r0 size fo::rgnA r1 size vo::R
section
variable (b r0 r1:Nat) (R:List Asn)
theorem of0:Spec 229 [ptr b,.int .i64 0] (lnC b r0 r1::R) fun u L'=>u=ptr r0∧L'=lnC b r0 r1::R:=by
 (intro G w M;refine sx_enter (vs:=([ptr b,.int .i64 0]:List Value)) Tryz.func229 (n:=21) rfl rfl rfl rfl ?_;intro a F;(try simp only[zc,zn] at M))
 (repeat'(first|(first|refine sx_nil ?_|fail);try replace F:=F.filt zk42 rfl|refine zn1 F M ?_;clear F M a;(try clear w);intro a w F M|refine zT F ?_|refine zY ?_;go_step|fail))
 all_goals exact zX F M
theorem of1:Spec 229 [ptr b,.int .i64 1] (lnC b r0 r1::R) fun u L'=>u=ptr r1∧L'=lnC b r0 r1::R:=by
 (intro G w M;refine sx_enter (vs:=([ptr b,.int .i64 1]:List Value)) Tryz.func229 (n:=21) rfl rfl rfl rfl ?_;intro a F;(try simp only[zc,zn] at M))
 (repeat'(first|(first|refine sx_nil ?_|fail);try replace F:=F.filt zk42 rfl|refine zn1 F M ?_;clear F M a;(try clear w);intro a w F M|refine zT F ?_|refine zY ?_;go_step|fail))
 all_goals exact zX F M
theorem ofN:Spec 229 [ptr b,.int .i64 (-1)] R fun u L'=>u=.pointer none∧L'=R:=by
 (intro G w M;refine sx_enter (vs:=([ptr b,.int .i64 (-1)]:List Value)) Tryz.func229 (n:=21) rfl rfl rfl rfl ?_;intro a F;(try simp only[zc,zn] at M))
 (repeat'(first|(first|refine sx_nil ?_|fail);try replace F:=F.filt zk42 rfl|refine zn1 F M ?_;clear F M a;(try clear w);intro a w F M|refine zT F ?_|refine zY ?_;go_step|fail))
 all_goals exact zX F M
theorem class0:Spec 161 [ptr b,.int .i64 0] (lnC b r0 r1::R) fun u L'=>u=ptr r0∧L'=lnC b r0 r1::R:=by
 (intro G w M;refine sx_enter (vs:=([ptr b,.int .i64 0]:List Value)) Tryz.func161 (n:=12) rfl rfl rfl rfl ?_;intro a F;(try simp only[zc,zn] at M))
 (repeat'(first|(first|refine sx_nil ?_|fail);try replace F:=F.filt zk13 rfl|refine zn1 F M ?_;clear F M a;(try clear w);intro a w F M|((first|refine svC F M ?_|fail);(((refine acK (k:=229) (of0 b r0 r1 _) ?_);rintro u L' ⟨rfl,rfl⟩));(first|clear F M a;intro a w F M|fail))|refine zT F ?_|refine zY ?_;go_step|fail))
 all_goals exact zX F M
theorem class1:Spec 161 [ptr b,.int .i64 1] (lnC b r0 r1::R) fun u L'=>u=ptr r1∧L'=lnC b r0 r1::R:=by
 (intro G w M;refine sx_enter (vs:=([ptr b,.int .i64 1]:List Value)) Tryz.func161 (n:=12) rfl rfl rfl rfl ?_;intro a F;(try simp only[zc,zn] at M))
 (repeat'(first|(first|refine sx_nil ?_|fail);try replace F:=F.filt zk13 rfl|refine zn1 F M ?_;clear F M a;(try clear w);intro a w F M|((first|refine svC F M ?_|fail);(((refine acK (k:=229) (of1 b r0 r1 _) ?_);rintro u L' ⟨rfl,rfl⟩));(first|clear F M a;intro a w F M|fail))|refine zT F ?_|refine zY ?_;go_step|fail))
 all_goals exact zX F M
theorem classN:Spec 161 [ptr b,.int .i64 (-1)] R fun u L'=>u=.pointer none∧L'=R:=by
 (intro G w M;refine sx_enter (vs:=([ptr b,.int .i64 (-1)]:List Value)) Tryz.func161 (n:=12) rfl rfl rfl rfl ?_;intro a F;(try simp only[zc,zn] at M))
 (repeat'(first|(first|refine sx_nil ?_|fail);try replace F:=F.filt zk13 rfl|refine zn1 F M ?_;clear F M a;(try clear w);intro a w F M|((first|refine svC F M ?_|fail);(((refine acW (k:=229) (ofN b _) ?_);rintro u L' ⟨rfl,rfl⟩));(first|clear F M a;intro a w F M|fail))|refine zT F ?_|refine zY ?_;go_step|fail))
 all_goals exact zX F M
end
section
variable (b r0 r1 size:Nat) (fo vo:List Nat) (R:List Asn)
theorem lfree0:Spec 148 [ptr b,.int .i64 0] (lnP b r0 r1 size fo vo R) fun u L'=>u=.int .i64 ((size:Int) - fo.length)∧L'=lnP b r0 r1 size fo vo R:=by
 (intro G w M;refine sx_enter (vs:=([ptr b,.int .i64 0]:List Value)) Tryz.func148 (n:=9) rfl rfl rfl rfl ?_;intro a F;(try simp only[zc,zn] at M))
 (repeat'(first|(first|refine sx_nil ?_|fail);try replace F:=F.filt zk43 rfl|refine zn1 F M ?_;clear F M a;(try clear w);intro a w F M|((first|refine svC F M ?_|fail);((first|((refine acK (k:=161) (class0 b r0 r1 _) ?_);rintro u L' ⟨rfl,rfl⟩)|((refine acK (k:=141) (rgn_free r0 size fo _) ?_);rintro u L' ⟨rfl,rfl⟩)));(first|clear F M a;intro a w F M|fail))|refine zT F ?_|refine zY ?_;go_step|fail))
 all_goals exact zX F M
theorem lfree1:Spec 148 [ptr b,.int .i64 1] (lnP b r0 r1 size fo vo R) fun u L'=>u=.int .i64 ((size:Int) - vo.length)∧L'=lnP b r0 r1 size fo vo R:=by
 (intro G w M;refine sx_enter (vs:=([ptr b,.int .i64 1]:List Value)) Tryz.func148 (n:=9) rfl rfl rfl rfl ?_;intro a F;(try simp only[zc,zn] at M))
 (repeat'(first|(first|refine sx_nil ?_|fail);try replace F:=F.filt zk43 rfl|refine zn1 F M ?_;clear F M a;(try clear w);intro a w F M|((first|refine svC F M ?_|fail);((first|((refine acK (k:=161) (class1 b r0 r1 _) ?_);rintro u L' ⟨rfl,rfl⟩)|((refine acK (k:=141) (rgn_free r1 size vo _) ?_);rintro u L' ⟨rfl,rfl⟩)));(first|clear F M a;intro a w F M|fail))|refine zT F ?_|refine zY ?_;go_step|fail))
 all_goals exact zX F M
theorem lall0 (hq:fo.length≤4096):Spec 81 [ptr b,.int .i64 0] (lnP b r0 r1 size fo vo R) fun u L'=>∃ h,u=sl h∧L'=ownT 3 natL 1 (sl h) fo::lnP b r0 r1 size fo vo R:=by
 (intro G w M;refine sx_enter (vs:=([ptr b,.int .i64 0]:List Value)) Tryz.func81 (n:=9) rfl rfl rfl rfl ?_;intro a F;(try simp only[zc,zn] at M))
 (repeat'(first|(first|refine sx_nil ?_|fail);try replace F:=F.filt zk43 rfl|refine zn1 F M ?_;clear F M a;(try clear w);intro a w F M|((first|refine svC F M ?_|fail);((first|((refine acK (k:=161) (class0 b r0 r1 _) ?_);rintro u L' ⟨rfl,rfl⟩)|((refine acK (k:=80) (rgn_all r0 size fo hq _) ?_);rintro u L' ⟨h,rfl,rfl⟩)));(first|clear F M a;intro a w F M|fail))|refine zT F ?_|refine zY ?_;go_step|fail))
 (all_goals(refine zE F M ?_;exact⟨_,_,rfl,⟨h,rfl,rfl⟩,M.perms permsA⟩))
theorem lall1 (hq:vo.length≤4096):Spec 81 [ptr b,.int .i64 1] (lnP b r0 r1 size fo vo R) fun u L'=>∃ h,u=sl h∧L'=ownT 3 natL 1 (sl h) vo::lnP b r0 r1 size fo vo R:=by
 (intro G w M;refine sx_enter (vs:=([ptr b,.int .i64 1]:List Value)) Tryz.func81 (n:=9) rfl rfl rfl rfl ?_;intro a F;(try simp only[zc,zn] at M))
 (repeat'(first|(first|refine sx_nil ?_|fail);try replace F:=F.filt zk43 rfl|refine zn1 F M ?_;clear F M a;(try clear w);intro a w F M|((first|refine svC F M ?_|fail);((first|((refine acK (k:=161) (class1 b r0 r1 _) ?_);rintro u L' ⟨rfl,rfl⟩)|((refine acK (k:=80) (rgn_all r1 size vo hq _) ?_);rintro u L' ⟨h,rfl,rfl⟩)));(first|clear F M a;intro a w F M|fail))|refine zT F ?_|refine zY ?_;go_step|fail))
 (all_goals(refine zE F M ?_;exact⟨_,_,rfl,⟨h,rfl,rfl⟩,M.perms permsA⟩))
theorem lpush0 (i:Nat) (hq:fo.length<size) (hs:size≤4096):Spec 151 [ptr b,.int .i64 0,.int .i64 i] (lnP b r0 r1 size fo vo R) fun u L'=>u=.int .i64 0∧L'=lnP b r0 r1 size (fo++[i]) vo R:=by
 (intro G w M;refine sx_enter (vs:=([ptr b,.int .i64 0,.int .i64 i]:List Value)) Tryz.func151 (n:=22) rfl rfl rfl rfl ?_;intro a F;(try simp only[zc,zn] at M))
 (repeat'(first|(first|refine sx_nil ?_|fail);try replace F:=F.filt zk44 rfl|refine zn1 F M ?_;clear F M a;(try clear w);intro a w F M|refine sv2 F M ?_;clear F M a;intro nb a w F M|((first|refine svC F M ?_|fail);((first|((refine acK (k:=161) (class0 b r0 r1 _) ?_);rintro u L' ⟨rfl,rfl⟩)|(refine acCall (k:=144) ?_;refine Spec.pre (L':=rgnA r0 size fo::_) ?_ permsA;refine Spec.mono (rgn_push r0 size fo i ⟨some ⟨nb,0,none⟩,1,1⟩ _ (by exact gsA) ⟨rfl,Nat.le_refl 1⟩ hq hs) ?_;rintro u L' ⟨rfl,rfl⟩)));(first|clear F M a;intro a w F M|fail))|refine zT F ?_|refine zY ?_;go_step|fail))
 all_goals exact zX F M
theorem lpush1 (i:Nat) (hq:vo.length<size) (hs:size≤4096):Spec 151 [ptr b,.int .i64 1,.int .i64 i] (lnP b r0 r1 size fo vo R) fun u L'=>u=.int .i64 0∧L'=lnP b r0 r1 size fo (vo++[i]) R:=by
 (intro G w M;refine sx_enter (vs:=([ptr b,.int .i64 1,.int .i64 i]:List Value)) Tryz.func151 (n:=22) rfl rfl rfl rfl ?_;intro a F;(try simp only[zc,zn] at M))
 (repeat'(first|(first|refine sx_nil ?_|fail);try replace F:=F.filt zk44 rfl|refine zn1 F M ?_;clear F M a;(try clear w);intro a w F M|refine sv2 F M ?_;clear F M a;intro nb a w F M|((first|refine svC F M ?_|fail);((first|((refine acK (k:=161) (class1 b r0 r1 _) ?_);rintro u L' ⟨rfl,rfl⟩)|(refine acCall (k:=144) ?_;refine Spec.pre (L':=rgnA r1 size vo::_) ?_ permsA;refine Spec.mono (rgn_push r1 size vo i ⟨some ⟨nb,0,none⟩,1,1⟩ _ (by exact gsA) ⟨rfl,Nat.le_refl 1⟩ hq hs) ?_;rintro u L' ⟨rfl,rfl⟩)));(first|clear F M a;intro a w F M|fail))|refine zT F ?_|refine zY ?_;go_step|fail))
 all_goals exact zX F M
def firstC (fo vo:List Nat):Int:=if fo≠[] then 0 else if vo≠[] then 1 else -1
theorem lfirst:Spec 335 [ptr b] (lnP b r0 r1 size fo vo R) fun u L'=>u=.int .i64 (firstC fo vo)∧L'=lnP b r0 r1 size fo vo R:=by
 (intro G w M;refine sx_enter (vs:=([ptr b]:List Value)) Tryz.func335 (n:=16) rfl rfl rfl rfl ?_;intro a F;(try simp only[zc,zn] at M))
 (repeat'(first|(first|refine sx_nil ?_|fail);try replace F:=F.filt zk31 rfl|refine zn1 F M ?_;clear F M a;(try clear w);intro a w F M|refine zT F ?_|refine zY ?_;go_step|fail))
 refine svLoop F M (0:Nat) (fun k=>[(5,.int .i64 k)]) (fun _=>[]) (fun k=>k≤2∧(1≤k→fo=[])∧(2≤k→vo=[])) (fun k=>2 - k) [4,7] (by simp) ?_
 (rintro k ⟨q1,q2,q3⟩ a w F M;(try simp only[zc,zn] at F M q1 q2 q3 ⊢))
 rcases (by omega:k=0∨k=1∨k=2) with rfl|rfl|rfl
 ·by_cases h:fo=[]
  ·have hl:fo.length=0:=by rw[h];rfl
   (repeat'(first|(first|refine sx_nil ?_|fail);try replace F:=F.filt zk31 rfl|refine zn1 F M ?_;clear F M a;(try clear w);intro a w F M|((first|refine svC F M ?_|fail);((first|((refine acK (k:=161) (class0 b r0 r1 _) ?_);rintro u L' ⟨rfl,rfl⟩)|((refine acK (k:=159) (rgn_len r0 size fo _) ?_);rintro u L' ⟨rfl,rfl⟩)|fail));(first|clear F M a;intro a w F M|fail))|refine zT F ?_|((with_reducible refine isK ?_);refine svB F ?_ ?_<;>intro hc<;>try exact no hc)|refine zY ?_;go_step|fail))
   exact sv_again F M 1 kpA permsA ⟨by omega,fun _=>h,by omega⟩ (by omega)
  ·have hl:0<fo.length:=List.length_pos_iff.2 h
   (repeat'(first|(first|refine sx_nil ?_|fail);try replace F:=F.filt zk31 rfl|refine zn1 F M ?_;clear F M a;(try clear w);intro a w F M|((first|refine svC F M ?_|fail);((first|((refine acK (k:=161) (class0 b r0 r1 _) ?_);rintro u L' ⟨rfl,rfl⟩)|((refine acK (k:=159) (rgn_len r0 size fo _) ?_);rintro u L' ⟨rfl,rfl⟩)|fail));(first|clear F M a;intro a w F M|fail))|refine zT F ?_|((with_reducible refine isK ?_);refine svB F ?_ ?_<;>intro hc<;>try exact no hc)|refine zY ?_;go_step|fail))
   all_goals(simp only[Exit.noGoto_ret,Exit.noGoto_normal])
   (all_goals(refine zE F M ?_;exact⟨_,_,rfl,⟨by simp[firstC,h,tupOf],rfl⟩,M.perms permsA⟩))
 ·have h0:=q2 (by omega)
  by_cases h:vo=[]
  ·have hl:vo.length=0:=by rw[h];rfl
   (repeat'(first|(first|refine sx_nil ?_|fail);try replace F:=F.filt zk31 rfl|refine zn1 F M ?_;clear F M a;(try clear w);intro a w F M|((first|refine svC F M ?_|fail);((first|((refine acK (k:=161) (class1 b r0 r1 _) ?_);rintro u L' ⟨rfl,rfl⟩)|((refine acK (k:=159) (rgn_len r1 size vo _) ?_);rintro u L' ⟨rfl,rfl⟩)));(first|clear F M a;intro a w F M|fail))|refine zT F ?_|((with_reducible refine isK ?_);refine svB F ?_ ?_<;>intro hc<;>try exact no hc)|refine zY ?_;go_step|fail))
   exact sv_again F M 2 kpA permsA ⟨by omega,fun _=>h0,fun _=>h⟩ (by omega)
  ·have hl:0<vo.length:=List.length_pos_iff.2 h
   (repeat'(first|(first|refine sx_nil ?_|fail);try replace F:=F.filt zk31 rfl|refine zn1 F M ?_;clear F M a;(try clear w);intro a w F M|((first|refine svC F M ?_|fail);((first|((refine acK (k:=161) (class1 b r0 r1 _) ?_);rintro u L' ⟨rfl,rfl⟩)|((refine acK (k:=159) (rgn_len r1 size vo _) ?_);rintro u L' ⟨rfl,rfl⟩)));(first|clear F M a;intro a w F M|fail))|refine zT F ?_|((with_reducible refine isK ?_);refine svB F ?_ ?_<;>intro hc<;>try exact no hc)|refine zY ?_;go_step|fail))
   all_goals(simp only[Exit.noGoto_ret,Exit.noGoto_normal])
   (all_goals(refine zE F M ?_;exact⟨_,_,rfl,⟨by simp[firstC,h,h0,tupOf],rfl⟩,M.perms permsA⟩))
 ·have h0:=q2 (by omega)
  have h1:=q3 (by omega)
  (repeat'(first|(first|refine sx_nil ?_|fail);try replace F:=F.filt zk31 rfl|refine zn1 F M ?_;clear F M a;(try clear w);intro a w F M|refine zT F ?_|refine zY ?_;go_step|fail))
  all_goals(simp only[Exit.noGoto_ret,Exit.noGoto_normal])
  (all_goals(refine zE F M ?_;exact⟨_,_,rfl,⟨by simp[firstC,h1,h0,tupOf],rfl⟩,M.perms permsA⟩))
def headL (fo vo:List Nat):List Value:=match fo,vo with
 | i::_,_=>[.int .i64 (i:Int),.int .i64 0,.bool true]
 | [],i::_=>[.int .i64 (i:Int),.int .i64 1,.bool true]
 | [],[]=>[.int .i64 0,.int .i64 0,.bool false]
theorem lhead:Spec 310 [ptr b] (lnP b r0 r1 size fo vo R) fun u L'=>u=.tuple (headL fo vo).toArray∧L'=lnP b r0 r1 size fo vo R:=by
 cases fo with
 | cons i fo =>
  (intro G w M;refine sx_enter (vs:=([ptr b]:List Value)) Tryz.func310 (n:=21) rfl rfl rfl rfl ?_;intro a F;(try simp only[zc,zn] at M))
  (repeat'(first|(first|refine sx_nil ?_|fail);try replace F:=F.filt zk45 rfl|refine zn1 F M ?_;clear F M a;(try clear w);intro a w F M|((first|refine svC F M ?_|fail);((first|(refine acK (k:=335) (lfirst b r0 r1 size _ _ _) ?_;rintro u L' ⟨rfl,rfl⟩;simp only[firstC,ne_eq,reduceCtorEq,not_false_eq_true,if_true,not_true_eq_false,if_false])|((refine acK (k:=161) (class0 b r0 r1 _) ?_);rintro u L' ⟨rfl,rfl⟩)|((refine acK (k:=160) (rgn_peek r0 size (i::fo) 0 i rfl _) ?_);rintro u L' ⟨rfl,rfl⟩)));(first|clear F M a;intro a w F M|fail))|refine zT F ?_|refine zY ?_;go_step|fail))
  all_goals exact zX F M
 | nil =>
  cases vo with
  | cons i vo =>
   (intro G w M;refine sx_enter (vs:=([ptr b]:List Value)) Tryz.func310 (n:=21) rfl rfl rfl rfl ?_;intro a F;(try simp only[zc,zn] at M))
   (repeat'(first|(first|refine sx_nil ?_|fail);try replace F:=F.filt zk45 rfl|refine zn1 F M ?_;clear F M a;(try clear w);intro a w F M|((first|refine svC F M ?_|fail);((first|(refine acK (k:=335) (lfirst b r0 r1 size _ _ _) ?_;rintro u L' ⟨rfl,rfl⟩;simp only[firstC,ne_eq,reduceCtorEq,not_false_eq_true,if_true,not_true_eq_false,if_false])|((refine acK (k:=161) (class1 b r0 r1 _) ?_);rintro u L' ⟨rfl,rfl⟩)|((refine acK (k:=160) (rgn_peek r1 size (i::vo) 0 i rfl _) ?_);rintro u L' ⟨rfl,rfl⟩)));(first|clear F M a;intro a w F M|fail))|refine zT F ?_|refine zY ?_;go_step|fail))
   all_goals exact zX F M
  | nil =>
   (intro G w M;refine sx_enter (vs:=([ptr b]:List Value)) Tryz.func310 (n:=21) rfl rfl rfl rfl ?_;intro a F;(try simp only[zc,zn] at M))
   (repeat'(first|(first|refine sx_nil ?_|fail);try replace F:=F.filt zk45 rfl|refine zn1 F M ?_;clear F M a;(try clear w);intro a w F M|((first|refine svC F M ?_|fail);((first|(refine acK (k:=335) (lfirst b r0 r1 size _ _ _) ?_;rintro u L' ⟨rfl,rfl⟩;simp only[firstC,ne_eq,reduceCtorEq,not_false_eq_true,if_true,not_true_eq_false,if_false])|((refine acW (k:=161) (classN b _) ?_);rintro u L' ⟨rfl,rfl⟩)|((refine acW (k:=160) (rgn_peekN 0 (by omega) _) ?_);rintro u L' ⟨rfl,rfl⟩)));(first|clear F M a;intro a w F M|fail))|refine zT F ?_|refine zY ?_;go_step|fail))
   all_goals exact zX F M
theorem lpop0 (i:Nat):Spec 311 [ptr b] (lnP b r0 r1 size (i::fo) vo R) fun u L'=>u=.tuple #[.int .i64 (i:Int),.int .i64 0,.bool true]∧L'=lnP b r0 r1 size fo vo R:=by
 (intro G w M;refine sx_enter (vs:=([ptr b]:List Value)) Tryz.func311 (n:=21) rfl rfl rfl rfl ?_;intro a F;(try simp only[zc,zn] at M))
 (repeat'(first|(first|refine sx_nil ?_|fail);try replace F:=F.filt zk45 rfl|refine zn1 F M ?_;clear F M a;(try clear w);intro a w F M|((first|refine svC F M ?_|fail);((first|(refine acK (k:=335) (lfirst b r0 r1 size _ _ _) ?_;rintro u L' ⟨rfl,rfl⟩;simp only[firstC,ne_eq,reduceCtorEq,not_false_eq_true,if_true,not_true_eq_false,if_false])|((refine acK (k:=161) (class0 b r0 r1 _) ?_);rintro u L' ⟨rfl,rfl⟩)|((refine acK (k:=276) (rgn_pop r0 size i fo _) ?_);rintro u L' ⟨rfl,rfl⟩)));(first|clear F M a;intro a w F M|fail))|refine zT F ?_|refine zY ?_;go_step|fail))
 all_goals exact zX F M
theorem lpop1 (i:Nat):Spec 311 [ptr b] (lnP b r0 r1 size [] (i::vo) R) fun u L'=>u=.tuple #[.int .i64 (i:Int),.int .i64 1,.bool true]∧L'=lnP b r0 r1 size [] vo R:=by
 (intro G w M;refine sx_enter (vs:=([ptr b]:List Value)) Tryz.func311 (n:=21) rfl rfl rfl rfl ?_;intro a F;(try simp only[zc,zn] at M))
 (repeat'(first|(first|refine sx_nil ?_|fail);try replace F:=F.filt zk45 rfl|refine zn1 F M ?_;clear F M a;(try clear w);intro a w F M|((first|refine svC F M ?_|fail);((first|(refine acK (k:=335) (lfirst b r0 r1 size _ _ _) ?_;rintro u L' ⟨rfl,rfl⟩;simp only[firstC,ne_eq,reduceCtorEq,not_false_eq_true,if_true,not_true_eq_false,if_false])|((refine acK (k:=161) (class1 b r0 r1 _) ?_);rintro u L' ⟨rfl,rfl⟩)|((refine acK (k:=276) (rgn_pop r1 size i vo _) ?_);rintro u L' ⟨rfl,rfl⟩)));(first|clear F M a;intro a w F M|fail))|refine zT F ?_|refine zY ?_;go_step|fail))
 all_goals exact zX F M
theorem lahead (c:Nat) (hc:c≤1) (hf:fo.length≤4096) (hv:vo.length≤4096):Spec 212 [ptr b,.int .i64 c] (lnP b r0 r1 size fo vo R) fun u L'=>∃ h,u=sl h∧L'=ownT 3 natL 1 (sl h) (if c=0 then fo else fo++vo)::lnP b r0 r1 size fo vo R:=by
 have hcl:∀ R,Spec 161 [ptr b,.int .i64 c] (lnC b r0 r1::R) fun u L'=>u=ptr (if c=0 then r0 else r1)∧L'=lnC b r0 r1::R:=fun R=>by
  rcases (by omega:c=0∨c=1) with rfl|rfl
  ·exact class0 b r0 r1 R
  ·exact class1 b r0 r1 R
 (intro G w M;refine sx_enter (vs:=([ptr b,.int .i64 c]:List Value)) Tryz.func212 (n:=22) rfl rfl rfl rfl ?_;intro a F;(try simp only[zc,zn] at M))
 replace M:=M.own_nil 3 1
 (repeat'(first|(first|refine sx_nil ?_|fail);try replace F:=F.filt zk46 rfl|refine zn1 F M ?_;clear F M a;(try clear w);intro a w F M|((first|refine svC F M ?_|fail);(((refine acK (k:=161) (hcl _) ?_);rintro u L' ⟨rfl,rfl⟩));(first|clear F M a;intro a w F M|fail))|refine zT F ?_|refine zY ?_;go_step|fail))
 refine svLoop F M ((0,⟨none,0,0⟩):Nat × SlH) (fun k=>[(6,.int .i64 k.1),(5,sl k.2)]) (fun k=>[ownT 3 natL 1 (sl k.2) (if k.1=0 then [] else if k.1=1 then fo else fo++vo)]) (fun k=>k.1≤c+1) (fun k=>2 - k.1) [] (by simp) ?_
 (rintro⟨k,v⟩ q1 a w F M;(try simp only[zc,zn] at F M q1 ⊢))
 (try dsimp only at q1);(try dsimp only at M);(try dsimp only at F)
 have e1:(1:Nat)≠0:=by omega
 have e2:(2:Nat)≠0:=by omega
 have e3:(2:Nat)≠1:=by omega
 by_cases hk:k≤c
 ·rcases (by omega:k=0∨k=1) with rfl|rfl
  ·simp only[if_true] at M
   (repeat'(first|(first|refine sx_nil ?_|fail);try replace F:=F.filt zk46 rfl|refine zn1 F M ?_;clear F M a;(try clear w);intro a w F M|((first|refine svC F M ?_|fail);((first|((refine acK (k:=81) (lall0 b r0 r1 size fo vo _ hf) ?_);rintro u L' ⟨h,rfl,rfl⟩)|(refine ac_appendH (f:=natL) (v:=sl v) (xs:=[]) (ys:=fo) rfl rfl inferInstance rfl rfl (by(focus ((repeat (first|exact Pull.here|apply Pull.there));done))) inferInstance (gs_own (by(focus ((repeat (first|exact Pull.here|fail));done)))) rfl rfl (by simp;omega) ?_;intro v3)));(first|clear F M a;intro a w F M|fail))|refine zT F ?_|refine zY ?_;go_step|fail))
   exact sv_again F M (1,v3) kpA (by simp only[e1,if_true,if_false];exact permsA) (by dsimp only;omega) (by dsimp only;omega)
  ·simp only[e1,if_true,if_false] at M
   (repeat'(first|(first|refine sx_nil ?_|fail);try replace F:=F.filt zk46 rfl|refine zn1 F M ?_;clear F M a;(try clear w);intro a w F M|((first|refine svC F M ?_|fail);((first|((refine acK (k:=81) (lall1 b r0 r1 size fo vo _ hv) ?_);rintro u L' ⟨h,rfl,rfl⟩)|(refine ac_appendH (f:=natL) (v:=sl v) (xs:=fo) (ys:=vo) rfl rfl inferInstance rfl rfl (by(focus ((repeat (first|exact Pull.here|apply Pull.there));done))) inferInstance (gs_own (by(focus ((repeat (first|exact Pull.here|fail));done)))) rfl rfl (by simp;omega) ?_;intro v3)));(first|clear F M a;intro a w F M|fail))|refine zT F ?_|((with_reducible refine isK ?_);refine svB F ?_ ?_<;>intro hc<;>try exact no hc)|refine zY ?_;go_step|fail))
   exact sv_again F M (2,v3) kpA (by simp only[e2,e3,if_true,if_false];exact permsA) (by dsimp only;omega) (by dsimp only;omega)
 ·have hkc:k=c+1:=by omega
  have hw:(if k=0 then [] else if k=1 then fo else fo++vo)=if c=0 then fo else fo++vo:=by
   rcases (by omega:c=0∨c=1) with rfl|rfl<;>simp[hkc]
  rw[hw] at M
  (repeat'(first|(first|refine sx_nil ?_|fail);try replace F:=F.filt zk46 rfl|refine zn1 F M ?_;clear F M a;(try clear w);intro a w F M|refine zT F ?_|((with_reducible refine isK ?_);refine svB F ?_ ?_<;>intro hc<;>try exact no hc)|refine zY ?_;go_step|fail))
  (all_goals(refine zE F M ?_;exact⟨_,_,rfl,⟨v,rfl,rfl⟩,M.perms permsA⟩))
end
end
def zd47:List ZR:=[⟨1,[],[],[],[0,1,2,3,4,5,6,7,8,9,10,11,12]⟩]
def zk48:List Nat:=[0,1,2,6,7,11]
def zk49:List Nat:=[0,1,2,3,4,8]
def zk50:List Nat:=[0,1,3,4,5,6,10]
def zd51:List ZR:=[⟨6,[9],[],[],[0,1,2,3,4,5,6,7,8,9]⟩]
section
open Go.RowKit
abbrev En:=Int × Nat
def bkE (len:Nat) (E:List En) (k:Nat):List En:=E.filter fun e=>decide ((e.1 % (len:Int)).toNat=k)
abbrev bkF (x:SlH × List En):Asn:=ownT 297 enL 2 (sl x.1) x.2
structure BkZ where
 h:SlH
 B:List (SlH × List En)
structure BkOk (len:Nat) (E:List En) (z:BkZ):Prop where
 l:z.B.length=len
 p:1≤len∧len≤4096
 g:∀ k x,z.B[k]? = some x→x.2=bkE len E k
 s:E.length≤5000
abbrev bkQ (b:Nat) (n:Int) (h:SlH) (hs:List SlH) (R:List Asn):List Asn:=pt b [sl h,.int .i64 n] 191::ownT 295 shL 1 (sl h) hs::R
abbrev bkP (b:Nat) (n:Int) (z:BkZ) (R:List Asn):List Asn:=bkQ b n z.h (z.B.map (·.1)) (arrA bkF z.B::R)
def bkA (b len:Nat) (E:List En):Asn:=exA fun z:BkZ=>factA (BkOk len E z)::bkP b E.length z []
theorem bk_open {w:World} {L:List Asn} {b len:Nat} {E:List En} (M:Mem w (bkA b len E::L)):∃ z,BkOk len E z∧Mem w (bkP b E.length z L):=by
 obtain ⟨z,M⟩:=M.exo
 obtain ⟨h,M⟩:=Mem.factO M
 exact⟨z,h,M⟩
theorem bk_close {w:World} {L:List Asn} {b len:Nat} {E:List En} {z:BkZ} (h:BkOk len E z) (M:Mem w (bkP b E.length z L)):Mem w (bkA b len E::L):=Mem.exc z (Mem.fact h M)
section
variable (b len:Nat) (E:List En) (R:List Asn)
theorem bk_new (hl:1≤len∧len≤4096):Spec 56 [.int .i64 len] R fun u L'=>∃ b,u=ptr b∧L'=bkA b len []::R:=by
 obtain ⟨h1,h2⟩:=hl
 (intro G w M;refine sx_enter (vs:=([.int .i64 len]:List Value)) Tryz.func56 (n:=13) rfl rfl rfl rfl ?_;intro a F;(try simp only[zc,zn] at M))
 (repeat'(first|(first|refine sx_nil ?_|fail);try replace F:=F.filt zk21 rfl|refine zn1 F M ?_;clear F M a;(try clear w);intro a w F M|refine sv2 F M ?_;clear F M a;intro nb a w F M|((first|refine svC F M ?_|fail);((refine ac_makeT (f:=shL) inferInstance nilH rfl rfl inferInstance rfl (m:=len) rfl rfl (by omega) (by omega) ?_;intro nm));(first|clear F M a;intro a w F M|fail))|refine zh F ?_ ?_<;>(intro hg;rw[hg] at F;try exact no hg)|refine zT F ?_|((with_reducible refine isK ?_);refine svB F ?_ ?_<;>intro hc<;>try exact no hc)|refine zY ?_;go_step|fail))
 all_goals refine zE F M ?_
 refine⟨_,_,rfl,⟨nb,rfl,rfl⟩,?_⟩
 have M:=arr_rep (f:=bkF) (x:=(nilH,[])) (fun M=>M.own_nil 297 2) M len
 refine bk_close (z:=⟨⟨some ⟨nm,0,none⟩,len,len⟩,List.replicate len (nilH,[])⟩) ⟨by simp,⟨h1,h2⟩,fun k x hx=>?_,by simp⟩ (by simp only[List.map_replicate,bkP,bkQ];exact M.perms permsA)
 dsimp only at hx
 rw[List.getElem?_replicate] at hx
 split at hx
 ·obtain rfl:=Option.some.inj hx;rfl
 ·cases hx
theorem bk_len:Spec 86 [ptr b] (bkA b len E::R) fun u L'=>u=.int .i64 E.length∧L'=bkA b len E::R:=by
 intro G w M
 obtain ⟨z,hz,M2⟩:=bk_open (L:=R++G) M
 clear M;have M:=M2;clear M2
 (refine sx_enter (vs:=([ptr b]:List Value)) Tryz.func86 (n:=9) rfl rfl rfl rfl ?_;intro a F;(try simp only[zc,zn] at M))
 (repeat'(first|(first|refine sx_nil ?_|fail);try replace F:=F.filt zk5 rfl|refine zn1 F M ?_;clear F M a;(try clear w);intro a w F M|refine zT F ?_|refine zY ?_;go_step|fail))
 all_goals refine zE F M ?_
 exact⟨_,_,rfl,⟨rfl,rfl⟩,bk_close hz (M.perms permsA)⟩
theorem bk_valid (e:Int) (he:0≤e∧e≤1099511627776):Spec 222 [ptr b,.int .i64 e] R fun u L'=>u=.bool true∧L'=R:=by
 obtain ⟨h1,h2⟩:=he
 (intro G w M;refine sx_enter (vs:=([ptr b,.int .i64 e]:List Value)) Tryz.func222 (n:=15) rfl rfl rfl rfl ?_;intro a F;(try simp only[zc,zn] at M))
 (repeat'(first|(first|refine sx_nil ?_|fail);try replace F:=F.filt zk43 rfl|refine zn1 F M ?_;clear F M a;(try clear w);intro a w F M|refine zh F ?_ ?_<;>(intro hg;rw[hg] at F;try exact no hg)|refine zT F ?_|refine zY ?_;go_step|fail))
 all_goals refine zE F M ?_
 all_goals exact⟨_,_,rfl,⟨by simp[tupOf,h1,h2],rfl⟩,M.perms permsA⟩
theorem bk_at (e n:Int) (he:0≤e) (h:SlH) (hs:List SlH) (hl:hs.length=len) (h1:1≤len):Spec 223 [ptr b,.int .i64 e] (bkQ b n h hs R) fun u L'=>u=.pointer (some ⟨vb (sl h),vo (sl h)+(e % (len:Int)).toNat*1,none⟩)∧L'=bkQ b n h hs R:=by
 have hm0:0≤e % (len:Int):=Int.emod_nonneg _ (by omega)
 have hm1:e % (len:Int)<(len:Int):=Int.emod_lt_of_pos _ (by omega)
 subst hl
 (intro G w M;refine sx_enter (vs:=([ptr b,.int .i64 e]:List Value)) Tryz.func223 (n:=17) rfl rfl rfl rfl ?_;intro a F;(try simp only[zc,zn] at M))
 (repeat'(first|(first|refine sx_nil ?_|refine pv_nil ?_;intro a w F M);try replace F:=F.filt zk43 rfl|refine zn1 F M ?_;clear F M a;(try clear w);intro a w F M|refine zp1 ?_|refine zT F ?_|((with_reducible refine isD ?_);((refine zD zd47 F M ?_;clear F M a w)))|refine zY ?_;go_step|fail))
 all_goals exact zX F M
theorem bk_split {l:List (SlH × List En)} {k:Nat} {x:SlH × List En} (h:l[k]? = some x):l=l.take k++x::l.drop (k+1):=by
 rw[← drop_cons h,List.take_append_drop]
theorem bkE_app (E:List En) (x:En) (k:Nat):bkE len (E++[x]) k=bkE len E k++if (x.1 % (len:Int)).toNat=k then [x] else []:=by
 unfold bkE
 rw[List.filter_append]
 congr 1
 by_cases h:(x.1 % (len:Int)).toNat=k<;>simp[h]
theorem bk_put_ok {z:BkZ} (hz:BkOk len E z) (hs:E.length<5000) (x:En) (hd:SlH) (x0:SlH × List En) (h0:z.B[(x.1 % (len:Int)).toNat]? = some x0):BkOk len (E++[x]) ⟨z.h,z.B.take (x.1 % (len:Int)).toNat++(hd,x0.2++[x])::z.B.drop ((x.1 % (len:Int)).toNat+1)⟩:=by
 obtain ⟨k,hk⟩:∃ k,(x.1 % (len:Int)).toNat=k:=⟨_,rfl⟩
 rw[hk] at h0 ⊢
 have hlt:=(List.getElem?_eq_some_iff.1 h0).1
 have e:z.B.take k++(hd,x0.2++[x])::z.B.drop (k+1)=z.B.set k (hd,x0.2++[x]):=by rw[List.set_eq_take_append_cons_drop,if_pos hlt]
 rw[e]
 refine⟨by simpa using hz.l,hz.p,fun j y hy=>?_,by simp;omega⟩
 rw[bkE_app,hk]
 simp only at hy
 rw[List.getElem?_set] at hy
 by_cases hj:k=j
 ·subst hj
  rw[if_pos rfl,if_pos hlt] at hy
  obtain rfl:=(Option.some.inj hy).symm
  simp only[if_true]
  rw[hz.g k x0 h0]
 ·rw[if_neg hj] at hy
  rw[if_neg hj,List.append_nil]
  exact hz.g j y hy
theorem bk_put (x:En) (hx:0≤x.1∧x.1≤1099511627776) (hs:E.length<5000):Spec 152 [ptr b,.int .i64 x.1,.int .i64 (x.2:Int)] (bkA b len E::R) fun u L'=>u=.bool true∧L'=bkA b len (E++[x])::R:=by
 intro G w M
 obtain ⟨z,hz,M2⟩:=bk_open (L:=R++G) M
 clear M;have M:=M2;clear M2
 have hp:=hz.p
 have hl:=hz.l
 have hm0:0≤x.1 % (len:Int):=Int.emod_nonneg _ (by omega)
 have hm1:x.1 % (len:Int)<(len:Int):=Int.emod_lt_of_pos _ (by omega)
 obtain ⟨k,hk⟩:∃ k,(x.1 % (len:Int)).toNat=k:=⟨_,rfl⟩
 have hkl:k<z.B.length:=by omega
 obtain ⟨x0,h0⟩:∃ x0,z.B[k]? = some x0:=⟨z.B[k],by simp[hkl]⟩
 have hB:=bk_split h0
 obtain ⟨h0h,E0⟩:=x0
 have hgE:=hz.g k _ h0
 have hEl:E0.length≤E.length:=by simp only at hgE;rw[hgE];exact List.length_filter_le _ _
 have hat:=fun R=>bk_at b len R x.1 E.length hx.1 z.h (z.B.map (·.1)) (by simp[hl]) hp.1
 rw[hk] at hat
 have hm:(z.B.map (·.1))[k]? = some h0h:=by simp[h0]
 have M:=M.perms (permsA:Perms _ (arrA bkF z.B::pt b [sl z.h,.int .i64 E.length] 191::ownT 295 shL 1 (sl z.h) (z.B.map (·.1))::(R++G)))
 rw[show arrA bkF z.B=arrA bkF (z.B.take k++(h0h,E0)::z.B.drop (k+1)) by rw[← hB]] at M
 have M:=arr_open M
 (refine sx_enter (vs:=([ptr b,.int .i64 x.1,.int .i64 (x.2:Int)]:List Value)) Tryz.func152 (n:=32) rfl rfl rfl rfl ?_;intro a F;(try simp only[zc,zn] at M))
 (repeat'(first|(first|refine sx_nil ?_|fail);try replace F:=F.filt zk48 rfl|refine zn1 F M ?_;clear F M a;(try clear w);intro a w F M|refine sv2 F M ?_;clear F M a;intro nb a w F M|((first|refine svC F M ?_|refine svC0 F M ?_|fail);((first|((refine acW (k:=222) (bk_valid b _ x.1 hx) ?_);rintro u L' ⟨rfl,rfl⟩)|((refine acK (k:=223) (hat _) ?_);rintro u L' ⟨rfl,rfl⟩)|(refine ac_appendH (f:=enL) (v:=sl h0h) (xs:=E0) (ys:=[x]) rfl rfl inferInstance rfl rfl (by(focus ((repeat (first|exact Pull.here|apply Pull.there));done))) inferInstance (gs_own (by(focus ((repeat (first|exact Pull.here|apply Pull.there));done)))) rfl rfl (by simp;omega) ?_;intro v3)|(refine ac_storeE (f:=shL) (v:=sl z.h) (j:=k) (k:=1) (i:=0) (xs:=z.B.map (·.1)) rfl rfl inferInstance rfl rfl hm inferInstance rfl v3 rfl (by(focus ((repeat (first|exact Rep.here|apply Rep.there));done))) ?_)));(first|clear F M a;intro a w F M|clear M;intro w M))|refine zT F ?_|refine zY ?_;go_step|fail))
 all_goals refine zE F M ?_
 have hok:=bk_put_ok len E hz hs x v3 (h0h,E0) (by rw[hk];exact h0)
 rw[hk] at hok
 have e1:(E.length:Int)+1=(((E++[x]).length:Nat):Int):=by simp
 have e2:(z.B.map (·.1)).set k v3=(z.B.take k++(v3,E0++[x])::z.B.drop (k+1)).map (·.1):=by
  have:z.B.take k++(v3,E0++[x])::z.B.drop (k+1)=z.B.set k (v3,E0++[x]):=by rw[List.set_eq_take_append_cons_drop,if_pos hkl]
  rw[this,List.map_set]
 rw[e1,e2] at M
 have M:=arr_close (f:=bkF) (l1:=z.B.take k) (l2:=z.B.drop (k+1)) (x:=(v3,E0++[x])) (M.perms (permsA:Perms _ (bkF (v3,E0++[x])::arrA bkF (z.B.take k++z.B.drop (k+1))::bkQ b _ z.h _ (R++G))))
 exact⟨_,_,rfl,⟨rfl,rfl⟩,bk_close hok (M.perms permsA)⟩
theorem bk_due_ok {z:BkZ} (hz:BkOk len E z) (e:Int) (hd:SlH) (x0:SlH × List En) (h0:z.B[(e % (len:Int)).toNat]? = some x0):BkOk len (E.filter fun x=>decide (x.1≠e)) ⟨z.h,z.B.take (e % (len:Int)).toNat++(hd,x0.2.filter fun x=>decide (x.1≠e))::z.B.drop ((e % (len:Int)).toNat+1)⟩:=by
 obtain ⟨k,hk⟩:∃ k,(e % (len:Int)).toNat=k:=⟨_,rfl⟩
 rw[hk] at h0 ⊢
 have hlt:=(List.getElem?_eq_some_iff.1 h0).1
 have e1:z.B.take k++(hd,x0.2.filter fun x=>decide (x.1≠e))::z.B.drop (k+1)=z.B.set k (hd,x0.2.filter fun x=>decide (x.1≠e)):=by rw[List.set_eq_take_append_cons_drop,if_pos hlt]
 rw[e1]
 refine⟨by simpa using hz.l,hz.p,fun j y hy=>?_,Nat.le_trans (List.length_filter_le _ _) hz.s⟩
 simp only at hy
 rw[List.getElem?_set] at hy
 by_cases hj:k=j
 ·subst hj
  rw[if_pos rfl,if_pos hlt] at hy
  obtain rfl:=(Option.some.inj hy).symm
  simp only
  rw[hz.g k x0 h0]
  simp only[bkE,List.filter_filter,Bool.and_comm]
 ·rw[if_neg hj] at hy
  rw[hz.g j y hy]
  simp only[bkE,List.filter_filter]
  apply List.filter_congr
  intro x _
  by_cases hx:x.1=e
  ·have:¬(x.1 % (len:Int)).toNat=j:=by rw[hx,hk];exact hj
   simp[this]
  ·simp[hx]
theorem bk_due_all {z:BkZ} (hz:BkOk len E z) (e:Int) (x0:SlH × List En) (h0:z.B[(e % (len:Int)).toNat]? = some x0):(x0.2.filter fun x=>decide (x.1=e))=E.filter fun x=>decide (x.1=e):=by
 rw[hz.g _ x0 h0]
 simp only[bkE,List.filter_filter]
 apply List.filter_congr
 intro x _
 by_cases hx:x.1=e<;>simp[hx]
def dueA (b3 b5:Nat) (e:Int) (ys:List En):Asn:=exA fun ho:SlH=>[pt b3 [.int .i64 e] 3,pt b5 [sl ho] 24,ownT 3 natL 1 (sl ho) ((ys.filter fun x=>decide (x.1=e)).map (·.2))]
theorem due_close {w:World} {L:List Asn} {b3 b5:Nat} {e:Int} {ys:List En} {ho:SlH} (M:Mem w (pt b3 [.int .i64 e] 3::pt b5 [sl ho] 24::ownT 3 natL 1 (sl ho) ((ys.filter fun x=>decide (x.1=e)).map (·.2))::L)):Mem w (dueA b3 b5 e ys::L):=Mem.exc (f:=fun ho:SlH=>[pt b3 [.int .i64 e] 3,pt b5 [sl ho] 24,ownT 3 natL 1 (sl ho) ((ys.filter fun x=>decide (x.1=e)).map (·.2))]) ho M
theorem len_split (e:Int):∀ E:List En,(E.filter fun x=>decide (x.1=e)).length+(E.filter fun x=>decide (x.1≠e)).length=E.length
 | []=>rfl
 | x::E=>by
  have:=len_split e E
  by_cases h:x.1=e
  ·simp[h] at this ⊢;omega
  ·simp[h] at this ⊢;omega
theorem due1_spec (b3 b5:Nat) (e:Int) (ys:List En) (x:En) (hl:ys.length≤5000):Spec 307 [enV x,ptr b3,ptr b5] (dueA b3 b5 e ys::R) fun u L'=>u=.bool (decide (x.1=e))∧L'=dueA b3 b5 e (ys++[x])::R:=by
 intro G w M
 obtain ⟨ho,M2⟩:=Mem.exo (show Mem w (dueA b3 b5 e ys::(R++G)) from M)
 clear M;have M:=M2;clear M2
 simp only[zc,zn] at M
 have hfl:=List.length_filter_le (fun x:En=>decide (x.1=e)) ys
 by_cases hx:x.1=e
 ·have hne:¬(x.1≠e):=by omega
  (refine sx_enter (vs:=([enV x,ptr b3,ptr b5]:List Value)) Tryz.func307 (n:=14) rfl rfl rfl rfl ?_;intro a F;(try simp only[zc,zn] at M))
  (repeat'(first|(first|refine sx_nil ?_|fail);try replace F:=F.filt zk49 rfl|refine zn1 F M ?_;clear F M a;(try clear w);intro a w F M|refine sv2 F M ?_;clear F M a;intro nb a w F M|((first|refine svC F M ?_|fail);((refine ac_appendH (f:=natL) (v:=sl ho) (xs:=(ys.filter fun x=>decide (x.1=e)).map (·.2)) (ys:=[x.2]) rfl rfl inferInstance rfl rfl (by(focus ((repeat (first|exact Pull.here|apply Pull.there));done))) inferInstance (gs_own (by(focus ((repeat (first|exact Pull.here|fail));done)))) rfl rfl (by simp;omega) ?_;intro v3));(first|clear F M a;intro a w F M|fail))|refine zT F ?_|((with_reducible refine isK ?_);refine svB F ?_ ?_<;>intro hc<;>try exact no hc)|refine zY ?_;go_step|fail))
  all_goals refine zE F M ?_
  have e1:((ys.filter fun x:En=>decide (x.1=e)).map (·.2))++[x.2]=((ys++[x]).filter fun x:En=>decide (x.1=e)).map (·.2):=by simp[hx]
  rw[e1] at M
  exact⟨_,_,rfl,⟨by simp[hx,tupOf],rfl⟩,due_close (M.perms permsA)⟩
 ·(refine sx_enter (vs:=([enV x,ptr b3,ptr b5]:List Value)) Tryz.func307 (n:=14) rfl rfl rfl rfl ?_;intro a F;(try simp only[zc,zn] at M))
  (repeat'(first|(first|refine sx_nil ?_|fail);try replace F:=F.filt zk49 rfl|refine zn1 F M ?_;clear F M a;(try clear w);intro a w F M|refine sv2 F M ?_;clear F M a;intro nb a w F M|refine zT F ?_|((with_reducible refine isK ?_);refine svB F ?_ ?_<;>intro hc<;>try exact no hc)|refine zY ?_;go_step|fail))
  all_goals refine zE F M ?_
  have e1:((ys.filter fun x:En=>decide (x.1=e)).map (·.2))=((ys++[x]).filter fun x:En=>decide (x.1=e)).map (·.2):=by simp[hx]
  rw[e1] at M
  exact⟨_,_,rfl,⟨by simp[hx,tupOf],rfl⟩,due_close (M.perms permsA)⟩
theorem bk_due (e:Int) (he:0≤e∧e≤1099511627776):Spec 272 [ptr b,.int .i64 e] (bkA b len E::R) fun u L'=>∃ h,u=sl h∧L'=ownT 3 natL 1 (sl h) ((E.filter fun x=>decide (x.1=e)).map (·.2))::bkA b len (E.filter fun x=>decide (x.1≠e))::R:=by
 intro G w M
 obtain ⟨z,hz,M2⟩:=bk_open (L:=R++G) M
 clear M;have M:=M2;clear M2
 have hp:=hz.p
 have hl:=hz.l
 have hEs:=hz.s
 have hm0:0≤e % (len:Int):=Int.emod_nonneg _ (by omega)
 have hm1:e % (len:Int)<(len:Int):=Int.emod_lt_of_pos _ (by omega)
 obtain ⟨k,hk⟩:∃ k,(e % (len:Int)).toNat=k:=⟨_,rfl⟩
 have hkl:k<z.B.length:=by omega
 obtain ⟨x0,h0⟩:∃ x0,z.B[k]? = some x0:=⟨z.B[k],by simp[hkl]⟩
 have hB:=bk_split h0
 obtain ⟨h0h,E0⟩:=x0
 have hgE:=hz.g k _ h0
 have hEl:E0.length≤E.length:=by simp only at hgE;rw[hgE];exact List.length_filter_le _ _
 have hat:=fun R=>bk_at b len R e E.length he.1 z.h (z.B.map (·.1)) (by simp[hl]) hp.1
 rw[hk] at hat
 have hm:(z.B.map (·.1))[k]? = some h0h:=by simp[h0]
 have hall:=bk_due_all len E hz e (h0h,E0) (by rw[hk];exact h0)
 simp only at hall
 have M:=M.perms (permsA:Perms _ (arrA bkF z.B::pt b [sl z.h,.int .i64 E.length] 191::ownT 295 shL 1 (sl z.h) (z.B.map (·.1))::(R++G)))
 rw[show arrA bkF z.B=arrA bkF (z.B.take k++(h0h,E0)::z.B.drop (k+1)) by rw[← hB]] at M
 have M:=arr_open M
 have M:=M.own_nil 3 1
 have hdel:∀ (b3 b5:Nat) (R:List Asn),Spec 306 [sl h0h,.func (.func 307) #[] #[ptr b3,ptr b5]] (bkF (h0h,E0)::pt b3 [.int .i64 e] 3::pt b5 [.slice none 0 0] 24::own 3 1 (.slice none 0 0) 0 []::R) fun u L'=>∃ h' ho,u=sl h'∧L'=bkF (h',E0.filter fun x=>decide (x.1≠e))::pt b3 [.int .i64 e] 3::pt b5 [sl ho] 24::ownT 3 natL 1 (sl ho) ((E.filter fun x=>decide (x.1=e)).map (·.2))::R:=by
  intro b3 b5 R G w M
  have M:=Mem.exc (f:=fun ho:SlH=>[pt b3 [.int .i64 e] 3,pt b5 [sl ho] 24,ownT 3 natL 1 (sl ho) ((([]:List En).filter fun x=>decide (x.1=e)).map (·.2))]) nilH (M.perms (permsA:Perms _ ([pt b3 [.int .i64 e] 3,pt b5 [.slice none 0 0] 24,own 3 1 (.slice none 0 0) 0 []]++(bkF (h0h,E0)::(R++G)))))
  refine(del_en_del 307 #[ptr b3,ptr b5] h0h E0 (fun x=>decide (x.1=e)) (dueA b3 b5 e) (fun j x hx R=>?_) (by omega) R G w (M.perms permsA)).mono ?_
  ·have:=due1_spec R b3 b5 e (E0.take j) x (by rw[List.length_take];omega)
   have e2:E0.take (j+1)=E0.take j++[x]:=by rw[List.take_add_one,hx];rfl
   rw[e2];exact this
  ·rintro e' w' ⟨v,L',k1,⟨h',k2,rfl⟩,M'⟩
   obtain ⟨ho,M'⟩:=Mem.exo (show Mem w' (dueA b3 b5 e E0::(ownT 297 enL 2 (sl h') (E0.filter fun x=>!decide (x.1=e))::(R++G))) from M'.perms permsA)
   have e3:(E0.filter fun x=>!decide (x.1=e))=E0.filter fun x=>decide (x.1≠e):=by congr 1;funext x;simp
   rw[e3,hall] at M'
   exact⟨v,_,k1,⟨h',ho,k2,rfl⟩,M'.perms permsA⟩
 have hdl:((E.filter fun x=>decide (x.1=e)).map (·.2)).length≤E.length:=by simp;exact List.length_filter_le _ _
 (refine sx_enter (vs:=([ptr b,.int .i64 e]:List Value)) Tryz.func272 (n:=31) rfl rfl rfl rfl ?_;intro a F;(try simp only[zc,zn] at M))
 (repeat'(first|(first|refine sx_nil ?_|refine pv_nil ?_;intro a w F M);try replace F:=F.filt zk50 rfl|refine zn1 F M ?_;clear F M a;(try clear w);intro a w F M|refine sv2 F M ?_;clear F M a;intro nb a w F M|refine zp1 ?_|((first|refine svC F M ?_|refine svC0 F M ?_|fail);((first|((refine acW (k:=222) (bk_valid b _ e he) ?_);rintro u L' ⟨rfl,rfl⟩)|((refine acK (k:=223) (hat _) ?_);rintro u L' ⟨rfl,rfl⟩)|((refine acK (k:=306) (hdel _ _ _) ?_);rintro u L' ⟨h',ho,rfl,rfl⟩)|(refine ac_storeE (f:=shL) (v:=sl z.h) (j:=k) (k:=1) (i:=0) (xs:=z.B.map (·.1)) rfl rfl inferInstance rfl rfl hm inferInstance rfl h' rfl (by(focus ((repeat (first|exact Rep.here|apply Rep.there));done))) ?_)));(first|clear F M a;intro a w F M|clear M;intro w M))|refine zT F ?_|((with_reducible refine isD ?_);((refine zD zd51 F M ?_;clear F M a w)))|refine zY ?_;go_step|fail))
 all_goals refine zE F M ?_
 have hok:=bk_due_ok len E hz e h' (h0h,E0) (by rw[hk];exact h0)
 rw[hk] at hok
 have hls:=len_split e E
 have e1:(E.length:Int) - (((E.filter fun x=>decide (x.1=e)).map (·.2)).length:Nat)=(((E.filter fun x=>decide (x.1≠e)).length:Nat):Int):=by rw[List.length_map];omega
 have e2:(z.B.map (·.1)).set k h'=(z.B.take k++(h',E0.filter fun x=>decide (x.1≠e))::z.B.drop (k+1)).map (·.1):=by
  have:z.B.take k++(h',E0.filter fun x=>decide (x.1≠e))::z.B.drop (k+1)=z.B.set k (h',E0.filter fun x=>decide (x.1≠e)):=by rw[List.set_eq_take_append_cons_drop,if_pos hkl]
  rw[this,List.map_set]
 rw[e1,e2] at M
 have M:=arr_close (f:=bkF) (l1:=z.B.take k) (l2:=z.B.drop (k+1)) (x:=(h',E0.filter fun x=>decide (x.1≠e))) (M.perms (permsA:Perms _ (bkF (h',E0.filter fun x=>decide (x.1≠e))::arrA bkF (z.B.take k++z.B.drop (k+1))::ownT 3 natL 1 (sl ho) ((E.filter fun x=>decide (x.1=e)).map (·.2))::bkQ b _ z.h _ (R++G))))
 have M:=bk_close (L:=ownT 3 natL 1 (sl ho) ((E.filter fun x=>decide (x.1=e)).map (·.2))::(R++G)) hok (M.perms permsA)
 exact⟨_,_,rfl,⟨ho,rfl,rfl⟩,M.perms permsA⟩
end
end
end Go.Proofs.YtopbohbkhljjgaaGreat
