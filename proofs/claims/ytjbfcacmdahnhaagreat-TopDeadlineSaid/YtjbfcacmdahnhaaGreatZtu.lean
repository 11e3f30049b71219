import Derived.Test.YtjbfcacmdahnhaaGreatZtt
set_option linter.unusedVariables false
set_option linter.unusedSimpArgs false
set_option linter.unusedSectionVars false
set_option maxRecDepth 100000
set_option maxHeartbeats 8000000
namespace Go.Proofs.YtjbfcacmdahnhaaGreat
section
open Go.RowKit Go.Maps
theorem int_idx (c:FuncId) [hfk:FK c] (caps:Array Value) (h:SlH) (xs:List Int) (p:Int→Bool) (Lc:List Asn) (hg:GS Lc 1 (sl h) xs.length (xs.flatMap intL)) (hcl:∀ x∈xs,Keeps c (intV x::caps.toList) (.bool (p x)) Lc) :
  Spec 118 [sl h,.func (.func c) #[] caps] Lc fun u L'=>u=.int .i64 (idxP p xs 0)∧L'=Lc:=by
 generalize hR:idxP p xs 0=R
 (intro G w M;refine sx_enter (vs:=[sl h,.func (.func c) #[] caps]) Tryz.func118 (n:=19) rfl rfl rfl rfl ?_;intro a F;(try simp only[zc,zn] at M))
 have hg':GS (Lc++G) 1 (sl h) xs.length (xs.flatMap intL):=hg.imp fun w M=>M.drop_app
 have hlv:=hg'.len_le M
 (try refine zI zk118 F M ?_;clear F M a;try clear w);(repeat'(first|refine zA ?_;repeat intro b|refine zB ?_ ?_<;>intro hc<;>try exact no hc|refine zH ?_ ?_<;>(intro hg;rw[hg];try exact no hg)));all_goals try refine zO fun a w F M=>?_
 refine svLoop F M (0:Nat) (fun k=>[(8,.int .i64 k)]) (fun _=>[]) (fun k=>k≤xs.length∧idxP p (xs.drop k) k=R) (fun k=>xs.length - k) [] ⟨by omega,by simpa using hR⟩ ?_
 (rintro k ⟨q1,q2⟩ a w F M;(try simp only[zc,zn] at F M q1 q2 ⊢))
 by_cases hlt:k<xs.length
 ·obtain ⟨x,hx⟩:∃ x,xs[k]? = some x:=⟨xs[k],by simp[hlt]⟩
  rw[drop_cons hx,idxP] at q2
  have hs:=hcl x (List.mem_of_getElem? hx)
  cases hp:p x
  all_goals rw[hp] at hs q2
  ·(try refine zI zk118 F M ?_;clear F M a;try clear w);(repeat'(first|refine zA ?_;repeat intro b|refine zC ?_;refine acCall (k:=c) ?_;refine Spec.mono (Spec.fr hs _) ?_;rintro u L' ⟨_,⟨rfl,rfl⟩,rfl⟩|refine zB ?_ ?_<;>intro hc<;>try exact no hc|refine zH ?_ ?_<;>(intro hg;rw[hg];try exact no hg)));all_goals try refine zO fun a w F M=>?_
   (refine sv_again F M (k+1) kpA permsA ?_ ?_)
   ·exact⟨by omega,by simpa using q2⟩
   ·omega
  ·(try refine zI zk118 F M ?_;clear F M a;try clear w);(repeat'(first|refine zA ?_;repeat intro b|refine zC ?_;refine acCall (k:=c) ?_;refine Spec.mono (Spec.fr hs _) ?_;rintro u L' ⟨_,⟨rfl,rfl⟩,rfl⟩|refine zB ?_ ?_<;>intro hc<;>try exact no hc|refine zH ?_ ?_<;>(intro hg;rw[hg];try exact no hg)));all_goals try refine zO fun a w F M=>?_
   all_goals(first|(refine svEnd F M ?_)|(refine svRet F M ?_))
   exact⟨_,_,rfl,⟨by rw[← q2];rfl,rfl⟩,M.perms permsA⟩
 ·rw[List.drop_of_length_le (by omega)] at q2
  (try refine zI zk118 F M ?_;clear F M a;try clear w);(repeat'(first|refine zA ?_;repeat intro b|refine zC ?_;refine acCall (k:=c) ?_;refine Spec.mono (Spec.fr hs _) ?_;rintro u L' ⟨_,⟨rfl,rfl⟩,rfl⟩|refine zB ?_ ?_<;>intro hc<;>try exact no hc|refine zH ?_ ?_<;>(intro hg;rw[hg];try exact no hg)));all_goals try refine zO fun a w F M=>?_
  all_goals(first|(refine svEnd F M ?_)|(refine svRet F M ?_))
  exact⟨_,_,rfl,⟨by rw[← q2];rfl,rfl⟩,M.perms permsA⟩
theorem int_del (c:FuncId) [hfk:FK c] (caps:Array Value) (h:SlH) (xs:List Int) (p:Int→Bool) (Lc:List Asn) (hcl:∀ x∈xs,Keeps c (intV x::caps.toList) (.bool (p x)) Lc) :
  Spec 55 [sl h,.func (.func c) #[] caps] (ownT 3 intL 1 (sl h) xs::Lc) fun u L'=>∃ h',u=sl h'∧L'=ownT 3 intL 1 (sl h') (xs.filter fun x=>!p x)::Lc:=by
 intro G w M
 have M:Mem w (ownT 3 intL 1 (sl h) xs::(Lc++G)):=M
 obtain ⟨hn,hm,hlen,hmax⟩:=own_h M
 refine sx_enter (vs:=([sl h,.func (.func c) #[] caps]:List Value)) Tryz.func55 (n:=42) rfl rfl rfl rfl ?_
 intro a F
 have hidx:=int_idx c caps h xs p (ownT 3 intL 1 (sl h) xs::Lc) (gs_own pullA) (fun x hx=>(hcl x hx).head _)
 rcases idxP_spec p xs 0 with⟨e1,e2⟩|⟨i0,x0,e1,e2,e3,e4⟩
 ·rw[e1] at hidx
  (try refine zI zk55 F M ?_;clear F M a;try clear w);(repeat'(first|refine zA ?_;repeat intro b|refine zC ?_;refine acCall (k:=118) ?_;refine Spec.mono (Spec.fr hidx G) ?_;rintro u L' ⟨_,⟨rfl,rfl⟩,rfl⟩;simp only[zc]|refine zB ?_ ?_<;>intro hc<;>try exact no hc|refine zH ?_ ?_<;>(intro hg;rw[hg];try exact no hg)));all_goals try refine zO fun a w F M=>?_
  all_goals(first|(refine svEnd F M ?_)|(refine svRet F M ?_))
  refine⟨_,_,rfl,⟨h,rfl,rfl⟩,?_⟩
  rw[filter_all p xs e2]
  exact M
 ·rw[e2,Nat.zero_add] at hidx
  have hi0:i0<xs.length:=(List.getElem?_eq_some_iff.1 e1).1
  (try refine zI zk55 F M ?_;clear F M a;try clear w);(repeat'(first|refine zA ?_;repeat intro b|refine zC ?_;refine acCall (k:=118) ?_;refine Spec.mono (Spec.fr hidx G) ?_;rintro u L' ⟨_,⟨rfl,rfl⟩,rfl⟩;simp only[zc]|refine zB ?_ ?_<;>intro hc<;>try exact no hc|refine zH ?_ ?_<;>(intro hg;rw[hg];try exact no hg)));all_goals try refine zO fun a w F M=>?_
  refine svLoop F M ((i0,i0+1,xs):Nat × Nat × List Int) (fun s=>[(5,.int .i64 s.1),(6,.int .i64 s.2.1)]) (fun s=>[ownT 3 intL 1 (sl h) s.2.2]) (fun s=>s.2.2.length=xs.length∧s.1<s.2.1∧s.2.1≤xs.length∧s.2.2.take s.1=(xs.take s.2.1).filter (fun x=>!p x)∧s.2.2.drop s.2.1=xs.drop s.2.1) (fun s=>xs.length - s.2.1) [7]
   ⟨rfl,by simp only;omega,by simp only;omega,by simp only;rw[List.take_add_one,e1,List.filter_append,filter_all p _ e3];simp[e4],rfl⟩ ?_
  (rintro⟨i,j,ys⟩ ⟨q1,q2,q3,q4,q5⟩ a w F M;(try simp only[zc,zn] at F M q1 q2 q3 q4 q5 ⊢))
  by_cases hlt:j<xs.length
  ·obtain ⟨x,hx⟩:∃ x,xs[j]? = some x:=⟨xs[j],by simp[hlt]⟩
   have hy:ys[j]? = some x:=by
    have:=congrArg (·[0]?) q5
    simpa[hx] using this
   have hj':(j:Int)<ys.length:=by omega
   obtain ⟨u,hu⟩:∃ u,ys[i]? = some u:=⟨ys[i]'(by omega),by rw[List.getElem?_eq_getElem (by omega)]⟩
   have hs:=(hcl x (List.mem_of_getElem? hx)).head (ownT 3 intL 1 (sl h) ys)
   have ht:(xs.take (j+1)).filter (fun x=>!p x)=(xs.take j).filter (fun x=>!p x)++(if p x=true then [] else [x]):=by
    rw[List.take_add_one,hx,List.filter_append];cases hp:p x<;>simp[hp]
   have hd:ys.drop (j+1)=xs.drop (j+1):=by
    have:=congrArg (List.drop 1) q5
    simpa[List.drop_drop] using this
   cases hp:p x
   all_goals rw[hp] at hs ht
   ·(try refine zI zk55 F M ?_;clear F M a;try clear w);(repeat'(first|refine zA ?_;repeat intro b|refine zC ?_;(first|refine acCall (k:=c) ?_;refine Spec.mono (Spec.fr hs G) ?_;rintro u L' ⟨_,⟨rfl,rfl⟩,rfl⟩;simp only[zc]|refine acCall (k:=c) ?_;refine Spec.mono (Spec.fr (hs.head _) G) ?_;rintro u L' ⟨_,⟨rfl,rfl⟩,rfl⟩;simp only[zc]|refine ac_storeEA (f:=intL) (v:=sl h) (j:=i) (k:=1) rfl rfl inferInstance x rfl hu inferInstance (by(repeat (first|exact Rep.here|apply Rep.there))) ?_|refine ac_storeE (f:=intL) (v:=sl h) (j:=i) (k:=1) (i:=0) (xs:=ys) rfl rfl inferInstance rfl rfl hu inferInstance rfl x rfl (by(repeat (first|exact Rep.here|apply Rep.there))) ?_)|refine zB ?_ ?_<;>intro hc<;>try exact no hc|refine zH ?_ ?_<;>(intro hg;rw[hg];try exact no hg)));all_goals try refine zO fun a w F M=>?_
    (refine sv_again F M (i+1,j+1,ys.set i x) kpA permsA ?_ ?_)
    ·refine⟨by simp[q1],by simp only;omega,by simp only;omega,?_,?_⟩
     ·simp only
      rw[ht,← q4,List.take_add_one,List.take_set,List.set_eq_of_length_le (by rw[List.length_take];omega),List.getElem?_set_self (by omega)]
      simp
     ·simp only
      rw[List.drop_set_of_lt (by omega),hd]
    ·simp only;omega
   ·(try refine zI zk55 F M ?_;clear F M a;try clear w);(repeat'(first|refine zA ?_;repeat intro b|refine zC ?_;(first|refine acCall (k:=c) ?_;refine Spec.mono (Spec.fr hs G) ?_;rintro u L' ⟨_,⟨rfl,rfl⟩,rfl⟩;simp only[zc]|refine acCall (k:=c) ?_;refine Spec.mono (Spec.fr (hs.head _) G) ?_;rintro u L' ⟨_,⟨rfl,rfl⟩,rfl⟩;simp only[zc]|refine ac_storeEA (f:=intL) (v:=sl h) (j:=i) (k:=1) rfl rfl inferInstance x rfl hu inferInstance (by(repeat (first|exact Rep.here|apply Rep.there))) ?_|refine ac_storeE (f:=intL) (v:=sl h) (j:=i) (k:=1) (i:=0) (xs:=ys) rfl rfl inferInstance rfl rfl hu inferInstance rfl x rfl (by(repeat (first|exact Rep.here|apply Rep.there))) ?_)|refine zB ?_ ?_<;>intro hc<;>try exact no hc|refine zH ?_ ?_<;>(intro hg;rw[hg];try exact no hg)));all_goals try refine zO fun a w F M=>?_
    (refine sv_again F M (i,j+1,ys) kpA permsA ?_ ?_)
    ·exact⟨q1,by simp only;omega,by simp only;omega,by simp only;rw[ht,← q4];simp,hd⟩
    ·simp only;omega
  ·have hjl:j=xs.length:=by omega
   have hin:i≤h.n:=by omega
   have hic:i≤h.c:=by omega
   have hiy:i≤ys.length:=by omega
   rw[hjl,List.take_of_length_le (Nat.le_refl _)] at q4
   have hli:(xs.filter fun x=>!p x).length=i:=by rw[← q4,List.length_take];omega
   have hj':¬((j:Int)<ys.length):=by omega
   (try refine zI zk55 F M ?_;clear F M a;try clear w);(repeat'(first|refine zA ?_;repeat intro b|refine zC ?_;refine ac_clear (h:=h) (j:=i) rfl rfl inferInstance rfl rfl pullA hiy ?_;intro zs hzs|refine zV (h:=⟨_,by(first|(apply rt_from;(exact rfl);(exact rfl);(exact rfl);(exact inferInstance);(exact hin))|(apply rt_to;(exact rfl);(exact rfl);(exact rfl);(exact inferInstance);(exact hic))),?_⟩)|refine zB ?_ ?_<;>intro hc<;>try exact no hc|refine zH ?_ ?_<;>(intro hg;rw[hg];try exact no hg)));all_goals try refine zO fun a w F M=>?_
   all_goals(first|(refine svEnd F M ?_)|(refine svRet F M ?_))
   refine⟨_,_,rfl,⟨⟨h.a,i,h.c⟩,rfl,rfl⟩,?_⟩
   have M:=own_cut M hiy
   rw[hzs,flat_take (f:=intL) (k:=1) (EL.len),q4] at M
   unfold ownT
   rw[hli]
   exact M
theorem clone_int (h:SlH) (xs:List Int) {L:List Asn} (hu:GS L 1 (sl h) xs.length (xs.flatMap intL)) (hb:xs.length≤5000000) :
  Spec 56 [sl h] L fun u L'=>∃ h',u=sl h'∧L'=ownT 3 intL 1 (sl h') xs::L:=by
 (intro G w M;refine sx_enter (vs:=[sl h]) Tryz.func56 (n:=8) rfl rfl rfl rfl ?_;intro a F;(try simp only[zc,zn] at M))
 have hu':GS (L++G) 1 (sl h) xs.length (xs.flatMap intL):=hu.imp fun w M=>M.drop_app
 have hlv:=hu'.len_le M
 obtain ⟨ha,hn,hc⟩:=h
 cases ha with
 | none =>
  have hx:xs=[]:=by
   have:=(hu' w M).nil_len
   exact List.eq_nil_of_length_eq_zero this
  subst hx
  (try refine zI zk56 F M ?_;clear F M a;try clear w);(repeat'(first|refine zA ?_;repeat intro b|refine zC ?_;refine ac_clear (h:=h) (j:=i) rfl rfl inferInstance rfl rfl pullA hiy ?_;intro zs hzs|refine zV (h:=⟨_,by(apply rt_nils;(exact rfl);(exact rfl);(exact rfl);(exact inferInstance)),?_⟩)|refine zB ?_ ?_<;>intro hc<;>try exact no hc|refine zH ?_ ?_<;>(intro hg;rw[hg];try exact no hg)));all_goals try refine zO fun a w F M=>?_
  all_goals(first|(refine svEnd F M ?_)|(refine svRet F M ?_))
  all_goals refine⟨_,_,rfl,⟨⟨none,0,0⟩,rfl,rfl⟩,?_⟩
  all_goals exact M.own_nil _ _
 | some ad =>
  (try refine zI zk56 F M ?_;clear F M a;try clear w);(repeat'(first|refine zA ?_;repeat intro b|refine zC ?_;apply ac_appendH (xs:=([]:List Int)) (ys:=xs) (f:=intL);exact rfl;exact rfl;exact inferInstance;exact rfl;exact rfl;(focus ((repeat (first|exact Pull.here|apply Pull.there));done));exact inferInstance;exact hu'.tail;exact rfl;exact rfl;simp;omega;intro v'|refine zV (h:=⟨_,by(apply rt_nils;(exact rfl);(exact rfl);(exact rfl);(exact inferInstance)),?_⟩)|refine zB ?_ ?_<;>intro hc<;>try exact no hc|refine zH ?_ ?_<;>(intro hg;rw[hg];try exact no hg)));all_goals try refine zO fun a w F M=>?_
  all_goals refine svC F M (h:=?_)
  all_goals(refine ac_appendH (f:=intL) (xs:=[]) (ys:=xs) rfl rfl inferInstance rfl rfl (by(focus ((repeat (first|exact Pull.here|apply Pull.there));done))) inferInstance hu'.tail rfl rfl (by simp;omega) ?_)
  all_goals(intro v' a w F M)
  all_goals((try refine zI zk56 F M ?_;clear F M a;try clear w);(repeat'(first|refine zA ?_;repeat intro b|refine zC ?_;apply ac_appendH (xs:=([]:List Int)) (ys:=xs) (f:=intL);exact rfl;exact rfl;exact inferInstance;exact rfl;exact rfl;(focus ((repeat (first|exact Pull.here|apply Pull.there));done));exact inferInstance;exact hu'.tail;exact rfl;exact rfl;simp;omega;intro v'|refine zV (h:=⟨_,by(apply rt_nils;(exact rfl);(exact rfl);(exact rfl);(exact inferInstance)),?_⟩)|refine zB ?_ ?_<;>intro hc<;>try exact no hc|refine zH ?_ ?_<;>(intro hg;rw[hg];try exact no hg)));all_goals try refine zO fun a w F M=>?_)
  all_goals(first|(refine svEnd F M ?_)|(refine svRet F M ?_))
  all_goals(refine⟨_,_,rfl,⟨v',rfl,rfl⟩,?_⟩;(try simp only[zc,zn]);exact M.perms permsA)
end
section
open Go.RowKit Go.Maps
theorem log_open {w:World} {L:List Asn} {lb:Nat} {q:HS} (M:Mem w (logA lb q::L)):∃ m o' a' al,abs al=q.recs∧Mem w (pt lb [.map (some m),sl o',.int .i64 q.n,.int .i64 q.ep,sl a'] 134::mp m 3 (ptrs al)::ownT 3 intL 1 (sl o') q.ord::ownT 75 asgL 3 (sl a') q.asg::restA al::L):=by
  obtain ⟨⟨m,o',a',al⟩,M⟩:=M.exo
  simp only[zc,zn] at M
  obtain ⟨h,M⟩:=M.factO
  exact⟨m,o',a',al,h,M⟩
theorem rec_open {w:World} {L:List Asn} {l1 l2:AL} {i:Int} {br:Nat} {r:Rd} (M:Mem w (restA (l1++(i,br,r)::l2)::L)):∃ h,Mem w (pt br (recL r h) 136::ownT 57 pmL 3 (sl h) r.pays::restA (l1++l2)::L):=by
  obtain ⟨h,M⟩:=(rest_open M).exo
  exact⟨h,M⟩
theorem no_ptrs {al:AL} {i:Int} (h:∀ x∈al,x.1≠i):∀ p∈ptrs al,p.1≠.int .i64 i:=fun p hp=>by
  obtain ⟨x,hx,rfl⟩:=List.mem_map.1 hp
  have:=h x hx
  simpa using this
theorem in_ptrs (l1 l2:AL) (i:Int) (b:Nat) (r:Rd):(Value.int .i64 i,ptr b)∈ptrs (l1++(i,b,r)::l2):=by simp[ptrs]
theorem new_spec:Spec 39 [] [] fun u L'=>∃ lb,u=ptr lb∧L'=[logA lb ⟨[],[],0,0,[]⟩]:=by
  (intro G w M;refine sx_enter (vs:=[]) Tryz.func39 (n:=5) rfl rfl rfl rfl ?_;intro a F;(try simp only[zc,zn] at M))
  (try refine zI zk39 F M ?_;clear F M a;try clear w);(repeat'(first|refine zA ?_;repeat intro b|refine zC ?_;refine ac_makeMap rfl inferInstance ?_;intro b0|refine zB ?_ ?_<;>intro hc<;>try exact no hc|refine zH ?_ ?_<;>(intro hg;rw[hg];try exact no hg)));all_goals try refine zO fun a w F M=>?_
  all_goals(first|(refine svEnd F M ?_)|(refine svRet F M ?_))
  refine⟨_,_,rfl,⟨b,rfl,rfl⟩,?_⟩
  replace M:=rest_nil ((M.own_nil 3 1).own_nil 75 3)
  refine log_close (m:=b0) (o':=⟨none,0,0⟩) (a':=⟨none,0,0⟩) (n:=0) (ep:=0) (ord:=[]) (asg:=[]) (al:=[]) ?_ rfl
  exact M.perms permsA
def exOf (q:HS) (i:Int):Ex:=if (getR i q.recs).rd=true then (getR i q.recs).ex else ⟨0,0,0,0,0,0,0⟩
theorem hexit_spec (lb:Nat) (q:HS) (i:Int) (hi:I64 i):Keeps 14 [ptr lb,.int .i64 i] (.tuple [.agg (exL (exOf q i)).toArray,.bool (getR i q.recs).rd].toArray) [logA lb q]:=by
  intro G w M
  obtain ⟨m,o',a',al,hal,M⟩:=log_open M
  refine sx_enter (vs:=([ptr lb,.int .i64 i]:List Value)) Tryz.func14 (n:=42) rfl rfl rfl rfl ?_
  intro a F
  have hE:logA lb q=logA lb ⟨abs al,q.ord,q.n,q.ep,q.asg⟩:=by rw[hal]
  rcases abs_split i al with⟨l1,br,l2,h1,h2⟩|⟨h1,h2,h3⟩
  · obtain ⟨r,hr⟩:∃ r,getR i (abs al)=r:=⟨_,rfl⟩
    rw[hr] at h1
    have hin:(Value.int .i64 i,ptr br)∈ptrs al:=by rw[h1];exact in_ptrs _ _ _ _ _
    have M:=M.perms (permsA:Perms _ (restA al::pt lb [.map (some m),sl o',.int .i64 q.n,.int .i64 q.ep,sl a'] 134::mp m 3 (ptrs al)::ownT 3 intL 1 (sl o') q.ord::ownT 75 asgL 3 (sl a') q.asg::G))
    rw[show restA al=restA (l1++(i,br,r)::l2) by rw[← h1]] at M
    obtain ⟨h,M⟩:=rec_open M
    (try refine zI zk14 F M ?_;clear F M a;try clear w);(repeat'(first|refine zA ?_;repeat intro b|refine zV (h:=⟨_,by(first|(apply rt_hit1;(exact rfl);(exact rfl);(exact rfl);(exact inferInstance);(exact gives_mp pullA);(exact intKey hi);(assumption))|(apply rt_miss1;(exact rfl);(exact rfl);(exact rfl);(exact inferInstance);(exact gives_mp pullA);(exact intKey hi);(assumption);(exact inferInstance))),?_⟩)|refine zB ?_ ?_<;>intro hc<;>try exact no hc|refine zH ?_ ?_<;>(intro hg;rw[hg];try exact no hg)));all_goals try refine zO fun a w F M=>?_
    all_goals(first|(refine svEnd F M ?_)|(refine svRet F M ?_))
    all_goals(refine⟨_,_,rfl,⟨?_,rfl⟩,?_⟩)
    all_goals first
      | (have M:=rec_close (l1:=l1) (l2:=l2) (i:=i) (br:=br) (r:=r) (h:=h) (M.perms permsA)
         rw[← h1] at M
         exact log_close (M.perms permsA) (by rw[hal]))
      | (rw[exOf,← hal,hr,if_pos (by assumption),show r.rd=true by assumption];rfl)
      | (rw[exOf,← hal,hr,if_neg (by simp only[Bool.not_eq_true];assumption),show r.rd=false by assumption];rfl)
  · have hno:=no_ptrs h1
    (try refine zI zk14 F M ?_;clear F M a;try clear w);(repeat'(first|refine zA ?_;repeat intro b|refine zV (h:=⟨_,by(first|(apply rt_hit1;(exact rfl);(exact rfl);(exact rfl);(exact inferInstance);(exact gives_mp pullA);(exact intKey hi);(assumption))|(apply rt_miss1;(exact rfl);(exact rfl);(exact rfl);(exact inferInstance);(exact gives_mp pullA);(exact intKey hi);(assumption);(exact inferInstance))),?_⟩)|refine zB ?_ ?_<;>intro hc<;>try exact no hc|refine zH ?_ ?_<;>(intro hg;rw[hg];try exact no hg)));all_goals try refine zO fun a w F M=>?_
    all_goals(first|(refine svEnd F M ?_)|(refine svRet F M ?_))
    refine⟨_,_,rfl,⟨?_,rfl⟩,log_close (M.perms permsA) (by rw[hal])⟩
    rw[exOf,← hal,h2];rfl
end
section
open Go.RowKit
section
variable (y1 y2:Val) (c:Cfg) (R:List Asn)
end
section
variable (V:List Val) (v:Value) (R:List Asn) (hg:GS R 7 v V.length (V.flatMap valL)) (hl:V.length≤1000000)
include hg hl
end
theorem parV_u64 (c:Cfg) (hc:CfOk c) (Z:List Val × List Pm) (hZ:∀ v∈Z.1,U64 v.bal) (r:Nat × Int) (hr:0≤r.2):∀ v∈(parV c Z r).1,U64 v.bal:=by
 unfold parV
 cases h:Z.1[r.1]? with
 | none=>exact hZ
 | some v =>
  intro x hx
  have hv:=hZ v (List.mem_of_getElem? h)
  have ha:=avail_le c hc v hv
  have v1:=hv.1;have v2:=hv.2
  rcases List.mem_or_eq_of_mem_set hx with hx|rfl
  ·exact hZ x hx
  ·exact⟨by simp only;omega,by simp only;omega⟩
section
variable (V:List Val) (v:Value) (R:List Asn) (hg:GS R 7 v V.length (V.flatMap valL)) (hl:V.length≤4096)
include hg hl
end
end
section
open Go.RowKit
section
variable {o:Oper} {n:Nat} {l:List (Nat × Value)} {L:List Asn}
end
structure RH where
 ld:Nat
 ln:Nat
 mt:Nat
 hV:SlH
 hP:SlH
 hM:SlH
 hQ:SlH
end
section
open Go.RowKit
structure Fit (c:Cfg) (n:Nat):Prop where
 ck:checkF c=0
 ca:c.capacity≤100
 vi:c.visits≤200
 py:c.payments≤200
 me:c.merges≤200
 qs:c.queueSize≤200
 n:n≤400
section
variable (c:Cfg) (v:Value) (l:List Opn) (R:List Asn) (hg:GS R 4 v l.length (l.flatMap opL))
include hg
theorem fits_yes (h:Fit c l.length):Spec 8 [cfgV c,v] R fun u L'=>u=.int .i64 1∧L'=R:=by
 obtain ⟨h1,h2,h3,h4,h5,h6,h7⟩:=h
 have hck:=fun R=>rcheck_spec c R
 rw[h1] at hck
 refine zGo Tryz.func8 ?_;intro G w M a F
 have hG:GS (R++G) 4 v l.length (l.flatMap opL):=Gives.app hg
 (try refine zI zk8 F M ?_;clear F M a;try clear w);(repeat'(first|refine zA ?_;repeat intro nb|refine zC ?_;refine kpW (k:=34) (hck _) ?_|refine zB ?_ ?_<;>intro hc<;>try exact no hc|refine zH ?_ ?_<;>(intro hg;rw[hg];try exact no hg)));all_goals try refine zO fun a w F M=>?_
 all_goals refine zE F M ?_
 exact⟨_,_,rfl,⟨rfl,rfl⟩,M.perms permsA⟩
theorem fits_no (h:¬Fit c l.length):Spec 8 [cfgV c,v] R fun u L'=>u=.int .i64 0∧L'=R:=by
 have hck:=fun R=>rcheck_spec c R
 obtain ⟨x,hx⟩:∃ x:Int,(checkF c:Int)=x:=⟨_,rfl⟩
 simp only[hx] at hck
 refine zGo Tryz.func8 ?_;intro G w M a F
 have hG:GS (R++G) 4 v l.length (l.flatMap opL):=Gives.app hg
 (try refine zI zk8 F M ?_;clear F M a;try clear w);(repeat'(first|refine zA ?_;repeat intro nb|refine zC ?_;refine kpW (k:=34) (hck _) ?_|refine zB ?_ ?_<;>intro hc<;>try exact no hc|refine zH ?_ ?_<;>(intro hg;rw[hg];try exact no hg)));all_goals try refine zO fun a w F M=>?_
 all_goals first
  | (refine zE F M ?_;exact⟨_,_,rfl,⟨rfl,rfl⟩,M.perms permsA⟩)
  | (exfalso;apply h;simp only[decide_eq_false_iff_not] at *;exact⟨by omega,by omega,by omega,by omega,by omega,by omega,by omega⟩)
  | trace_state
end
end
section
open Go.RowKit
theorem parV_len (c:Cfg) (Z:List Val × List Pm) (r:Nat × Int):(parV c Z r).1.length=Z.1.length:=by
 unfold parV
 split
 ·rfl
 ·simp
theorem pars_fl (c:Cfg):∀ (q:List (Nat × Int)) (Z:List Val × List Pm),(∀ p∈Z.2,p.fl=false∧∃ i:Nat,p.ix=i∧i<Z.1.length)→∀ p∈(q.foldl (parV c) Z).2,p.fl=false∧∃ i:Nat,p.ix=i∧i<(q.foldl (parV c) Z).1.length
 | [],Z,h=>h
 | r::q,Z,h=>by
  rw[List.foldl_cons]
  apply pars_fl c q
  rw[parV_len]
  intro p hp
  unfold parV at hp
  cases hv:Z.1[r.1]? with
  | none=>rw[hv] at hp;exact h p hp
  | some v =>
   rw[hv] at hp
   simp only at hp
   split at hp
   ·rcases List.mem_append.1 hp with hp|hp
    ·exact h p hp
    ·simp only[List.mem_cons,List.not_mem_nil,or_false] at hp
     subst hp
     exact⟨rfl,r.1,rfl,(List.getElem?_eq_some_iff.1 hv).1⟩
   ·exact h p hp
structure BgOk (c:Cfg) (s2:St) (r:Rc):Prop where
 vi:0≤r.vi∧r.vi≤c.visits
 np:(r.pms.length:Int)≤c.payments
 pm:∀ p∈r.pms,∃ (i:Nat) (v:Val),p.ix=i∧s2.V[i]? = some v∧(p.fl=true→v.st=6∧v.bal=0)∧(p.fl=false→v.st=2→c.minBalance≤v.bal)
theorem pay_bg {c:Cfg} (hc:CfOk c) {s:St} (h:Inv c s):((payM c s).vi:Int)≤c.visits∧((payM c s).pm.length:Int)≤c.payments∧∀ p∈(payM c s).pm,∃ (i:Nat) (v:Val),p.ix=i∧(payM c s).s.V[i]? = some v∧(p.fl=true→v.st=6∧v.bal=0)∧(p.fl=false→v.st=2→c.minBalance≤v.bal):=by
 obtain ⟨hI,l,hP⟩:=payM_inv hc h
 have hv1:=hP.vi;have hv2:=hP.np
 have hvi:=hc.vi;have hpy:=hc.py
 refine⟨by omega,by omega,fun p hp=>?_⟩
 rw[hP.pm] at hp
 rcases List.mem_append.1 hp with hp|hp
 ·obtain ⟨h1,i,h2,h3⟩:=pars_fl c _ (s.V,[]) (by simp) p hp
  have hl:i<(payM c s).s.V.length:=by rw[hP.V,mods_len];exact h3
  refine⟨i,(payM c s).s.V[i],h2,by rw[List.getElem?_eq_getElem hl],fun ht=>(Bool.noConfusion (h1.symm.trans ht)),fun _ h2=>(hI.val i _ (List.getElem?_eq_getElem hl)).mb (.inr h2)⟩
 ·obtain ⟨i,hi,rfl⟩:=List.mem_map.1 hp
  obtain ⟨v,hv,hs⟩:=hP.st i hi
  exact⟨i,payV v,rfl,by rw[hP.V,mods_get _ _ _ _ hP.nd,if_pos hi,hv];rfl,fun _=>⟨rfl,rfl⟩,fun hf=>(Bool.noConfusion hf)⟩
theorem step_bg {c:Cfg} (hc:CfOk c) {s:St} (h:Inv c s) (hb:s.bk<1000000000) (o:Opn):BgOk c (stepM c s o).2 (stepM c s o).1∧(o.k≠7→(stepM c s o).1.vi=0∧(stepM c s o).1.asg=[]∧(stepM c s o).1.pms=[]):=by
 have hvi:=hc.vi;have hpy:=hc.py
 unfold stepM
 by_cases h7:o.k=7
 ·rw[if_pos h7]
  refine⟨?_,fun h=>absurd h7 h⟩
  have key:∀ B:Bd,Inv c B.s→BgOk c (payM c B.s).s ⟨7,0,-1,s.bk+1,epo c {s with bk:=s.bk+1},-1,(payM c B.s).vi,B.ag,(payM c B.s).pm⟩:=fun B hB=>by
   obtain ⟨k1,k2,k3⟩:=pay_bg hc hB
   exact⟨⟨by simp only;omega,k1⟩,k2,k3⟩
  unfold tickM
  by_cases hz:((s.bk+1:Nat):Int) % c.epochLen=0
  ·simp only[if_pos hz]
   exact key _ (boundM_inv hc h hb hz)
  ·simp only[if_neg hz]
   exact key ⟨[],{s with bk:=s.bk+1}⟩ (Inv.same hc h hb hz)
 ·rw[if_neg h7]
  exact⟨⟨⟨by simp only;omega,by simp only;omega⟩,by simp only[List.length_nil];omega,fun p hp=>by simp at hp⟩,fun _=>⟨rfl,rfl,rfl⟩⟩
end
section
open Go.RowKit
theorem opM_rej (c:Cfg) (s:St) (o:Opn) (h:(opM c s o).c≠0):(opM c s o).s=s:=by
 revert h
 unfold opM opDep opLeave opSlash opMerge opPart no'
 repeat'(first|(intro h;rfl)|(intro h;exact absurd rfl h)|split|dsimp only)
theorem step_rej {c:Cfg} {s:St} {o:Opn} (h:(stepM c s o).1.c≠0):(stepM c s o).2=s∧(stepM c s o).1.ix = -1∧(stepM c s o).1.dl = -1∧(stepM c s o).1.asg=[]∧(stepM c s o).1.pms=[]:=by
 unfold stepM at h ⊢
 by_cases h7:o.k=7
 ·rw[if_pos h7] at h;exact absurd rfl h
 ·rw[if_neg h7] at h ⊢
  obtain ⟨h1,h2⟩:=opM_no c s o h
  exact⟨opM_rej c s o h,h1,h2,rfl,rfl⟩
end
section
open Go.RowKit
def engB (b:Nat) (c:Cfg) (s:St):Asn:=exA fun H:EH=>engL b H c s []
def snA (s:St) (h1 h2 h3 h4 h5 h6:SlH):Asn:=exA fun _:Unit=>[ownT 62 valL 7 (sl h1) s.V,ownT 3 natL 1 (sl h2) s.pe,ownT 3 natL 1 (sl h3) s.fo,ownT 3 natL 1 (sl h4) s.vo,ownT 77 prL 2 (sl h5) s.me,ownT 79 rqL 2 (sl h6) s.pa]
theorem Spec.conv {α:Type} {k:FuncId} {us:List Value} {L:List Asn} {C:Value→List Asn→Prop} {L1:α→List Asn} {D:α→Value→List Asn→Prop} (hs:∀ x,Spec k us (L1 x) (D x)) (hp:∀ G w,Mem w (L++G)→∃ x,Mem w (L1 x++G)) (hc:∀ x v L',D x v L'→∃ L2,C v L2∧∀ G w,Mem w (L'++G)→Mem w (L2++G)):Spec k us L C:=fun G w M=>by
 obtain ⟨x,M1⟩:=hp G w M
 exact(hs x G w M1).mono fun e w' ⟨v,L',he,hd,hm⟩=>by
  obtain ⟨L2,h1,h2⟩:=hc x v L' hd
  exact⟨v,L2,he,h1,h2 G w' hm⟩
section
variable (b:Nat) (c:Cfg) (s:St) (R:List Asn)
theorem newB (hc:CfOk c) (hk:checkF c=0):Spec 24 [cfgV c] R fun u L'=>∃ b,u=.tuple [ptr b,.int .i64 0].toArray∧L'=engB b c St.ini::R :=
 Spec.conv (α:=Unit) (fun _=>eng_new c hc hk R) (fun G w M=>⟨(),M⟩) fun _ v L' ⟨b,H,e,e2⟩=>⟨_,⟨b,e,rfl⟩,fun G w M=>by subst e2;exact Mem.exc (f:=fun H:EH=>engL b H c St.ini []) H M⟩
theorem snapB (hc:CfOk c) (hi:Inv c s):Spec 13 [ptr b] (engB b c s::R) fun u L'=>∃ h1 h2 h3 h4 h5 h6,u=snV (snOf c s h1 h2 h3 h4 h5 h6)∧L'=snA s h1 h2 h3 h4 h5 h6::engB b c s::R :=
 Spec.conv (fun H=>snap_spec b H c s hc hi R) (fun G w M=>Mem.exo (f:=fun H:EH=>engL b H c s []) M) fun H v L' ⟨h1,h2,h3,h4,h5,h6,e,e2⟩=>⟨_,⟨h1,h2,h3,h4,h5,h6,e,rfl⟩,fun G w M=>by
  subst e2
  have M2:Mem w (engL b H c s []++(ownT 62 valL 7 (sl h1) s.V::ownT 3 natL 1 (sl h2) s.pe::ownT 3 natL 1 (sl h3) s.fo::ownT 3 natL 1 (sl h4) s.vo::ownT 77 prL 2 (sl h5) s.me::ownT 79 rqL 2 (sl h6) s.pa::(R++G))):=M.perms permsA
  have M3:=(Mem.exc (f:=fun H:EH=>engL b H c s []) H M2).perms (permsA:Perms _ ([ownT 62 valL 7 (sl h1) s.V,ownT 3 natL 1 (sl h2) s.pe,ownT 3 natL 1 (sl h3) s.fo,ownT 3 natL 1 (sl h4) s.vo,ownT 77 prL 2 (sl h5) s.me,ownT 79 rqL 2 (sl h6) s.pa]++(engB b c s::(R++G))))
  exact Mem.exc (f:=fun _:Unit=>[ownT 62 valL 7 (sl h1) s.V,ownT 3 natL 1 (sl h2) s.pe,ownT 3 natL 1 (sl h3) s.fo,ownT 3 natL 1 (sl h4) s.vo,ownT 77 prL 2 (sl h5) s.me,ownT 79 rqL 2 (sl h6) s.pa]) () M3⟩
end
end
section
open Go.RowKit
section
variable (b:Nat) (z:RH) (c:Cfg) (s:St) (hc:CfOk c) (hi:Inv c s) (R:List Asn)
include hc hi
end
section
variable (b:Nat) (c:Cfg) (s:St) (hc:CfOk c) (R:List Asn)
include hc
theorem applyB (hi:Inv c s) (hb:s.bk<1000000000) (o:Opn) (hk:I64 o.k) (ho:U64 o.am):Spec 26 [ptr b,opV o] (engB b c s::R) fun u L'=>∃ ha hp,u=rcV (stepM c s o).1 ha hp∧L'=ownT 75 asgL 3 (sl ha) (stepM c s o).1.asg::ownT 57 pmL 3 (sl hp) (stepM c s o).1.pms::engB b c (stepM c s o).2::R :=
 Spec.conv (fun H=>apply_spec b H c s R hc hi hb o hk ho) (fun G w M=>Mem.exo (f:=fun H:EH=>engL b H c s []) M) fun H v L' ⟨ha,hp,H',e,e2⟩=>⟨_,⟨ha,hp,e,rfl⟩,fun G w M=>by
  subst e2
  have M2:Mem w (engL b H' c (stepM c s o).2 []++(ownT 75 asgL 3 (sl ha) (stepM c s o).1.asg::ownT 57 pmL 3 (sl hp) (stepM c s o).1.pms::(R++G))):=M.perms permsA
  exact(Mem.exc (f:=fun H:EH=>engL b H c (stepM c s o).2 []) H' M2).perms permsA⟩
end
end
section
open Go.RowKit
abbrev runV (eb lb:Nat):Value:=.agg [ptr eb,ptr lb].toArray
def hs0:HS:=⟨[],[],0,0,[]⟩
section
variable (c:Cfg) (hc:CfOk c) (R:List Asn)
include hc in
theorem tbegin_spec (hk:checkF c=0):Spec 10 [cfgV c] R fun u L'=>∃ eb lb,u=.tuple [runV eb lb,.bool true].toArray∧L'=engB eb c St.ini::logA lb hs0::R:=by
 have hnw:=fun R=>newB c R hc hk
 have hnl:∀ R,Spec 39 [] R fun u L'=>∃ lb,u=ptr lb∧L'=logA lb hs0::R:=fun R G w M=>by
  refine(new_spec (R++G) w M).mono ?_
  rintro e w' ⟨v,L',rfl,⟨lb,rfl,rfl⟩,M2⟩
  exact⟨_,_,rfl,⟨lb,rfl,rfl⟩,M2⟩
 refine zGz zk10 Tryz.func10 ?_;intro G;(repeat'(first|refine zA ?_;repeat intro nb|refine zC ?_;(first|refine acW (k:=24) (hnw _) ?_;rintro u L' ⟨eb,rfl,rfl⟩|refine acW (k:=39) (hnl _) ?_;rintro u L' ⟨lb,rfl,rfl⟩)|refine zB ?_ ?_<;>intro hc<;>try exact no hc|refine zH ?_ ?_<;>(intro hg;rw[hg];try exact no hg)));all_goals try refine zO fun a w F M=>?_
 all_goals refine zE F M ?_
 all_goals exact⟨_,_,rfl,⟨eb,lb,rfl,rfl⟩,M.perms permsA⟩
include hc in
theorem tdo_spec (eb lb:Nat) (s:St) (q:HS) (hi:Inv c s) (hb:s.bk<1000000000) (o:Opn) (hk:I64 o.k) (ho:U64 o.am) (hw:(stepM c s o).1.wf) (hn:0≤q.n∧q.n≤1000000) (hl:q.le 4000000) (h60:(stepM c s o).1.asg.length≤4096∧(stepM c s o).1.pms.length≤4096) :
  Spec 12 [runV eb lb,opV o] (engB eb c s::logA lb q::R) fun u L'=>∃ ha hp,u=rcV (stepM c s o).1 ha hp∧L'=ownT 75 asgL 3 (sl ha) (stepM c s o).1.asg::ownT 57 pmL 3 (sl hp) (stepM c s o).1.pms::engB eb c (stepM c s o).2::logA lb (hAdd o.k (stepM c s o).1 q)::R:=by
 have hap:=fun R=>applyB eb c s hc R hi hb o hk ho
 have had:=fun (sa pa:SlH) R hg=>add_spec lb q o (stepM c s o).1 sa pa R hw hg hn hl h60
 clear hw h60
 generalize stepM c s o=Y at *
 obtain ⟨⟨y1,y2,y3,y4,y5,y6,y7,y8,y9⟩,s2⟩:=Y
 obtain ⟨ok,oi,ot,oa⟩:=o
 simp only at hap had
 refine zGz zk12 Tryz.func12 ?_;intro G;(repeat'(first|refine zA ?_;repeat intro nb|refine zC ?_;(first|refine acK (L1:=engB eb c s::_) (k:=26) (hap _) ?_;rintro u L' ⟨ha,hp,rfl,rfl⟩|refine acK (L1:=logA lb q::_) (k:=40) (had ha hp _ ?_) ?_;exact⟨gsA,gsA⟩;rintro u L' ⟨rfl,rfl⟩)|refine zB ?_ ?_<;>intro hc<;>try exact no hc|refine zH ?_ ?_<;>(intro hg;rw[hg];try exact no hg)));all_goals try refine zO fun a w F M=>?_
 all_goals refine zE F M ?_
 all_goals exact⟨_,_,rfl,⟨ha,hp,rfl,rfl⟩,M.perms permsA⟩
end
end
section
open Go.RowKit
theorem parsV_u64 (c:Cfg) (hcf:CfOk c):∀ (q:List (Nat × Int)) (Z:List Val × List Pm),(∀ v∈Z.1,U64 v.bal)→(∀ p∈Z.2,0≤p.am)→(∀ r∈q,0≤r.2)→(∀ v∈(q.foldl (parV c) Z).1,U64 v.bal)∧∀ p∈(q.foldl (parV c) Z).2,0≤p.am
 | [],Z,h,hp,_=>⟨h,hp⟩
 | r::q,Z,h,hp,hr=>by
  rw[List.foldl_cons]
  refine parsV_u64 c hcf q _ (parV_u64 c hcf Z h r (hr r (by simp))) ?_ fun x hx=>hr x (by simp[hx])
  unfold parV
  cases hv:Z.1[r.1]? with
  | none=>exact hp
  | some v =>
   simp only
   split
   ·intro p hp2
    rcases List.mem_append.1 hp2 with hp2|hp2
    ·exact hp p hp2
    ·simp only[List.mem_cons,List.not_mem_nil,or_false] at hp2
     subst hp2
     simp only;omega
   ·exact hp
theorem opM_pd (c:Cfg) (s:St) (o:Opn):(opM c s o).s.pd=s.pd∧(opM c s o).s.dep=s.dep+(if o.k=1∧(opM c s o).c=0 then o.am else 0):=by
 unfold opM
 by_cases h1:o.k=1
 ·simp only[h1,if_true,true_and]
  unfold opDep no'
  repeat' split
  all_goals first|exact⟨rfl,rfl⟩|(refine⟨rfl,?_⟩;simp;done)|(simp_all;done)|skip
 ·simp only[h1,if_false,false_and,Int.add_zero]
  unfold opLeave opSlash opMerge opPart no'
  repeat'(first|exact⟨rfl,rfl⟩|split|dsimp only)
structure CsOk (s:St) (o:Opn) (s2:St) (r:Rc):Prop where
 pd:s2.pd=s.pd+(r.pms.map (·.am)).sum
 am:∀ p∈r.pms,0≤p.am
 dep:s2.dep=s.dep+(if o.k=1∧r.c=0 then o.am else 0)
 np:r.pms.length≤4096
theorem step_cs {c:Cfg} (hcf:CfOk c) {s:St} (h:Inv c s) (hb:s.bk<1000000000) (o:Opn):CsOk s o (stepM c s o).2 (stepM c s o).1:=by
 have hpy:=hcf.py
 unfold stepM
 by_cases h7:o.k=7
 ·rw[if_pos h7]
  have key:∀ B:Bd,Inv c B.s→B.s.pd=s.pd→B.s.dep=s.dep→CsOk s o (payM c B.s).s ⟨7,0,-1,s.bk+1,epo c {s with bk:=s.bk+1},-1,(payM c B.s).vi,B.ag,(payM c B.s).pm⟩:=fun B hB e1 e2=>by
   obtain ⟨hI,l,hP⟩:=payM_inv hcf hB
   have hnp:=hP.np
   have hU:∀ v∈B.s.V,U64 v.bal:=fun v hv=>by
    have hm:v.bal∈bals B.s.V:=List.mem_map.2 ⟨v,hv,rfl⟩
    have h1:=sum_mem_le _ hB.bal0 _ hm
    have h2:=hB.sup;have h3:=hcf.sc
    exact⟨hB.bal0 _ hm,by omega⟩
   obtain ⟨z1,z2⟩:=parsV_u64 c hcf (B.s.pa.take c.partials.toNat) (B.s.V,[]) hU (by simp) fun r hr=>by have:=hB.pa r (List.mem_of_mem_take hr);omega
   refine⟨?_,?_,?_,by simp only;omega⟩
   ·show(payM c B.s).s.pd=s.pd+((payM c B.s).pm.map (·.am)).sum
    rw[← e1];rfl
   ·simp only
    intro p hp
    rw[hP.pm] at hp
    rcases List.mem_append.1 hp with hp|hp
    ·exact z2 p hp
    ·obtain ⟨i,hi,rfl⟩:=List.mem_map.1 hp
     obtain ⟨v,hv,_⟩:=hP.st i hi
     simp only
     rw[getD_some hv]
     exact(z1 v (List.mem_of_getElem? hv)).1
   ·rw[if_neg (by rintro⟨h1,_⟩;omega),Int.add_zero]
    show(payM c B.s).s.dep=s.dep
    rw[← e2];rfl
  unfold tickM
  by_cases hz:((s.bk+1:Nat):Int) % c.epochLen=0
  ·simp only[if_pos hz]
   exact key _ (boundM_inv hcf h hb hz) rfl rfl
  ·simp only[if_neg hz]
   exact key ⟨[],{s with bk:=s.bk+1}⟩ (Inv.same hcf h hb hz) rfl rfl
 ·rw[if_neg h7]
  obtain ⟨h1,h2⟩:=opM_pd c s o
  exact⟨by simp only[List.map_nil,List.sum_nil,Int.add_zero];exact h1,by simp,h2,by simp⟩
end
section
open Go.RowKit
structure VR (c:Cfg) (v:Val) (r:Rd):Prop where
 rd:r.rd=decide (3≤v.st∧v.st≤6)
 asd:r.asd=decide (v.ex≠-1)
 sld:r.sld=v.sl
 fu:r.fu=decide (v.st=6)
 rq:r.rd=true→r.ex.rq=v.rq
 asg:r.ex.asg=v.ex
 sl0:v.sl=false→r.ex.sl = -1
 sl1:v.sl=true→0≤r.ex.sl∧r.ex.sl+c.slashDelay≤v.wd
 fu0:v.st≠6→r.ex.pd = -1∧∀ p∈r.pays,p.fl=false
 fu1:v.st=6→v.wd≤r.ex.pd
 fu2:v.st=6→(r.pays.filter (·.fl)).length=1
 wd:v.sl=false→v.wd=if v.ex = -1 then -1 else v.ex+c.unbonding
theorem VR.new (c:Cfg) (x:Int):VR c (newV x) r0:=by
 constructor<;>simp[newV,r0]
theorem VR.same {c:Cfg} {v v':Val} {r:Rd} (h:VR c v r) (e1:v'.ex=v.ex) (e2:v'.sl=v.sl) (e3:v'.rq=v.rq) (e4:v'.wd=v.wd) (e5:(3≤v'.st∧v'.st≤6)↔(3≤v.st∧v.st≤6)) (e6:v'.st=6↔v.st=6):VR c v' r :=
 ⟨by rw[h.rd];exact decide_eq_decide.2 e5.symm,by rw[e1];exact h.asd,by rw[e2];exact h.sld,by rw[h.fu];exact decide_eq_decide.2 e6.symm,by rw[e3];exact h.rq,by rw[e1];exact h.asg,by rw[e2];exact h.sl0,by rw[e2,e4];exact h.sl1,fun k=>h.fu0 fun k2=>k (e6.2 k2),fun k=>by rw[e4];exact h.fu1 (e6.1 k),fun k=>h.fu2 (e6.1 k),by rw[e2,e1,e4];exact h.wd⟩
def JI (c:Cfg) (o:Option Val) (r:Rd):Prop:=match o with
 | none=>r=r0
 | some v=>VR c v r
def JV (c:Cfg) (V:List Val) (q:HS):Prop:=∀ i:Nat,JI c V[i]? (getR i q.recs)
theorem JV.of {c:Cfg} {V:List Val} {q:HS} (h:JV c V q) {i:Nat} {v:Val} (hv:V[i]? = some v):VR c v (getR i q.recs):=by
 have:=h i
 rw[hv] at this
 exact this
theorem JV.ini (c:Cfg):JV c [] ⟨[],[],0,0,[]⟩:=fun i=>by simp[JI,getR]
theorem JV.upd {c:Cfg} {V V':List Val} {q q':HS} (h:JV c V q) (i:Nat) {v v':Val} {r':Rd} (hv:V[i]? = some v) (hV:∀ j:Nat,V'[j]? = if j=i then some v' else V[j]?) (hq:∀ j:Nat,getR j q'.recs=if j=i then r' else getR j q.recs) (hr:VR c v (getR i q.recs)→VR c v' r'):JV c V' q':=fun j=>by
 rw[hV,hq]
 by_cases hj:j=i
 ·simp only[hj,if_true];exact hr (h.of hv)
 ·simp only[hj,if_false];exact h j
theorem JV.still {c:Cfg} {V V':List Val} {q:HS} (h:JV c V q) (hl:V'.length=V.length) (hs:∀ (i:Nat) v,V[i]? = some v→∃ v',V'[i]? = some v'∧v'.ex=v.ex∧v'.sl=v.sl∧v'.rq=v.rq∧v'.wd=v.wd∧((3≤v'.st∧v'.st≤6)↔(3≤v.st∧v.st≤6))∧(v'.st=6↔v.st=6)):JV c V' q:=fun i=>by
 have hi:=h i
 cases hv:V[i]? with
 | none =>
  have:V'[i]? = none:=by rw[List.getElem?_eq_none_iff] at hv ⊢;omega
  rw[hv] at hi
  rw[this];exact hi
 | some v =>
  obtain ⟨v',hv',e1,e2,e3,e4,e5,e6⟩:=hs i v hv
  rw[hv] at hi
  rw[hv'];exact VR.same hi e1 e2 e3 e4 e5 e6
theorem set_get {V:List Val} {i:Nat} {v v':Val} (hv:V[i]? = some v) (j:Nat):(V.set i v')[j]? = if j=i then some v' else V[j]?:=by
 obtain ⟨hl,_⟩:=List.getElem?_eq_some_iff.1 hv
 rw[List.getElem?_set]
 by_cases h:i=j
 ·subst h;simp[hl]
 ·rw[if_neg h,if_neg (Ne.symm h)]
theorem mod_get {V:List Val} {i:Nat} {v:Val} (f:Val→Val) (hv:V[i]? = some v) (j:Nat):(V.modify i f)[j]? = if j=i then some (f v) else V[j]?:=by
 rw[modify_eq_set f hv,set_get hv]
theorem getR_setN (i j:Nat) (r:Rd) (l:List (Int × Rd)):getR (j:Int) (setR (i:Int) r l)=if j=i then r else getR j l:=by
 rw[getR_set]
 by_cases h:j=i
 ·subst h;simp
 ·rw[if_neg h,if_neg (by omega)]
theorem VR.asgn {c:Cfg} (hc:CfOk c) {v:Val} {r:Rd} {e cl:Int} {i:Int} (he:0≤e) (h:VR c v r) (hw:wait' v):VR c (setAsg c e v) (hAsg ⟨i,cl,e⟩ r):=by
 obtain ⟨h1,h2⟩:=hw
 have hun:=hc.un
 have a1:=h.rd;have a2:=h.asd
 have b1:r.rd=true:=by rw[a1,h1];rfl
 have b2:r.asd=false:=by rw[a2,h2];rfl
 have b3:hAsg ⟨i,cl,e⟩ r={r with asd:=true,ex:={r.ex with asg:=e}}:=by unfold hAsg;rw[if_pos ⟨b1,b2⟩]
 have h4:=h.sl0;have h5:=h.sl1;have h6:=h.fu0 (by omega);have h7:=h.wd
 rw[if_pos h2] at h7
 have hm:=Int.le_max_left v.wd (e+c.unbonding)
 rw[b3]
 unfold setAsg
 refine⟨a1,?_,h.sld,h.fu,h.rq,rfl,h4,fun k=>?_,fun _=>h6,fun k=>?_,h.fu2,fun k=>?_⟩
 ·simp only;rw[eq_comm,decide_eq_true_eq];omega
 ·have:=h5 k
  simp only;omega
 ·simp only at k;omega
 ·have:=h7 k
  simp only
  rw[if_neg (by omega)];omega
theorem JV.foldA {c:Cfg} (hc:CfOk c) {e:Int} (he:0≤e):∀ (l:List Asg) (ix:List Nat) {V:List Val} {q:HS},l.map (·.ix)=ix.map (fun i:Nat=>(i:Int))→(∀ y∈l,y.ep=e)→ix.Nodup→(∀ i∈ix,∃ v,V[i]? = some v∧wait' v)→JV c V q→JV c (mods (setAsg c e) V ix) (l.foldl addA q)
 | [],[],V,q,_,_,_,_,h=>h
 | [],_::_,V,q,k,_,_,_,h=>by simp at k
 | _::_,[],V,q,k,_,_,_,h=>by simp at k
 | ⟨yi,yc,ye⟩::l,i::ix,V,q,k,ke,kn,kw,h=>by
  simp only[List.map_cons,List.cons.injEq] at k
  obtain ⟨rfl,k⟩:=k
  have hye:ye=e:=ke ⟨i,yc,ye⟩ (by simp)
  subst hye
  obtain ⟨v,hv,hw⟩:=kw i (by simp)
  obtain ⟨n1,n2⟩:=List.nodup_cons.1 kn
  rw[mods_cons,List.foldl_cons]
  refine JV.foldA hc he l ix k (fun y hy=>ke y (by simp[hy])) n2 (fun j hj=>?_) ?_
  ·have hji:j≠i:=fun e=>n1 (e ▸ hj)
   rw[mod_get _ hv,if_neg hji]
   exact kw j (by simp[hj])
  ·refine h.upd i hv (mod_get _ hv) (r':=hAsg ⟨i,yc,ye⟩ (getR i q.recs)) (fun j=>?_) fun hr=>hr.asgn hc he hw
   exact getR_setN i j _ _
theorem VR.pay0 {c:Cfg} {v:Val} {r:Rd} {ep:Int} {p:Pm} (hp:p.fl=false) (h:VR c v r):VR c v (hPayR p ep r):=by
 have e:hPayR p ep r={r with pays:=r.pays++[p]}:=by unfold hPayR;rw[if_neg (by rw[hp];simp)]
 rw[e]
 refine⟨h.rd,h.asd,h.sld,h.fu,h.rq,h.asg,h.sl0,h.sl1,fun k=>⟨(h.fu0 k).1,fun x hx=>?_⟩,h.fu1,fun k=>by
  simp only[List.filter_append,List.length_append,h.fu2 k];simp[hp],h.wd⟩
 rcases List.mem_append.1 hx with hx|hx
 ·exact(h.fu0 k).2 x hx
 ·simp only[List.mem_singleton] at hx;rw[hx];exact hp
theorem JV.foldP0 {c:Cfg} {V:List Val} (ep:Int):∀ (l:List Pm) {q:HS},(∀ p∈l,p.fl=false∧∃ i:Nat,p.ix=i∧i<V.length)→JV c V q→JV c V (l.foldl (addP ep) q)
 | [],q,_,h=>h
 | p::l,q,k,h=>by
  rw[List.foldl_cons]
  refine JV.foldP0 ep l (fun x hx=>k x (by simp[hx])) ?_
  obtain ⟨k1,i,k2,k3⟩:=k p (by simp)
  have hv:V[i]? = some V[i]:=List.getElem?_eq_getElem k3
  refine h.upd i hv (v':=V[i]) (r':=hPayR p ep (getR i q.recs)) (fun j=>?_) (fun j=>?_) fun hr=>hr.pay0 k1
  ·by_cases hj:j=i
   ·rw[if_pos hj,hj,hv]
   ·rw[if_neg hj]
  ·show getR j (setR p.ix _ _)=_
   rw[k2]
   exact getR_setN i j _ _
theorem VR.pay1 {c:Cfg} {v:Val} {r:Rd} {ep am:Int} {i:Int} (h5:v.st=5) (hw:v.wd≤ep) (h:VR c v r):VR c (payV v) (hPayR ⟨i,am,true⟩ ep r):=by
 have b:r.fu=false:=by rw[h.fu,h5];rfl
 have e:hPayR ⟨i,am,true⟩ ep r={r with pays:=r.pays++[⟨i,am,true⟩],fu:=true,ex:={r.ex with pd:=ep,am:=am}}:=by unfold hPayR;rw[if_pos ⟨rfl,b⟩]
 rw[e]
 unfold payV
 refine⟨?_,h.asd,h.sld,rfl,h.rq,h.asg,h.sl0,h.sl1,fun k=>absurd rfl k,fun _=>hw,fun _=>?_,h.wd⟩
 rotate_left
 ·have h0:=(h.fu0 (by omega)).2
  have e0:r.pays.filter (·.fl)=[]:=List.filter_eq_nil_iff.2 fun x hx=>by rw[h0 x hx];simp
  simp only[List.filter_append,e0];rfl
 have:=h.rd
 rw[h5] at this
 exact this
theorem JV.foldP1 {c:Cfg} (ep:Int) (am:Nat→Int):∀ (m:List Nat) {V:List Val} {q:HS},m.Nodup→(∀ i∈m,∃ v,V[i]? = some v∧v.st=5∧v.wd≤ep)→JV c V q→JV c (mods payV V m) ((m.map fun (i:Nat)=>(⟨i,am i,true⟩:Pm)).foldl (addP ep) q)
 | [],V,q,_,_,h=>h
 | i::m,V,q,kn,kw,h=>by
  obtain ⟨v,hv,h5,hw⟩:=kw i (by simp)
  obtain ⟨n1,n2⟩:=List.nodup_cons.1 kn
  rw[mods_cons,List.map_cons,List.foldl_cons]
  refine JV.foldP1 ep am m n2 (fun j hj=>?_) ?_
  ·have hji:j≠i:=fun e=>n1 (e ▸ hj)
   rw[mod_get _ hv,if_neg hji]
   exact kw j (by simp[hj])
  ·refine h.upd i hv (mod_get _ hv) (r':=hPayR ⟨i,am i,true⟩ ep (getR i q.recs)) (fun j=>?_) fun hr=>hr.pay1 h5 hw
   exact getR_setN i j _ _
theorem foldA_recs:∀ (l:List Asg) {q q':HS},q'.recs=q.recs→(l.foldl addA q').recs=(l.foldl addA q).recs
 | [],_,_,h=>h
 | y::l,q,q',h=>foldA_recs l (by simp only[addA,h])
theorem asgs_ix (e:Int) (fo vo:List Nat) (k:Nat):(asgs e fo vo k).map (·.ix)=((fo++vo).take k).map (fun i:Nat=>(i:Int)):=by
 rw[List.take_append,List.map_append,asgs,List.map_append,List.map_map,List.map_map];rfl
theorem asgs_ep (e:Int) (fo vo:List Nat) (k:Nat):∀ y∈asgs e fo vo k,y.ep=e:=fun y hy=>by
 rcases List.mem_append.1 hy with hy|hy<;>(obtain ⟨i,_,rfl⟩:=List.mem_map.1 hy;rfl)
theorem merV_still (c:Cfg) (V:List Val) (p:Nat × Nat):(merV c V p).length=V.length∧∀ (i:Nat) v,V[i]? = some v→∃ v',(merV c V p)[i]? = some v'∧v'.ex=v.ex∧v'.sl=v.sl∧v'.rq=v.rq∧v'.wd=v.wd∧((3≤v'.st∧v'.st≤6)↔(3≤v.st∧v.st≤6))∧(v'.st=6↔v.st=6):=by
 unfold merV
 split
 rotate_left
 ·exact⟨rfl,fun i v hv=>⟨v,hv,rfl,rfl,rfl,rfl,Iff.rfl,Iff.rfl⟩⟩
 rename_i h0
 obtain ⟨a,b,_,_,hij,ha,hb,sa,sb,_⟩:=merR_zero h0
 simp only[Int.toNat_natCast] at ha hb
 refine⟨by simp,fun i v hv=>?_⟩
 rw[List.getElem?_modify,List.getElem?_modify,hv]
 by_cases h1:p.1=i
 ·subst h1
  rw[ha] at hv
  obtain rfl:=Option.some.inj hv
  have h2:¬p.2=p.1:=fun e=>hij (by rw[e])
  simp only[h2,if_false,if_true,Option.map_some,Option.map_id_fun,id]
  exact⟨_,rfl,rfl,rfl,rfl,rfl,by simp only;omega,by simp only;omega⟩
 ·by_cases h2:p.2=i
  ·simp only[h1,h2,if_false,if_true,Option.map_some,Option.map_id_fun,id]
   exact⟨_,rfl,rfl,rfl,rfl,rfl,Iff.rfl,Iff.rfl⟩
  ·simp only[h1,h2,if_false,Option.map_some,Option.map_id_fun,id]
   exact⟨_,rfl,rfl,rfl,rfl,rfl,Iff.rfl,Iff.rfl⟩
theorem JV.mers {c:Cfg} {q:HS}:∀ (l:List (Nat × Nat)) {V:List Val},JV c V q→JV c (l.foldl (merV c) V) q
 | [],V,h=>h
 | p::l,V,h=>JV.mers l (h.still (merV_still c V p).1 (merV_still c V p).2)
theorem mers_ex (c:Cfg):∀ (l:List (Nat × Nat)) (V:List Val) (i:Nat) (v:Val),V[i]? = some v→∃ v',(l.foldl (merV c) V)[i]? = some v'∧v'.ex=v.ex
 | [],V,i,v,h=>⟨v,h,rfl⟩
 | p::l,V,i,v,h=>by
  obtain ⟨v1,h1,e1,_⟩:=(merV_still c V p).2 i v h
  obtain ⟨v2,h2,e2⟩:=mers_ex c l _ i v1 h1
  exact⟨v2,h2,e2.trans e1⟩
theorem bound_parts {c:Cfg} (hc:CfOk c) {s:St} (h:Inv c s) (hb:s.bk<1000000000) (hz:((s.bk+1:Nat):Int) % c.epochLen=0):∃ (e:Int) (V2 V3 V4:List Val) (t n:Nat),e=epo c {s with bk:=s.bk+1}∧1≤e∧V2=s.V.map (gV e)∧V3=mods (setAsg c (e+1)) V2 ((s.fo++s.vo).take t)∧V4=mods actV V3 (s.pe.take n)∧(boundM c {s with bk:=s.bk+1}).s.V=(s.me.take c.merges.toNat).foldl (merV c) V4∧(boundM c {s with bk:=s.bk+1}).ag=asgs (e+1) s.fo s.vo t∧(boundM c {s with bk:=s.bk+1}).s.fo=s.fo.drop t∧(boundM c {s with bk:=s.bk+1}).s.vo=s.vo.drop (t - s.fo.length)∧(∀ (i:Nat) v,s.V[i]? = some v→VOk c (e - 1) v)∧(∀ i∈(s.fo++s.vo).take t,∃ v,V2[i]? = some v∧wait' v)∧(∀ i∈s.pe.take n,∃ v,V3[i]? = some v∧v.st=1)∧t=(takeW (bals s.V) (granted s.ca (churn c V2)) (s.fo++s.vo)).1∧(boundM c {s with bk:=s.bk+1}).s.ca=(if t=(s.fo++s.vo).length then 0 else (takeW (bals s.V) (granted s.ca (churn c V2)) (s.fo++s.vo)).2):=by
 have hep:=epo_next hc hz
 have he0:=epo_range hc (s:=s) (by have:=h.bk;omega)
 have hval:=h.val
 obtain ⟨e,he⟩:∃ e,epo c {s with bk:=s.bk+1} = e:=⟨_,rfl⟩
 have he1:epo c s=e - 1:=by omega
 rw[he1] at hval
 have hg:(s.V.map (leaveV e)).map (ripeV e)=s.V.map (gV e):=by rw[List.map_map];rfl
 obtain ⟨V2,hV2⟩:∃ V2,s.V.map (gV e)=V2:=⟨_,rfl⟩
 have ex2:Ix V2 wait' (s.fo++s.vo):=hV2 ▸ h.ex.map _ fun i v hv=>by
  have:=gV_cases hc (by omega) (hval i v hv);have:=gV_wd e v;unfold wait';omega
 have pe2:Ix V2 pend' s.pe:=hV2 ▸ h.pe.map _ fun i v hv=>by
  have:=gV_cases hc (by omega) (hval i v hv);unfold pend';omega
 have hb2:bals V2=bals s.V:=by rw[← hV2];exact bals_map (gV_bal e) _
 obtain ⟨t,ht⟩:∃ t,takeW (bals V2) (granted s.ca (churn c V2)) (s.fo++s.vo)=t:=⟨_,rfl⟩
 have hnd:((s.fo++s.vo).take t.1).Nodup:=h.ex.nd.sublist (List.take_sublist _ _)
 have hw2:∀ i∈(s.fo++s.vo).take t.1,∃ v,V2[i]? = some v∧wait' v:=fun i hi=>(ex2.mem i).1 (List.mem_of_mem_take hi)
 obtain ⟨V3,hV3⟩:∃ V3,mods (setAsg c (e+1)) V2 ((s.fo++s.vo).take t.1)=V3:=⟨_,rfl⟩
 have pe3:Ix V3 pend' s.pe:=hV3 ▸ pe2.mods_same _ hnd fun i hi v hv=>by simp[pend',setAsg]
 obtain ⟨n,hn⟩:∃ n,actN (bals V3) (churn c V2) s.pe=n:=⟨_,rfl⟩
 refine⟨e,V2,V3,mods actV V3 (s.pe.take n),t.1,n,he.symm,by omega,hV2.symm,hV3.symm,rfl,?_,?_,?_,?_,hval,hw2,fun i hi=>(pe3.mem i).1 (List.mem_of_mem_take hi),by rw[← hb2,ht],?_⟩
 all_goals simp only[boundM,he,hg,hV2,ht,hV3,hn,← hb2]
theorem bound_J {c:Cfg} (hc:CfOk c) {s:St} (h:Inv c s) (hb:s.bk<1000000000) (hz:((s.bk+1:Nat):Int) % c.epochLen=0) {q:HS} (hj:JV c s.V q):JV c (boundM c {s with bk:=s.bk+1}).s.V ((boundM c {s with bk:=s.bk+1}).ag.foldl addA q):=by
 obtain ⟨e,V2,V3,V4,t,n,he,he1,hV2,hV3,hV4,k1,k2,_,_,hval,hw,hp,_⟩:=bound_parts hc h hb hz
 have hnd:((s.fo++s.vo).take t).Nodup:=h.ex.nd.sublist (List.take_sublist _ _)
 have j2:JV c V2 q:=hj.still (by rw[hV2,List.length_map]) fun i v hv=>by
  have g1:=gV_cases hc he1 (hval i v hv)
  obtain ⟨g2,g3,g4,_,g5⟩:=gV_wd e v
  exact⟨gV e v,by rw[hV2,List.getElem?_map,hv];rfl,g3,g5,g4,g2,by omega,by omega⟩
 have j3:JV c V3 ((boundM c {s with bk:=s.bk+1}).ag.foldl addA q):=by
  rw[hV3,k2]
  exact JV.foldA hc (by omega) _ _ (asgs_ix _ _ _ _) (asgs_ep _ _ _ _) hnd hw j2
 have j4:JV c V4 ((boundM c {s with bk:=s.bk+1}).ag.foldl addA q):=j3.still (by rw[hV4,mods_len]) fun i v hv=>by
  have hg:=mods_get actV (s.pe.take n) V3 i (h.pe.nd.sublist (List.take_sublist _ _))
  rw[← hV4] at hg
  by_cases hi:i∈s.pe.take n
  ·obtain ⟨v',hv',h1⟩:=hp i hi
   rw[hv] at hv'
   obtain rfl:=Option.some.inj hv'
   rw[if_pos hi,hv] at hg
   exact⟨actV v,hg,rfl,rfl,rfl,rfl,by simp only[actV];omega,by simp only[actV];omega⟩
  ·rw[if_neg hi] at hg
   exact⟨v,by rw[hg,hv],rfl,rfl,rfl,rfl,Iff.rfl,Iff.rfl⟩
 rw[k1]
 exact JV.mers _ j4
theorem parV_still (c:Cfg) (Z:List Val × List Pm) (r:Nat × Int):(parV c Z r).1.length=Z.1.length∧∀ (i:Nat) v,Z.1[i]? = some v→∃ v',(parV c Z r).1[i]? = some v'∧v'.ex=v.ex∧v'.sl=v.sl∧v'.rq=v.rq∧v'.wd=v.wd∧v'.st=v.st:=by
 refine⟨parV_len c Z r,fun i v hv=>?_⟩
 unfold parV
 cases hr:Z.1[r.1]? with
 | none=>exact⟨v,hv,rfl,rfl,rfl,rfl,rfl⟩
 | some u =>
  simp only
  rw[set_get hr]
  by_cases hi:i=r.1
  ·rw[if_pos hi]
   rw[hi,hr] at hv
   obtain rfl:=Option.some.inj hv
   exact⟨_,rfl,rfl,rfl,rfl,rfl,rfl⟩
  ·rw[if_neg hi]
   exact⟨v,hv,rfl,rfl,rfl,rfl,rfl⟩
theorem pars_still (c:Cfg):∀ (l:List (Nat × Int)) (Z:List Val × List Pm),(l.foldl (parV c) Z).1.length=Z.1.length∧∀ (i:Nat) v,Z.1[i]? = some v→∃ v',(l.foldl (parV c) Z).1[i]? = some v'∧v'.ex=v.ex∧v'.sl=v.sl∧v'.rq=v.rq∧v'.wd=v.wd∧v'.st=v.st
 | [],Z=>⟨rfl,fun i v hv=>⟨v,hv,rfl,rfl,rfl,rfl,rfl⟩⟩
 | r::l,Z=>by
  obtain ⟨h1,h2⟩:=parV_still c Z r
  obtain ⟨h3,h4⟩:=pars_still c l (parV c Z r)
  refine⟨by rw[List.foldl_cons,h3,h1],fun i v hv=>?_⟩
  obtain ⟨v1,k1,e1,e2,e3,e4,e5⟩:=h2 i v hv
  obtain ⟨v2,k2,f1,f2,f3,f4,f5⟩:=h4 i v1 k1
  exact⟨v2,k2,f1.trans e1,f2.trans e2,f3.trans e3,f4.trans e4,f5.trans e5⟩
theorem pay_J {c:Cfg} (hc:CfOk c) {s:St} (h:Inv c s) {q:HS} (hj:JV c s.V q):JV c (payM c s).s.V ((payM c s).pm.foldl (addP (epo c s)) q):=by
 obtain ⟨_,l,hP⟩:=payM_inv hc h
 have hfl:=pars_fl c (s.pa.take c.partials.toNat) (s.V,[]) (by simp)
 obtain ⟨hl,hst⟩:=pars_still c (s.pa.take c.partials.toNat) (s.V,[])
 rw[hP.V,hP.pm,List.foldl_append]
 have hS:=hP.st;have hN:=hP.nd
 generalize (s.pa.take c.partials.toNat).foldl (parV c) (s.V,[])=Z at *
 have j1:JV c Z.1 q:=hj.still hl fun i v hv=>by
  obtain ⟨v',k,e1,e2,e3,e4,e5⟩:=hst i v hv
  exact⟨v',k,e1,e2,e3,e4,by rw[e5],by rw[e5]⟩
 refine JV.foldP1 (epo c s) (fun i=>(Z.1.getD i Val.zero).bal) l hN (fun i hi=>?_) (JV.foldP0 (epo c s) Z.2 hfl j1)
 obtain ⟨v',hv',h5⟩:=hS i hi
 refine⟨v',hv',h5,?_⟩
 obtain ⟨hlt,_⟩:=List.getElem?_eq_some_iff.1 hv'
 have hv:s.V[i]? = some (s.V[i]'(by simp only at hl;omega)):=List.getElem?_eq_getElem _
 obtain ⟨u,hu,_,_,_,e4,e5⟩:=hst i _ hv
 rw[hv'] at hu
 obtain rfl:=Option.some.inj hu
 have:=(h.val i _ hv).w5 (by rw[← e5];exact h5)
 omega
end
section
open Go.RowKit
theorem opDep_ok {c:Cfg} {s:St} {x:Int} (h:(opDep c s x).c=0):opDep c s x=⟨0,s.V.length,-1,{s with V:=s.V++[newV x],pe:=s.pe++[s.V.length],dep:=s.dep+x}⟩:=by
 unfold opDep no' at h ⊢
 split at h
 ·simp at h
 split at h
 ·simp at h
 split at h
 ·simp at h
 split at h
 ·simp at h
 split at h
 ·simp at h
 rename_i h1 h2 h3 h4 h5
 rw[if_neg h1,if_neg h2,if_neg h3,if_neg h4,if_neg h5]
def exV (v:Val) (e t:Int):Val:={v with rq:=e,st:=3,dl:=t}
theorem opLeave_ok {c:Cfg} {s:St} {cl ix:Int} (h:(opLeave c s cl ix).c=0):∃ v t,0≤ix∧s.V[ix.toNat]? = some v∧v.st=2∧payD c (epo c s) (aheadW s cl) v.bal=some t∧opLeave c s cl ix=⟨0,ix,t,if cl=0 then {s with V:=s.V.set ix.toNat (exV v (epo c s) t),fo:=s.fo++[ix.toNat]} else {s with V:=s.V.set ix.toNat (exV v (epo c s) t),vo:=s.vo++[ix.toNat]}⟩:=by
 unfold opLeave no' at h ⊢
 by_cases h0:ix<0
 ·rw[if_pos h0] at h;simp at h
 rw[if_neg h0] at h ⊢
 cases hv:s.V[ix.toNat]? with
 | none=>rw[hv] at h;simp at h
 | some v =>
  rw[hv] at h
  simp only[accR] at h ⊢
  by_cases h2:v.st=2
  rotate_left
  ·simp[h2] at h
  simp only[h2,if_true,ne_eq,not_true_eq_false,if_false] at h ⊢
  by_cases h3:c.queueSize≤(((if cl=0 then s.fo else s.vo).length:Nat):Int)
  ·rw[if_pos h3] at h;simp at h
  rw[if_neg h3] at h ⊢
  cases ht:payD c (epo c s) (aheadW s cl) v.bal with
  | none=>rw[ht] at h;simp at h
  | some t=>exact⟨v,t,by omega,rfl,h2,ht,rfl⟩
def slV (c:Cfg) (v:Val) (e:Int):Val:=⟨v.bal - penF v.bal c.penNum c.penDen,slaS v.st,true,if v.st=2 then e else v.rq,v.ex,max v.wd (e+c.slashDelay),-1⟩
theorem opSlash_ok {c:Cfg} {s:St} {ix:Int} (h:(opSlash c s ix).c=0):∃ v,0≤ix∧s.V[ix.toNat]? = some v∧v.sl=false∧(v.st=2∨v.st=3∨v.st=4∨v.st=5)∧opSlash c s ix=⟨0,ix,-1,{s with V:=s.V.set ix.toNat (slV c v (epo c s)),bu:=s.bu+penF v.bal c.penNum c.penDen,fo:=if v.st=2 then s.fo++[ix.toNat] else s.fo,bo:=if v.st=5 then s.bo++[((slV c v (epo c s)).wd,ix.toNat)] else s.bo}⟩:=by
 unfold opSlash no' at h ⊢
 by_cases h0:ix<0
 ·rw[if_pos h0] at h;simp at h
 rw[if_neg h0] at h ⊢
 cases hv:s.V[ix.toNat]? with
 | none=>rw[hv] at h;simp at h
 | some v =>
  rw[hv] at h
  simp only[slaR] at h ⊢
  by_cases hs:v.sl=true
  ·simp[hs] at h
  simp only[hs,if_false,Bool.false_eq_true] at h ⊢
  by_cases h4:v.st=2∨v.st=3∨v.st=4∨v.st=5
  rotate_left
  ·simp[h4] at h
  simp only[h4,if_true,ne_eq,not_true_eq_false,if_false] at h ⊢
  split at h
  ·simp at h
  rename_i h5
  rw[if_neg h5]
  exact⟨v,by omega,rfl,by simpa using hs,h4,rfl⟩
theorem opMerge_V (c:Cfg) (s:St) (i j:Int):(opMerge c s i j).s.V=s.V∧(opMerge c s i j).s.fo=s.fo∧(opMerge c s i j).s.vo=s.vo:=by
 unfold opMerge no'
 repeat' split
 all_goals exact⟨rfl,rfl,rfl⟩
theorem opPart_V (c:Cfg) (s:St) (i j:Int):(opPart c s i j).s.V=s.V∧(opPart c s i j).s.fo=s.fo∧(opPart c s i j).s.vo=s.vo:=by
 unfold opPart no'
 repeat' split
 all_goals exact⟨rfl,rfl,rfl⟩
theorem VR.begin {c:Cfg} {v:Val} {r:Rd} {e t cl dl:Int} (h2:v.st=2) (h:VR c v r):VR c (exV v e t) (beginR cl e dl r):=by
 have b1:r.rd=false:=by rw[h.rd,h2];rfl
 have eb:beginR cl e dl r={r with rd:=true,ex:={r.ex with cl:=cl,rq:=e,dl:=dl}}:=by unfold beginR;rw[if_neg (by rw[b1];simp)]
 rw[eb]
 exact⟨rfl,h.asd,h.sld,by rw[show r.fu=decide (v.st=6) from h.fu,h2];rfl,fun _=>rfl,h.asg,h.sl0,h.sl1,fun _=>h.fu0 (by omega),fun k=>by simp[exV] at k,fun k=>by simp[exV] at k,h.wd⟩
theorem VR.slash {c:Cfg} {v:Val} {r:Rd} {e dl cl:Int} (he:0≤e) (hs:v.sl=false) (h4:v.st=2∨v.st=3∨v.st=4∨v.st=5) (h:VR c v r):VR c (slV c v e) (beginR cl e dl (slashR e r)):=by
 have b1:r.sld=false:=by rw[h.sld,hs]
 have es:slashR e r={r with sld:=true,ex:={r.ex with sl:=e}}:=by unfold slashR;rw[if_neg (by rw[b1];simp)]
 have hm:=Int.le_max_right v.wd (e+c.slashDelay)
 have hf:=h.fu0 (by omega)
 have hfu:r.fu=false:=by rw[h.fu];simp;omega
 have h3:slaS v.st=3∨slaS v.st=4:=by unfold slaS;split<;>simp
 rw[es]
 by_cases h2:v.st=2
 ·have b2:r.rd=false:=by rw[h.rd,h2];rfl
  unfold beginR
  rw[if_neg (by simp only;rw[b2];simp)]
  refine⟨?_,h.asd,rfl,?_,fun _=>?_,h.asg,fun k=>Bool.noConfusion k,fun _=>⟨he,hm⟩,fun _=>hf,fun k=>?_,fun k=>?_,fun k=>Bool.noConfusion k⟩
  ·exact(decide_eq_true (show 3≤slaS v.st∧slaS v.st≤6 by omega)).symm
  ·show r.fu=_
   rw[hfu];exact(decide_eq_false (show ¬slaS v.st=6 by omega)).symm
  ·simp only[slV];rw[if_pos h2]
  ·simp only[slV] at k;omega
  ·simp only[slV] at k;omega
 ·have b2:r.rd=true:=by rw[h.rd];simp;omega
  unfold beginR
  rw[if_pos (by simp only;exact b2)]
  refine⟨?_,h.asd,rfl,?_,fun _=>?_,h.asg,fun k=>Bool.noConfusion k,fun _=>⟨he,hm⟩,fun _=>hf,fun k=>?_,fun k=>?_,fun k=>Bool.noConfusion k⟩
  ·show r.rd=_
   rw[b2];exact(decide_eq_true (show 3≤slaS v.st∧slaS v.st≤6 by omega)).symm
  ·show r.fu=_
   rw[hfu];exact(decide_eq_false (show ¬slaS v.st=6 by omega)).symm
  ·simp only[slV];rw[if_neg h2];exact h.rq b2
  ·simp only[slV] at k;omega
  ·simp only[slV] at k;omega
theorem JV.cong {c:Cfg} {V:List Val} {q q':HS} (h:JV c V q) (hq:∀ i:Nat,getR i q'.recs=getR i q.recs):JV c V q':=fun i=>by rw[hq];exact h i
theorem step_J {c:Cfg} (hc:CfOk c) {s:St} (h:Inv c s) (hb:s.bk<1000000000) (o:Opn) {q:HS} (hj:JV c s.V q):JV c (stepM c s o).2.V (hAdd o.k (stepM c s o).1 q):=by
 have he:=epo_range hc (s:=s) (by have:=h.bk;omega)
 by_cases h7:o.k=7
 ·unfold stepM
  rw[if_pos h7]
  have key:∀ (B:Bd),Inv c B.s→epo c B.s=epo c {s with bk:=s.bk+1}→JV c B.s.V (B.ag.foldl addA q)→JV c (payM c B.s).s.V (hAdd o.k ⟨7,0,-1,s.bk+1,epo c {s with bk:=s.bk+1},-1,(payM c B.s).vi,B.ag,(payM c B.s).pm⟩ q):=fun B hB hE hJ=>by
   have h2:=pay_J hc hB (q:=B.ag.foldl addA {q with n:=q.n+1,ep:=epo c {s with bk:=s.bk+1}}) (hJ.cong fun i=>congrArg (getR _) (foldA_recs _ rfl))
   rw[hE] at h2
   unfold hAdd
   simp only[h7]
   exact h2
  unfold tickM
  by_cases hz:((s.bk+1:Nat):Int) % c.epochLen=0
  ·simp only[if_pos hz]
   exact key _ (boundM_inv hc h hb hz) rfl (bound_J hc h hb hz hj)
  ·simp only[if_neg hz]
   exact key ⟨[],{s with bk:=s.bk+1}⟩ (Inv.same hc h hb hz) rfl hj
 ·by_cases hr:(stepM c s o).1.c=0
  rotate_left
  ·obtain ⟨e,_⟩:=step_rej hr
   rw[e,hAdd,if_pos hr]
   exact hj.cong fun _=>rfl
  unfold stepM at hr ⊢
  rw[if_neg h7] at hr ⊢
  simp only at hr
  rw[hAdd,if_neg (by simp only;rw[hr];simp)]
  simp only[List.foldl_nil]
  unfold opM at hr ⊢
  by_cases h1:o.k=1
  ·simp only[h1,if_true] at hr ⊢
   rw[opDep_ok hr]
   simp only
   intro i
   have hi:=hj i
   show JI c (s.V++[newV o.am])[i]? (getR i q.recs)
   by_cases hl:i<s.V.length
   ·rw[List.getElem?_append_left hl];exact hi
   ·rw[List.getElem?_eq_none (by omega)] at hi
    rw[List.getElem?_append_right (by omega)]
    have hi:getR i q.recs=r0:=hi
    rw[hi]
    cases hk:i - s.V.length with
    | zero=>exact VR.new c _
    | succ n=>exact rfl
  by_cases h2:o.k=2
  ·simp only[h2,if_true,Int.reduceEq,if_false] at hr ⊢
   obtain ⟨v,t,k0,k1,k2,_,k3⟩:=opLeave_ok hr
   obtain ⟨n,hn⟩:∃ n:Nat,o.ix=n:=⟨o.ix.toNat,by omega⟩
   have hon:o.ix.toNat=n:=by omega
   rw[k3]
   rw[hon] at k1 ⊢
   simp only[Int.reduceEq,if_false]
   refine hj.upd n k1 (set_get k1) (r':=beginR 1 (epo c s) t (getR n q.recs)) (fun j=>?_) fun hv=>hv.begin k2
   show getR j (setR o.ix (beginR 1 (epo c s) t (getR o.ix q.recs)) q.recs)=_
   rw[hn];exact getR_setN _ _ _ _
  by_cases h3:o.k=3
  ·simp only[h3,if_true,Int.reduceEq,if_false] at hr ⊢
   obtain ⟨v,t,k0,k1,k2,_,k3⟩:=opLeave_ok hr
   obtain ⟨n,hn⟩:∃ n:Nat,o.ix=n:=⟨o.ix.toNat,by omega⟩
   have hon:o.ix.toNat=n:=by omega
   rw[k3]
   rw[hon] at k1 ⊢
   simp only[if_true]
   refine hj.upd n k1 (set_get k1) (r':=beginR 0 (epo c s) t (getR n q.recs)) (fun j=>?_) fun hv=>hv.begin k2
   show getR j (setR o.ix (beginR 0 (epo c s) t (getR o.ix q.recs)) q.recs)=_
   rw[hn];exact getR_setN _ _ _ _
  by_cases h4:o.k=4
  ·simp only[h4,if_true,Int.reduceEq,if_false] at hr ⊢
   obtain ⟨v,k0,k1,k2,k3,k4⟩:=opSlash_ok hr
   obtain ⟨n,hn⟩:∃ n:Nat,o.ix=n:=⟨o.ix.toNat,by omega⟩
   have hon:o.ix.toNat=n:=by omega
   rw[k4]
   rw[hon] at k1 ⊢
   simp only
   refine hj.upd n k1 (set_get k1) (r':=beginR 0 (epo c s) (-1) (slashR (epo c s) (getR n q.recs))) (fun j=>?_) fun hv=>hv.slash he.1 k2 k3
   show getR j (setR o.ix (beginR 0 (epo c s) (-1) (getR o.ix (setR o.ix (slashR (epo c s) (getR o.ix q.recs)) q.recs))) (setR o.ix (slashR (epo c s) (getR o.ix q.recs)) q.recs))=_
   rw[hn,getR_setN,getR_setN,getR_setN,if_pos rfl]
   by_cases hji:j=n
   ·simp only[hji,if_true]
   ·simp only[hji,if_false]
  by_cases h5:o.k=5
  ·simp only[h5,if_true,Int.reduceEq,if_false]
   rw[(opMerge_V c s _ _).1]
   exact hj.cong fun _=>rfl
  by_cases h6:o.k=6
  ·simp only[h6,if_true,Int.reduceEq,if_false]
   rw[(opPart_V c s _ _).1]
   exact hj.cong fun _=>rfl
  simp only[h1,h2,h3,h4,h5,h6,if_false,no'] at hr
  simp at hr
end
end Go.Proofs.YtjbfcacmdahnhaaGreat
