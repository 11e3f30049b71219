import Derived.Test.YtjbfcacmdahnhaaGreatZrl
set_option linter.unusedVariables false
set_option linter.unusedSimpArgs false
set_option linter.unusedSectionVars false
set_option maxRecDepth 100000
set_option maxHeartbeats 8000000
namespace Go.Proofs.YtjbfcacmdahnhaaGreat
section
open Go.RowKit
theorem rgp_grow (b size:Nat) (q:List (Nat × Nat)) (z:rgpH) (hz:rgpOk size q z) (hq:q.length<size) (R:List Asn):Spec 204 [ptr b] (rgpP b size q z++R) fun u L'=>∃ z',rgpOk size q z'∧q.length<z'.S.length∧u=.tuple #[]∧L'=rgpP b size q z'++R:=by
 intro G w M
 have h1:=hz.n
 have h2:=hz.s
 have h3:=hz.p
 simp only[zc,zn] at M
 by_cases hlt:q.length<z.S.length
 ·(refine zGe Tryz.func204 ?_;intro a F;(try simp only[zc,zn] at M))
  (try refine zI zk204 F M ?_;clear F M a;try clear w);(repeat'(first|refine zA ?_;repeat intro nb|refine zB ?_ ?_<;>intro hc<;>try exact no hc|refine zH ?_ ?_<;>(intro hg;rw[hg];try exact no hg)));all_goals try refine zO fun a w F M=>?_
  (all_goals(refine zE F M ?_;exact⟨_,_,rfl,⟨z,hz,hlt,rfl,rfl⟩,M.perms permsA⟩))
 ·have hm:q.length=z.S.length:=by omega
  obtain ⟨m,hmm⟩:∃ m:Nat,m=min size (2*z.S.length+1):=⟨_,rfl⟩
  have hmin:(if (2*(z.S.length:Int)+1)<(size:Int) then (2*(z.S.length:Int)+1) else (size:Int))=(m:Int):=by split<;>omega
  have hf:z.f≤z.S.length:=by rcases hz.f with h|⟨h,h'⟩<;>omega
  have ed:z.S.length - z.f=(z.S.drop z.f).length:=by simp
  have et:z.f=(z.S.take z.f).length:=by simp;omega
  obtain ⟨hzn,hzc,_⟩:=own_h (M.pull (by(focus ((repeat (first|exact Pull.here|apply Pull.there));done))))
  obtain ⟨X1,hX1⟩:∃ X1,z.S.drop z.f++List.replicate (m - (z.S.drop z.f).length) ((0,0))=X1:=⟨_,rfl⟩
  obtain ⟨X2,hX2⟩:∃ X2,z.S.drop z.f++z.S.take z.f++List.replicate (m - z.S.length) ((0,0))=X2:=⟨_,rfl⟩
  have l1:X1.length=m:=by rw[← hX1];simp;omega
  have l2:X2.length=m:=by rw[← hX2];simp;omega
  have x1:(List.replicate m ((0,0))).take 0++z.S.drop z.f++(List.replicate m ((0,0))).drop (0+(z.S.drop z.f).length)=X1:=by rw[← hX1];simp
  have x2:X1.take (z.S.drop z.f).length++z.S.take z.f++X1.drop ((z.S.drop z.f).length+(z.S.take z.f).length)=X2:=by
   rw[← hX1,← hX2,List.take_left' rfl,← List.drop_drop,List.drop_left' rfl,List.drop_replicate,← ed,← et]
   congr 2;omega
  (refine zGe Tryz.func204 ?_;intro a F;(try simp only[zc,zn] at M))
  (try refine zI zk204 F M ?_;clear F M a;try clear w);(repeat'(first|refine zV (h:=⟨_,by((first|(apply rt_min2;(exact rfl);(exact rfl);(exact hmin))|(apply rt_fromN;(exact rfl);(exact rfl);(exact rfl);(exact inferInstance);(try dsimp only);omega;(try dsimp only);omega)|(apply rt_from;(exact rfl);(exact rfl);(exact rfl);(exact inferInstance);omega)|(apply rt_to;(exact rfl);(exact rfl);(exact rfl);(exact inferInstance);omega))),?_⟩)|refine zA1 ?_;repeat intro(nb:Nat)|refine zC ?_;(first|refine ac_makeT (f:=prL) inferInstance ((0,0)) rfl rfl inferInstance rfl (m:=m) rfl rfl (by omega) (by omega) ?_;intro nb|refine ac_copyT (f:=prL) (j:=0) rfl rfl inferInstance inferInstance rfl rfl (gs_from (by(focus ((repeat (first|exact Pull.here|apply Pull.there));done))) hf) (flat_drop (f:=prL) EL.len _ _) ed (by(focus ((repeat (first|exact Pull.here|apply Pull.there));done))) (by rw[List.length_replicate]) (by rw[List.length_replicate];dsimp only;omega) (by dsimp only;omega) ?_;rw[x1]|refine ac_copyT (f:=prL) (j:=(z.S.drop z.f).length) rfl rfl inferInstance inferInstance rfl rfl (gs_to (by(focus ((repeat (first|exact Pull.here|apply Pull.there));done))) hf) (flat_take (f:=prL) EL.len _ _) et (by(focus ((repeat (first|exact Pull.here|apply Pull.there));done))) (by rw[l1]) (by dsimp only;omega) (by dsimp only;omega) ?_;rw[x2])|refine zB ?_ ?_<;>intro hc<;>try exact no hc|refine zH ?_ ?_<;>(intro hg;rw[hg];try exact no hg)));all_goals try refine zO fun a w F M=>?_
  all_goals refine zE F M ?_
  refine⟨_,_,rfl,⟨⟨⟨some ⟨nb,0,none⟩,m,m⟩,X2,0⟩,⟨by dsimp only;omega,by dsimp only;omega,h3,.inl (by dsimp only;omega),fun i hi=>?_⟩,by dsimp only;omega,rfl,rfl⟩,M.perms permsA⟩
  rw[← hz.g i hi]
  dsimp only
  rw[l2,Nat.zero_add,Nat.mod_eq_of_lt (by omega),← hX2,List.getElem?_append_left (by simp;omega)]
  by_cases hi2:i<z.S.length - z.f
  ·rw[List.getElem?_append_left (by simp;omega),List.getElem?_drop,Nat.mod_eq_of_lt (by omega)]
  ·rw[List.getElem?_append_right (by simp;omega),List.getElem?_take_of_lt (by simp;omega),List.length_drop]
   congr 1
   rw[Nat.mod_eq_sub_mod (by omega),Nat.mod_eq_of_lt (by omega)];omega
theorem rgp_growA (b size:Nat) (q:List (Nat × Nat)) (hq:q.length<size) (R:List Asn):Spec 204 [ptr b] (rgpA b size q::R) fun u L'=>∃ z',rgpOk size q z'∧q.length<z'.S.length∧u=.tuple #[]∧L'=rgpP b size q z'++R:=by
 intro G w M
 obtain ⟨z,hz,M⟩:=rgp_open (L:=R++G) M
 exact rgp_grow b size q z hz hq R G w (by simpa using M)
theorem rgp_push_ok {size:Nat} {x:Nat × Nat} {q:List (Nat × Nat)} {z:rgpH} (h:rgpOk size q z) (hl:q.length<z.S.length):rgpOk size (q++[x]) ⟨z.h,z.S.set ((z.f+q.length) % z.S.length) x,z.f⟩:=by
 have hf:z.f<z.S.length:=by rcases h.f with h|⟨_,h⟩;(· exact h);(exfalso;rw[h,List.length_nil] at hl;omega)
 have hm:=Nat.mod_lt (z.f+q.length) (show 0<z.S.length by omega)
 refine⟨by simp;omega,by simpa using h.s,h.p,.inl (by simpa using hf),fun i hi=>?_⟩
 simp only[List.length_set]
 by_cases hi2:i=q.length
 ·subst hi2
  rw[List.getElem?_set_self hm];simp
 ·simp at hi
  rw[List.getElem?_append_left (by omega),← h.g i (by omega),List.getElem?_set_ne]
  intro he
  by_cases c1:z.f+q.length<z.S.length
  ·rw[Nat.mod_eq_of_lt c1,Nat.mod_eq_of_lt (by omega)] at he;omega
  ·rw[Nat.mod_eq_sub_mod (by omega),Nat.mod_eq_of_lt (by omega)] at he
   by_cases c2:z.f+i<z.S.length
   ·rw[Nat.mod_eq_of_lt c2] at he;omega
   ·rw[Nat.mod_eq_sub_mod (by omega),Nat.mod_eq_of_lt (by omega)] at he;omega
theorem rgp_fl {size:Nat} {q:List (Nat × Nat)} {z:rgpH} (h:rgpOk size q z) (hl:q.length<z.S.length):z.f<z.S.length∧z.S.length≤size∧0≤((z.f:Int)+(q.length:Int)) % (z.S.length:Int)∧((z.f:Int)+(q.length:Int)) % (z.S.length:Int)<(z.S.length:Int):=by
 have hf:z.f<z.S.length:=by rcases h.f with h|⟨_,h⟩;(· exact h);(exfalso;rw[h,List.length_nil] at hl;omega)
 exact⟨hf,h.s,Int.emod_nonneg _ (by omega),Int.emod_lt_of_pos _ (by omega)⟩
theorem rgp_push (b size:Nat) (q:List (Nat × Nat)) (x:Nat × Nat) (v:SlH) (R:List Asn) (hg:GS R 2 (sl v) 1 ([x].flatMap prL)) (hv:v.n=1∧1≤v.c) (hq:q.length<size) (hs:size≤4096):Spec 138 [ptr b,sl v] (rgpA b size q::R) fun u L'=>u=.int .i64 1∧L'=rgpA b size (q++[x])::R:=by
 obtain ⟨hv1,hv2⟩:=hv
 intro G w M
 have hg1:GS (R++G) 2 (sl v) 1 ([x].flatMap prL):=hg.imp fun w M=>M.drop_app
 have hg2:GS (R++G) 2 (sl ⟨v.a,1,v.c⟩) [x].length ([x].flatMap prL):=fun w M=>by have:=(hg1 w M).to (j:=1) (by omega);rwa [List.take_of_length_le (by rw[flat_lenE (f:=prL) inferInstance];simp)] at this
 have hmin:(if ((size:Int) - (q.length:Int))<((1:Nat):Int) then ((size:Int) - (q.length:Int)) else ((1:Nat):Int))=((1:Nat):Int):=by rw[if_neg];omega
 (refine zGe Tryz.func138 ?_;intro a F;(try simp only[zc,zn] at M))
 (try refine zI zk138 F M ?_;clear F M a;try clear w);(repeat'(first|refine zV (h:=⟨_,by((first|(apply rt_min2;(exact rfl);(exact rfl);(exact hmin))|(apply rt_to;(exact rfl);(exact rfl);(exact rfl);(exact inferInstance);omega))),?_⟩)|refine zA1 ?_;repeat intro(nb:Nat)|refine zC ?_;refine kp (k:=203) (rgp_free b size q _) ?_|refine zB ?_ ?_<;>intro hc<;>try exact no hc|refine zH ?_ ?_<;>(intro hg;rw[hg];try exact no hg)));all_goals try refine zO fun a w F M=>?_
 refine svLoop F M (0:Nat) (fun k=>[(17,.int .i64 k)]) (fun k=>[rgpA b size (q++[x].take k)]) (fun k=>k≤1) (fun k=>1 - k) [] (by simp) ?_ (hR:=by rw[List.take_zero,List.append_nil];(repeat (first|exact Pulls.nil|(apply Pulls.cons;(focus ((repeat (first|exact Pull.here|apply Pull.there));done))))))
 (rintro k q1 a w F M;(try simp only[zc,zn] at F M q1 ⊢))
 by_cases hk:k=0
 ·subst hk
  rw[List.take_zero,List.append_nil] at M
  have hx:[x][0]? = some x:=rfl
  (try refine zI zk138 F M ?_;clear F M a;try clear w);(repeat'(first|refine zV (h:=⟨_,by((first|(apply rt_min2;(exact rfl);(exact rfl);(exact hmin))|(apply rt_to;(exact rfl);(exact rfl);(exact rfl);(exact inferInstance);omega))),?_⟩)|refine zA1 ?_;repeat intro(nb:Nat)|refine zC ?_;((refine acK (k:=204) (rgp_growA b size q hq _) ?_);rintro u L' ⟨z,hz,hroom,rfl,rfl⟩);obtain ⟨hf,h2,hm0,hm1⟩:=rgp_fl hz hroom;simp only[zc,zn]|refine zB ?_ ?_<;>intro hc<;>try exact no hc|refine zH ?_ ?_<;>(intro hg;rw[hg];try exact no hg)));all_goals try refine zO fun a w F M=>?_
  have hmod:(((z.f:Int)+(q.length:Int)) % (z.S.length:Int)).toNat=(z.f+q.length) % z.S.length:=by
   rw[show(z.f:Int)+(q.length:Int)=((z.f+q.length:Nat):Int) by omega,← Int.natCast_emod,Int.toNat_natCast]
  have hok:=rgp_push_ok (x:=x) hz hroom
  rw[← hmod] at hok
  obtain ⟨j,hj⟩:∃ j,(((z.f:Int)+(q.length:Int)) % (z.S.length:Int)).toNat=j:=⟨_,rfl⟩
  rw[hj] at hok
  obtain ⟨u0,hu0⟩:∃ u0,z.S[j]? = some u0:=⟨z.S[j]'(by omega),by simp⟩
  rw[← hj] at hu0
  (try refine zI zk138 F M ?_;clear F M a;try clear w);(repeat'(first|refine zV (h:=⟨_,by((first|(apply rt_min2;(exact rfl);(exact rfl);(exact hmin))|(apply rt_to;(exact rfl);(exact rfl);(exact rfl);(exact inferInstance);omega))),?_⟩)|refine zA1 ?_;repeat intro(nb:Nat)|refine zC ?_;(first|refine ac_storeEA (f:=prL) (v:=sl z.h) (k:=2) rfl rfl inferInstance x rfl hu0 inferInstance (by(focus ((repeat (first|exact Rep.here|apply Rep.there));done))) ?_;rw[hj]|refine ac_storeE (f:=prL) (v:=sl z.h) (k:=2) (i:=0) (xs:=z.S) rfl rfl inferInstance rfl rfl hu0 inferInstance rfl x rfl (by(focus ((repeat (first|exact Rep.here|apply Rep.there));done))) ?_;rw[hj])|refine zB ?_ ?_<;>intro hc<;>try exact no hc|refine zH ?_ ?_<;>(intro hg;rw[hg];try exact no hg)));all_goals try refine zO fun a w F M=>?_
  have e:(q.length:Int)+1=(((q++[x]).length:Nat):Int):=by simp
  rw[e] at M
  have M:=rgp_close hok (M.perms (permsA:Perms _ (rgpP b size (q++[x]) ⟨z.h,z.S.set j x,z.f⟩++(R++G))))
  exact sv_again F M 1 kpA permsA (by omega) (by omega)
 ·obtain rfl:k=1:=by omega
  (try refine zI zk138 F M ?_;clear F M a;try clear w);(repeat'(first|refine zV (h:=⟨_,by((first|(apply rt_min2;(exact rfl);(exact rfl);(exact hmin))|(apply rt_to;(exact rfl);(exact rfl);(exact rfl);(exact inferInstance);omega))),?_⟩)|refine zA1 ?_;repeat intro(nb:Nat)|refine zC ?_;(first|refine ac_storeEA (f:=prL) (v:=sl z.h) (k:=2) rfl rfl inferInstance x rfl hu0 inferInstance (by(focus ((repeat (first|exact Rep.here|apply Rep.there));done))) ?_;rw[hj]|refine ac_storeE (f:=prL) (v:=sl z.h) (k:=2) (i:=0) (xs:=z.S) rfl rfl inferInstance rfl rfl hu0 inferInstance rfl x rfl (by(focus ((repeat (first|exact Rep.here|apply Rep.there));done))) ?_;rw[hj])|refine zB ?_ ?_<;>intro hc<;>try exact no hc|refine zH ?_ ?_<;>(intro hg;rw[hg];try exact no hg)));all_goals exact zXz
theorem rgp_pushF (b size:Nat) (q:List (Nat × Nat)) (x:Nat × Nat) (v:SlH) (R:List Asn) (hg:GS R 2 (sl v) 1 ([x].flatMap prL)) (hv:v.n=1∧1≤v.c) (hq:q.length=size) (hs:size≤4096):Spec 138 [ptr b,sl v] (rgpA b size q::R) fun u L'=>u=.int .i64 0∧L'=rgpA b size q::R:=by
 obtain ⟨hv1,hv2⟩:=hv
 intro G w M
 have hg1:GS (R++G) 2 (sl v) 1 ([x].flatMap prL):=hg.imp fun w M=>M.drop_app
 have hg2:GS (R++G) 2 (sl ⟨v.a,0,v.c⟩) ([]:List (Nat × Nat)).length (([]:List (Nat × Nat)).flatMap prL):=fun w M=>by have:=(hg1 w M).to (j:=0) (by omega);simpa using this
 have hmin:(if ((size:Int) - (q.length:Int))<((1:Nat):Int) then ((size:Int) - (q.length:Int)) else ((1:Nat):Int))=((0:Nat):Int):=by rw[if_pos]<;>omega
 (refine zGe Tryz.func138 ?_;intro a F;(try simp only[zc,zn] at M))
 (try refine zI zk138 F M ?_;clear F M a;try clear w);(repeat'(first|refine zV (h:=⟨_,by((first|(apply rt_min2;(exact rfl);(exact rfl);(exact hmin))|(apply rt_to;(exact rfl);(exact rfl);(exact rfl);(exact inferInstance);omega))),?_⟩)|refine zA1 ?_;repeat intro(nb:Nat)|refine zC ?_;refine kp (k:=203) (rgp_free b size q _) ?_|refine zB ?_ ?_<;>intro hc<;>try exact no hc|refine zH ?_ ?_<;>(intro hg;rw[hg];try exact no hg)));all_goals try refine zO fun a w F M=>?_
 refine svLoop F M (0:Nat) (fun k=>[(17,.int .i64 k)]) (fun _=>[]) (fun k=>k=0) (fun k=>1 - k) [] rfl ?_
 (rintro k q1 a w F M;(try simp only[zc,zn] at F M q1 ⊢))
 subst q1
 (try refine zI zk138 F M ?_;clear F M a;try clear w);(repeat'(first|refine zV (h:=⟨_,by((first|(apply rt_min2;(exact rfl);(exact rfl);(exact hmin))|(apply rt_to;(exact rfl);(exact rfl);(exact rfl);(exact inferInstance);omega))),?_⟩)|refine zA1 ?_;repeat intro(nb:Nat)|refine zB ?_ ?_<;>intro hc<;>try exact no hc|refine zH ?_ ?_<;>(intro hg;rw[hg];try exact no hg)));all_goals exact zXz
theorem rgq_grow (b size:Nat) (q:List (Nat × Int)) (z:rgqH) (hz:rgqOk size q z) (hq:q.length<size) (R:List Asn):Spec 206 [ptr b] (rgqP b size q z++R) fun u L'=>∃ z',rgqOk size q z'∧q.length<z'.S.length∧u=.tuple #[]∧L'=rgqP b size q z'++R:=by
 intro G w M
 have h1:=hz.n
 have h2:=hz.s
 have h3:=hz.p
 simp only[zc,zn] at M
 by_cases hlt:q.length<z.S.length
 ·(refine zGe Tryz.func206 ?_;intro a F;(try simp only[zc,zn] at M))
  (try refine zI zk206 F M ?_;clear F M a;try clear w);(repeat'(first|refine zV (h:=⟨_,by((first|(apply rt_min2;(exact rfl);(exact rfl);(exact hmin))|(apply rt_to;(exact rfl);(exact rfl);(exact rfl);(exact inferInstance);omega))),?_⟩)|refine zA1 ?_;repeat intro(nb:Nat)|refine zB ?_ ?_<;>intro hc<;>try exact no hc|refine zH ?_ ?_<;>(intro hg;rw[hg];try exact no hg)));all_goals try refine zO fun a w F M=>?_
  (all_goals(refine zE F M ?_;exact⟨_,_,rfl,⟨z,hz,hlt,rfl,rfl⟩,M.perms permsA⟩))
 ·have hm:q.length=z.S.length:=by omega
  obtain ⟨m,hmm⟩:∃ m:Nat,m=min size (2*z.S.length+1):=⟨_,rfl⟩
  have hmin:(if (2*(z.S.length:Int)+1)<(size:Int) then (2*(z.S.length:Int)+1) else (size:Int))=(m:Int):=by split<;>omega
  have hf:z.f≤z.S.length:=by rcases hz.f with h|⟨h,h'⟩<;>omega
  have ed:z.S.length - z.f=(z.S.drop z.f).length:=by simp
  have et:z.f=(z.S.take z.f).length:=by simp;omega
  obtain ⟨hzn,hzc,_⟩:=own_h (M.pull (by(focus ((repeat (first|exact Pull.here|apply Pull.there));done))))
  obtain ⟨X1,hX1⟩:∃ X1,z.S.drop z.f++List.replicate (m - (z.S.drop z.f).length) ((0,0))=X1:=⟨_,rfl⟩
  obtain ⟨X2,hX2⟩:∃ X2,z.S.drop z.f++z.S.take z.f++List.replicate (m - z.S.length) ((0,0))=X2:=⟨_,rfl⟩
  have l1:X1.length=m:=by rw[← hX1];simp;omega
  have l2:X2.length=m:=by rw[← hX2];simp;omega
  have x1:(List.replicate m ((0,0))).take 0++z.S.drop z.f++(List.replicate m ((0,0))).drop (0+(z.S.drop z.f).length)=X1:=by rw[← hX1];simp
  have x2:X1.take (z.S.drop z.f).length++z.S.take z.f++X1.drop ((z.S.drop z.f).length+(z.S.take z.f).length)=X2:=by
   rw[← hX1,← hX2,List.take_left' rfl,← List.drop_drop,List.drop_left' rfl,List.drop_replicate,← ed,← et]
   congr 2;omega
  (refine zGe Tryz.func206 ?_;intro a F;(try simp only[zc,zn] at M))
  (try refine zI zk206 F M ?_;clear F M a;try clear w);(repeat'(first|refine zV (h:=⟨_,by((first|(apply rt_min2;(exact rfl);(exact rfl);(exact hmin))|(apply rt_fromN;(exact rfl);(exact rfl);(exact rfl);(exact inferInstance);(try dsimp only);omega;(try dsimp only);omega)|(apply rt_from;(exact rfl);(exact rfl);(exact rfl);(exact inferInstance);omega)|(apply rt_to;(exact rfl);(exact rfl);(exact rfl);(exact inferInstance);omega))),?_⟩)|refine zA1 ?_;repeat intro(nb:Nat)|refine zC ?_;(first|refine ac_makeT (f:=rqL) inferInstance ((0,0)) rfl rfl inferInstance rfl (m:=m) rfl rfl (by omega) (by omega) ?_;intro nb|refine ac_copyT (f:=rqL) (j:=0) rfl rfl inferInstance inferInstance rfl rfl (gs_from (by(focus ((repeat (first|exact Pull.here|apply Pull.there));done))) hf) (flat_drop (f:=rqL) EL.len _ _) ed (by(focus ((repeat (first|exact Pull.here|apply Pull.there));done))) (by rw[List.length_replicate]) (by rw[List.length_replicate];dsimp only;omega) (by dsimp only;omega) ?_;rw[x1]|refine ac_copyT (f:=rqL) (j:=(z.S.drop z.f).length) rfl rfl inferInstance inferInstance rfl rfl (gs_to (by(focus ((repeat (first|exact Pull.here|apply Pull.there));done))) hf) (flat_take (f:=rqL) EL.len _ _) et (by(focus ((repeat (first|exact Pull.here|apply Pull.there));done))) (by rw[l1]) (by dsimp only;omega) (by dsimp only;omega) ?_;rw[x2])|refine zB ?_ ?_<;>intro hc<;>try exact no hc|refine zH ?_ ?_<;>(intro hg;rw[hg];try exact no hg)));all_goals try refine zO fun a w F M=>?_
  all_goals refine zE F M ?_
  refine⟨_,_,rfl,⟨⟨⟨some ⟨nb,0,none⟩,m,m⟩,X2,0⟩,⟨by dsimp only;omega,by dsimp only;omega,h3,.inl (by dsimp only;omega),fun i hi=>?_⟩,by dsimp only;omega,rfl,rfl⟩,M.perms permsA⟩
  rw[← hz.g i hi]
  dsimp only
  rw[l2,Nat.zero_add,Nat.mod_eq_of_lt (by omega),← hX2,List.getElem?_append_left (by simp;omega)]
  by_cases hi2:i<z.S.length - z.f
  ·rw[List.getElem?_append_left (by simp;omega),List.getElem?_drop,Nat.mod_eq_of_lt (by omega)]
  ·rw[List.getElem?_append_right (by simp;omega),List.getElem?_take_of_lt (by simp;omega),List.length_drop]
   congr 1
   rw[Nat.mod_eq_sub_mod (by omega),Nat.mod_eq_of_lt (by omega)];omega
theorem rgq_growA (b size:Nat) (q:List (Nat × Int)) (hq:q.length<size) (R:List Asn):Spec 206 [ptr b] (rgqA b size q::R) fun u L'=>∃ z',rgqOk size q z'∧q.length<z'.S.length∧u=.tuple #[]∧L'=rgqP b size q z'++R:=by
 intro G w M
 obtain ⟨z,hz,M⟩:=rgq_open (L:=R++G) M
 exact rgq_grow b size q z hz hq R G w (by simpa using M)
theorem rgq_push_ok {size:Nat} {x:Nat × Int} {q:List (Nat × Int)} {z:rgqH} (h:rgqOk size q z) (hl:q.length<z.S.length):rgqOk size (q++[x]) ⟨z.h,z.S.set ((z.f+q.length) % z.S.length) x,z.f⟩:=by
 have hf:z.f<z.S.length:=by rcases h.f with h|⟨_,h⟩;(· exact h);(exfalso;rw[h,List.length_nil] at hl;omega)
 have hm:=Nat.mod_lt (z.f+q.length) (show 0<z.S.length by omega)
 refine⟨by simp;omega,by simpa using h.s,h.p,.inl (by simpa using hf),fun i hi=>?_⟩
 simp only[List.length_set]
 by_cases hi2:i=q.length
 ·subst hi2
  rw[List.getElem?_set_self hm];simp
 ·simp at hi
  rw[List.getElem?_append_left (by omega),← h.g i (by omega),List.getElem?_set_ne]
  intro he
  by_cases c1:z.f+q.length<z.S.length
  ·rw[Nat.mod_eq_of_lt c1,Nat.mod_eq_of_lt (by omega)] at he;omega
  ·rw[Nat.mod_eq_sub_mod (by omega),Nat.mod_eq_of_lt (by omega)] at he
   by_cases c2:z.f+i<z.S.length
   ·rw[Nat.mod_eq_of_lt c2] at he;omega
   ·rw[Nat.mod_eq_sub_mod (by omega),Nat.mod_eq_of_lt (by omega)] at he;omega
theorem rgq_fl {size:Nat} {q:List (Nat × Int)} {z:rgqH} (h:rgqOk size q z) (hl:q.length<z.S.length):z.f<z.S.length∧z.S.length≤size∧0≤((z.f:Int)+(q.length:Int)) % (z.S.length:Int)∧((z.f:Int)+(q.length:Int)) % (z.S.length:Int)<(z.S.length:Int):=by
 have hf:z.f<z.S.length:=by rcases h.f with h|⟨_,h⟩;(· exact h);(exfalso;rw[h,List.length_nil] at hl;omega)
 exact⟨hf,h.s,Int.emod_nonneg _ (by omega),Int.emod_lt_of_pos _ (by omega)⟩
theorem rgq_push (b size:Nat) (q:List (Nat × Int)) (x:Nat × Int) (v:SlH) (R:List Asn) (hg:GS R 2 (sl v) 1 ([x].flatMap rqL)) (hv:v.n=1∧1≤v.c) (hq:q.length<size) (hs:size≤4096):Spec 140 [ptr b,sl v] (rgqA b size q::R) fun u L'=>u=.int .i64 1∧L'=rgqA b size (q++[x])::R:=by
 obtain ⟨hv1,hv2⟩:=hv
 intro G w M
 have hg1:GS (R++G) 2 (sl v) 1 ([x].flatMap rqL):=hg.imp fun w M=>M.drop_app
 have hg2:GS (R++G) 2 (sl ⟨v.a,1,v.c⟩) [x].length ([x].flatMap rqL):=fun w M=>by have:=(hg1 w M).to (j:=1) (by omega);rwa [List.take_of_length_le (by rw[flat_lenE (f:=rqL) inferInstance];simp)] at this
 have hmin:(if ((size:Int) - (q.length:Int))<((1:Nat):Int) then ((size:Int) - (q.length:Int)) else ((1:Nat):Int))=((1:Nat):Int):=by rw[if_neg];omega
 (refine zGe Tryz.func140 ?_;intro a F;(try simp only[zc,zn] at M))
 (try refine zI zk140 F M ?_;clear F M a;try clear w);(repeat'(first|refine zV (h:=⟨_,by((first|(apply rt_min2;(exact rfl);(exact rfl);(exact hmin))|(apply rt_to;(exact rfl);(exact rfl);(exact rfl);(exact inferInstance);omega))),?_⟩)|refine zA1 ?_;repeat intro(nb:Nat)|refine zC ?_;refine kp (k:=205) (rgq_free b size q _) ?_|refine zB ?_ ?_<;>intro hc<;>try exact no hc|refine zH ?_ ?_<;>(intro hg;rw[hg];try exact no hg)));all_goals try refine zO fun a w F M=>?_
 refine svLoop F M (0:Nat) (fun k=>[(17,.int .i64 k)]) (fun k=>[rgqA b size (q++[x].take k)]) (fun k=>k≤1) (fun k=>1 - k) [] (by simp) ?_ (hR:=by rw[List.take_zero,List.append_nil];(repeat (first|exact Pulls.nil|(apply Pulls.cons;(focus ((repeat (first|exact Pull.here|apply Pull.there));done))))))
 (rintro k q1 a w F M;(try simp only[zc,zn] at F M q1 ⊢))
 by_cases hk:k=0
 ·subst hk
  rw[List.take_zero,List.append_nil] at M
  have hx:[x][0]? = some x:=rfl
  (try refine zI zk140 F M ?_;clear F M a;try clear w);(repeat'(first|refine zV (h:=⟨_,by((first|(apply rt_min2;(exact rfl);(exact rfl);(exact hmin))|(apply rt_to;(exact rfl);(exact rfl);(exact rfl);(exact inferInstance);omega))),?_⟩)|refine zA1 ?_;repeat intro(nb:Nat)|refine zC ?_;((refine acK (k:=206) (rgq_growA b size q hq _) ?_);rintro u L' ⟨z,hz,hroom,rfl,rfl⟩);obtain ⟨hf,h2,hm0,hm1⟩:=rgq_fl hz hroom;simp only[zc,zn]|refine zB ?_ ?_<;>intro hc<;>try exact no hc|refine zH ?_ ?_<;>(intro hg;rw[hg];try exact no hg)));all_goals try refine zO fun a w F M=>?_
  have hmod:(((z.f:Int)+(q.length:Int)) % (z.S.length:Int)).toNat=(z.f+q.length) % z.S.length:=by
   rw[show(z.f:Int)+(q.length:Int)=((z.f+q.length:Nat):Int) by omega,← Int.natCast_emod,Int.toNat_natCast]
  have hok:=rgq_push_ok (x:=x) hz hroom
  rw[← hmod] at hok
  obtain ⟨j,hj⟩:∃ j,(((z.f:Int)+(q.length:Int)) % (z.S.length:Int)).toNat=j:=⟨_,rfl⟩
  rw[hj] at hok
  obtain ⟨u0,hu0⟩:∃ u0,z.S[j]? = some u0:=⟨z.S[j]'(by omega),by simp⟩
  rw[← hj] at hu0
  (try refine zI zk140 F M ?_;clear F M a;try clear w);(repeat'(first|refine zV (h:=⟨_,by((first|(apply rt_min2;(exact rfl);(exact rfl);(exact hmin))|(apply rt_to;(exact rfl);(exact rfl);(exact rfl);(exact inferInstance);omega))),?_⟩)|refine zA1 ?_;repeat intro(nb:Nat)|refine zC ?_;(first|refine ac_storeEA (f:=rqL) (v:=sl z.h) (k:=2) rfl rfl inferInstance x rfl hu0 inferInstance (by(focus ((repeat (first|exact Rep.here|apply Rep.there));done))) ?_;rw[hj]|refine ac_storeE (f:=rqL) (v:=sl z.h) (k:=2) (i:=0) (xs:=z.S) rfl rfl inferInstance rfl rfl hu0 inferInstance rfl x rfl (by(focus ((repeat (first|exact Rep.here|apply Rep.there));done))) ?_;rw[hj])|refine zB ?_ ?_<;>intro hc<;>try exact no hc|refine zH ?_ ?_<;>(intro hg;rw[hg];try exact no hg)));all_goals try refine zO fun a w F M=>?_
  have e:(q.length:Int)+1=(((q++[x]).length:Nat):Int):=by simp
  rw[e] at M
  have M:=rgq_close hok (M.perms (permsA:Perms _ (rgqP b size (q++[x]) ⟨z.h,z.S.set j x,z.f⟩++(R++G))))
  exact sv_again F M 1 kpA permsA (by omega) (by omega)
 ·obtain rfl:k=1:=by omega
  (try refine zI zk140 F M ?_;clear F M a;try clear w);(repeat'(first|refine zV (h:=⟨_,by((first|(apply rt_min2;(exact rfl);(exact rfl);(exact hmin))|(apply rt_to;(exact rfl);(exact rfl);(exact rfl);(exact inferInstance);omega))),?_⟩)|refine zA1 ?_;repeat intro(nb:Nat)|refine zC ?_;(first|refine ac_storeEA (f:=rqL) (v:=sl z.h) (k:=2) rfl rfl inferInstance x rfl hu0 inferInstance (by(focus ((repeat (first|exact Rep.here|apply Rep.there));done))) ?_;rw[hj]|refine ac_storeE (f:=rqL) (v:=sl z.h) (k:=2) (i:=0) (xs:=z.S) rfl rfl inferInstance rfl rfl hu0 inferInstance rfl x rfl (by(focus ((repeat (first|exact Rep.here|apply Rep.there));done))) ?_;rw[hj])|refine zB ?_ ?_<;>intro hc<;>try exact no hc|refine zH ?_ ?_<;>(intro hg;rw[hg];try exact no hg)));all_goals exact zXz
theorem rgq_pushF (b size:Nat) (q:List (Nat × Int)) (x:Nat × Int) (v:SlH) (R:List Asn) (hg:GS R 2 (sl v) 1 ([x].flatMap rqL)) (hv:v.n=1∧1≤v.c) (hq:q.length=size) (hs:size≤4096):Spec 140 [ptr b,sl v] (rgqA b size q::R) fun u L'=>u=.int .i64 0∧L'=rgqA b size q::R:=by
 obtain ⟨hv1,hv2⟩:=hv
 intro G w M
 have hg1:GS (R++G) 2 (sl v) 1 ([x].flatMap rqL):=hg.imp fun w M=>M.drop_app
 have hg2:GS (R++G) 2 (sl ⟨v.a,0,v.c⟩) ([]:List (Nat × Int)).length (([]:List (Nat × Int)).flatMap rqL):=fun w M=>by have:=(hg1 w M).to (j:=0) (by omega);simpa using this
 have hmin:(if ((size:Int) - (q.length:Int))<((1:Nat):Int) then ((size:Int) - (q.length:Int)) else ((1:Nat):Int))=((0:Nat):Int):=by rw[if_pos]<;>omega
 (refine zGe Tryz.func140 ?_;intro a F;(try simp only[zc,zn] at M))
 (try refine zI zk140 F M ?_;clear F M a;try clear w);(repeat'(first|refine zV (h:=⟨_,by((first|(apply rt_min2;(exact rfl);(exact rfl);(exact hmin))|(apply rt_to;(exact rfl);(exact rfl);(exact rfl);(exact inferInstance);omega))),?_⟩)|refine zA1 ?_;repeat intro(nb:Nat)|refine zC ?_;refine kp (k:=205) (rgq_free b size q _) ?_|refine zB ?_ ?_<;>intro hc<;>try exact no hc|refine zH ?_ ?_<;>(intro hg;rw[hg];try exact no hg)));all_goals try refine zO fun a w F M=>?_
 refine svLoop F M (0:Nat) (fun k=>[(17,.int .i64 k)]) (fun _=>[]) (fun k=>k=0) (fun k=>1 - k) [] rfl ?_
 (rintro k q1 a w F M;(try simp only[zc,zn] at F M q1 ⊢))
 subst q1
 (try refine zI zk140 F M ?_;clear F M a;try clear w);(repeat'(first|refine zV (h:=⟨_,by((first|(apply rt_min2;(exact rfl);(exact rfl);(exact hmin))|(apply rt_to;(exact rfl);(exact rfl);(exact rfl);(exact inferInstance);omega))),?_⟩)|refine zA1 ?_;repeat intro(nb:Nat)|refine zB ?_ ?_<;>intro hc<;>try exact no hc|refine zH ?_ ?_<;>(intro hg;rw[hg];try exact no hg)));all_goals exact zXz
end
section
open Go.RowKit
abbrev cuC (b:Nat) (at':Nat):Asn:=pt b [.int .i64 (at':Int)] 211
theorem cu_new (R:List Asn):Spec 71 [] R fun u L'=>∃ b,u=ptr b∧L'=cuC b 0::R:=by
 refine zGz zk71 Tryz.func71 ?_;intro G;(repeat'(first|refine zA ?_;repeat intro nb|refine zB ?_ ?_<;>intro hc<;>try exact no hc|refine zH ?_ ?_<;>(intro hg;rw[hg];try exact no hg)));all_goals try refine zO fun a w F M=>?_
 (all_goals(refine zE F M ?_;exact⟨_,_,rfl,⟨nb,rfl,rfl⟩,M.perms permsA⟩))
theorem cu_at (b at':Nat) (R:List Asn):Spec 50 [ptr b] (cuC b at'::R) fun u L'=>u=.int .i64 at'∧L'=cuC b at'::R:=by
 refine zGz zk50 Tryz.func50 ?_;intro G;(repeat'(first|refine zA ?_;repeat intro nb|refine zB ?_ ?_<;>intro hc<;>try exact no hc|refine zH ?_ ?_<;>(intro hg;rw[hg];try exact no hg)));all_goals exact zXz
theorem ln_new (size:Nat) (h:1≤size∧size≤4096) (R:List Asn):Spec 73 [.int .i64 size] R fun u L'=>∃ b r0 r1,u=ptr b∧L'=lnP b r0 r1 size [] [] R:=by
 obtain ⟨h1,h2⟩:=h
 refine zGz zk73 Tryz.func73 ?_;intro G;(repeat'(first|refine zA ?_;repeat intro nb|refine zB ?_ ?_<;>intro hc<;>try exact no hc|refine zH ?_ ?_<;>(intro hg;rw[hg];try exact no hg)));all_goals try refine zO fun a w F M=>?_
 have e1:¬((1:Nat)≤0):=by omega
 have e2:¬((2:Nat)≤0):=by omega
 have e3:¬((2:Nat)≤1):=by omega
 have e4:(1:Nat)≤2:=by omega
 refine svLoop F M ((0,0,0):Nat × Nat × Nat) (fun z=>[(13,.int .i64 z.1)]) (fun z=>pt nb [if 1≤z.1 then ptr z.2.1 else .pointer none,if 2≤z.1 then ptr z.2.2 else .pointer none] 226::((if 1≤z.1 then [rgnA z.2.1 size []] else [])++(if 2≤z.1 then [rgnA z.2.2 size []] else []))) (fun z=>z.1≤2) (fun z=>2 - z.1) [] (by simp) ?_ (hR:=by simp only[e1,e2,if_false,List.append_nil];(repeat (first|exact Pulls.nil|(apply Pulls.cons;(focus ((repeat (first|exact Pull.here|apply Pull.there));done))))))
 (rintro⟨k,r0,r1⟩ q1 a w F M;(try simp only[zc,zn] at F M q1 ⊢))
 try dsimp only at q1
 rcases (by omega:k=0∨k=1∨k=2) with rfl|rfl|rfl
 ·simp only[e1,e2,if_false,List.append_nil,zn,zc] at M
  (try refine zI zk73 F M ?_;clear F M a;try clear w);(repeat'(first|refine zA ?_;repeat intro nb|refine zC ?_;refine acW (k:=74) (rgn_new size ⟨h1,h2⟩ _) ?_;rintro u L' ⟨r,rfl,rfl⟩|refine zB ?_ ?_<;>intro hc<;>try exact no hc|refine zH ?_ ?_<;>(intro hg;rw[hg];try exact no hg)));all_goals try refine zO fun a w F M=>?_
  exact sv_again F M (1,r,0) kpA (by simp only[Nat.le_refl,e3,if_true,if_false,zc,List.append_nil,zn];exact permsA) (by dsimp only;omega) (by dsimp only;omega)
 ·simp only[Nat.le_refl,e3,if_true,if_false,List.append_nil,zn,zc] at M
  (try refine zI zk73 F M ?_;clear F M a;try clear w);(repeat'(first|refine zA ?_;repeat intro nb|refine zC ?_;refine acW (k:=74) (rgn_new size ⟨h1,h2⟩ _) ?_;rintro u L' ⟨r,rfl,rfl⟩|refine zB ?_ ?_<;>intro hc<;>try exact no hc|refine zH ?_ ?_<;>(intro hg;rw[hg];try exact no hg)));all_goals try refine zO fun a w F M=>?_
  exact sv_again F M (2,r0,r) kpA (by simp only[Nat.le_refl,e4,if_true,if_false,zc,List.append_nil,zn];exact permsA) (by dsimp only;omega) (by dsimp only;omega)
 ·simp only[Nat.le_refl,e4,if_true,List.append_nil,zn,zc] at M
  (try refine zI zk73 F M ?_;clear F M a;try clear w);(repeat'(first|refine zA ?_;repeat intro nb|refine zB ?_ ?_<;>intro hc<;>try exact no hc|refine zH ?_ ?_<;>(intro hg;rw[hg];try exact no hg)));all_goals try refine zO fun a w F M=>?_
  (all_goals(refine zE F M ?_;exact⟨_,_,rfl,⟨nb,r0,r1,rfl,rfl⟩,M.perms permsA⟩))
structure EH where
 rg:Nat
 ck:Nat
 ld:Nat
 bo:Nat
 lv:SlH
 cu:Nat
 mt:Nat
 ln:Nat
 r0:Nat
 r1:Nat
 pe:Nat
 me:Nat
 pa:Nat
def engC (H:EH) (c:Cfg):List Value:=[ptr H.rg,.int .i64 c.capacity,.int .i64 c.queueSize,.int .u64 c.minDeposit,.int .u64 c.maxDeposit,.int .u64 c.supplyCap,.int .u64 c.minBalance,.int .u64 c.maxBalance,.int .u64 c.minChurn,.int .u64 c.quotient,.int .u64 c.forcedCap,
 .int .i64 c.unbonding,.int .i64 c.slashDelay,.int .i64 c.ringLen,.int .i64 c.epochLen,.int .i64 c.visits,.int .i64 c.payments,.int .i64 c.partials,.int .i64 c.merges,.int .u64 c.penNum,.int .u64 c.penDen,
 ptr H.ck,ptr H.ld,ptr H.bo,sl H.lv,ptr H.cu,ptr H.mt,ptr H.ln,ptr H.pe,ptr H.me,ptr H.pa]
abbrev qS (c:Cfg):Nat:=c.queueSize.toNat
abbrev engL (b:Nat) (H:EH) (c:Cfg) (s:St) (R:List Asn):List Asn :=
 pt b (engC H c) 122::regA H.rg c.capacity s.V::ckC H.ck s.bk c.epochLen::ldC H.ld s.dep s.pd s.bu c.supplyCap::bkA H.bo c.ringLen.toNat s.bo::ownT 3 natL 1 (sl H.lv) s.lv::cuC H.cu s.at'::mtA H.mt s.ca ::
 lnC H.ln H.r0 H.r1::rgnA H.r0 (qS c) s.fo::rgnA H.r1 (qS c) s.vo::rgnA H.pe (qS c) s.pe::rgpA H.me (qS c) s.me::rgqA H.pa (qS c) s.pa::R
theorem eng_new (c:Cfg) (hc:CfOk c) (hk:checkF c=0) (R:List Asn):Spec 24 [cfgV c] R fun u L'=>∃ b H,u=.tuple [ptr b,.int .i64 0].toArray∧L'=engL b H c St.ini R:=by
 have q1:=hc.qs
 have q2:=hc.rl
 obtain ⟨qs,hqs⟩:∃ qs:Nat,c.queueSize=qs:=⟨c.queueSize.toNat,by omega⟩
 obtain ⟨rl,hrl⟩:∃ rl:Nat,c.ringLen=rl:=⟨c.ringLen.toNat,by omega⟩
 have hq:qS c=qs:=by simp only[qS,hqs,Int.toNat_natCast]
 have hr:c.ringLen.toNat=rl:=by rw[hrl,Int.toNat_natCast]
 have n1:∀ R,Spec 74 [.int .i64 c.queueSize] R fun u L'=>∃ b,u=ptr b∧L'=rgnA b (qS c) []::R:=fun R=>by rw[hq,hqs];exact rgn_new qs (by omega) R
 have n2:∀ R,Spec 75 [.int .i64 c.queueSize] R fun u L'=>∃ b,u=ptr b∧L'=rgpA b (qS c) []::R:=fun R=>by rw[hq,hqs];exact rgp_new qs (by omega) R
 have n3:∀ R,Spec 76 [.int .i64 c.queueSize] R fun u L'=>∃ b,u=ptr b∧L'=rgqA b (qS c) []::R:=fun R=>by rw[hq,hqs];exact rgq_new qs (by omega) R
 have n4:∀ R,Spec 73 [.int .i64 c.queueSize] R fun u L'=>∃ b r0 r1,u=ptr b∧L'=lnP b r0 r1 (qS c) [] [] R:=fun R=>by rw[hq,hqs];exact ln_new qs (by omega) R
 have n5:∀ R,Spec 70 [.int .i64 c.ringLen] R fun u L'=>∃ b,u=ptr b∧L'=bkA b c.ringLen.toNat []::R:=fun R=>by rw[hr,hrl];exact bk_new rl R (by omega)
 have hv:=fun R=>valid_spec c R
 rw[hk] at hv
 refine zGz zk24 Tryz.func24 ?_;intro G;(repeat'(first|refine zA ?_;repeat intro nb|refine zC ?_;(first|refine kpW (k:=66) (hv _) ?_|refine acW (k:=67) (reg_new c.capacity _ hc.ca) ?_;rintro u L' ⟨rg,rfl,rfl⟩|refine acW (k:=68) (clk_new c.epochLen hc.el _) ?_;rintro u L' ⟨ck,rfl,rfl⟩|refine acW (k:=69) (led_new c.supplyCap _) ?_;rintro u L' ⟨ld,rfl,rfl⟩|refine acW (k:=70) (n5 _) ?_;rintro u L' ⟨bo,rfl,rfl⟩|refine acW (k:=71) (cu_new _) ?_;rintro u L' ⟨cu,rfl,rfl⟩|refine acW (k:=72) (mt_new _) ?_;rintro u L' ⟨mt,rfl,rfl⟩|refine acW (k:=73) (n4 _) ?_;rintro u L' ⟨ln,r0,r1,rfl,rfl⟩|refine acW (k:=74) (n1 _) ?_;rintro u L' ⟨pe,rfl,rfl⟩|refine acW (k:=75) (n2 _) ?_;rintro u L' ⟨me,rfl,rfl⟩|refine acW (k:=76) (n3 _) ?_;rintro u L' ⟨pa,rfl,rfl⟩)|refine zB ?_ ?_<;>intro hc<;>try exact no hc|refine zH ?_ ?_<;>(intro hg;rw[hg];try exact no hg)));all_goals try refine zO fun a w F M=>?_
 all_goals refine zE F M ?_
 replace M:=M.own_nil 3 1
 exact⟨_,_,rfl,⟨nb,⟨rg,ck,ld,bo,nilH,cu,mt,ln,r0,r1,pe,me,pa⟩,rfl,rfl⟩,M.perms permsA⟩
end
section
open Go.RowKit
structure Sn where
 bk:Int
 ep:Int
 dep:Int
 pd:Int
 bu:Int
 ac:Int
 at':Int
 ca:Int
 un:Int
 hV:SlH
 hP:SlH
 hF:SlH
 hO:SlH
 hM:SlH
 hQ:SlH
def snL (x:Sn):List Value:=[.int .i64 x.bk,.int .i64 x.ep,sl x.hV,.int .u64 x.dep,.int .u64 x.pd,.int .u64 x.bu,.int .u64 x.ac,sl x.hP,sl x.hF,sl x.hO,sl x.hM,sl x.hQ,.int .i64 x.at',.int .u64 x.ca,.int .i64 x.un]
abbrev snV (x:Sn):Value:=.agg (snL x).toArray
def snOf (c:Cfg) (s:St) (hV hP hF hO hM hQ:SlH):Sn:=⟨s.bk,epo c s,s.dep,s.pd,s.bu,actv s.V,s.at',s.ca,s.bo.length,hV,hP,hF,hO,hM,hQ⟩
theorem actv_le:∀ (V:List Val),(∀ x∈bals V,0≤x)→0≤actv V∧actv V≤(bals V).sum
 | [],_=>by simp[actv,bals]
 | v::V,h=>by
  have h1:∀ x∈bals V,0≤x:=fun x hx=>h x (List.mem_cons_of_mem _ hx)
  have:=actv_le V h1
  have h0:0≤v.bal:=h v.bal (List.mem_cons_self ..)
  have e1:(bals (v::V)).sum=v.bal+(bals V).sum:=rfl
  have e2:actv (v::V)=if v.live=true then v.bal+actv V else actv V:=by
   unfold actv bals;rw[List.filter_cons];split<;>rfl
  rw[e1,e2];split<;>omega
theorem snap_spec (b:Nat) (H:EH) (c:Cfg) (s:St) (hc:CfOk c) (hi:Inv c s) (R:List Asn):Spec 13 [ptr b] (engL b H c s R) fun u L'=>∃ hV hP hF hO hM hQ,u=snV (snOf c s hV hP hF hO hM hQ)∧L'=ownT 62 valL 7 (sl hV) s.V::ownT 3 natL 1 (sl hP) s.pe::ownT 3 natL 1 (sl hF) s.fo::ownT 3 natL 1 (sl hO) s.vo::ownT 77 prL 2 (sl hM) s.me::ownT 79 rqL 2 (sl hQ) s.pa::engL b H c s R:=by
 have hcap:=hi.cap
 have hca:=hc.ca
 have hqs:=hc.qs
 obtain ⟨l1,l2,l3,l4,l5⟩:=hi.ql
 have hac:=actv_le s.V hi.bal0
 have hsup:=hi.sup
 have hsc:=hc.sc
 have hbk:=hi.bk
 refine zGz zk13 Tryz.func13 ?_;intro G;(repeat'(first|refine zA ?_;repeat intro nb|refine zC ?_;(first|refine kp (k:=41) (led_totals H.ld s.dep s.pd s.bu c.supplyCap _) ?_|refine kp (k:=42) (clk_block H.ck s.bk c.epochLen _) ?_|refine kp (k:=43) (clk_epoch H.ck s.bk c.epochLen hc.el (by omega) _) ?_|refine acK (k:=44) (reg_all H.rg c.capacity s.V (by omega) _) ?_;rintro u L' ⟨hV,rfl,rfl⟩|refine kp (k:=45) (reg_active H.rg c.capacity s.V _ ⟨by omega,by omega⟩) ?_|refine acK (k:=46) (rgn_all H.pe (qS c) s.pe (by omega) _) ?_;rintro u L' ⟨hP,rfl,rfl⟩|refine acK (k:=47) (lall0 H.ln H.r0 H.r1 (qS c) s.fo s.vo _ (by omega)) ?_;rintro u L' ⟨hF,rfl,rfl⟩|refine acK (k:=47) (lall1 H.ln H.r0 H.r1 (qS c) s.fo s.vo _ (by omega)) ?_;rintro u L' ⟨hO,rfl,rfl⟩|refine acK (k:=48) (rgp_all H.me (qS c) s.me (by omega) _) ?_;rintro u L' ⟨hM,rfl,rfl⟩|refine acK (k:=49) (rgq_all H.pa (qS c) s.pa (by omega) _) ?_;rintro u L' ⟨hQ,rfl,rfl⟩|refine kp (k:=50) (cu_at H.cu s.at' _) ?_|refine kp (k:=51) (mt_bal H.mt s.ca _ hi.ca) ?_|refine kp (k:=52) (bk_len H.bo c.ringLen.toNat s.bo _) ?_)|refine zB ?_ ?_<;>intro hc<;>try exact no hc|refine zH ?_ ?_<;>(intro hg;rw[hg];try exact no hg)));all_goals try refine zO fun a w F M=>?_
 all_goals refine zE F M ?_
 all_goals exact⟨_,_,rfl,⟨hV,hP,hF,hO,hM,hQ,rfl,rfl⟩,M.perms permsA⟩
end
section
open Go.RowKit
set_option maxHeartbeats 400000 in
theorem rMax1_any (w:World):Calls Tryz.prog 289 #[] w fun e w'=>e=.returned (.int .u64 18446744073709551615)∧w=w':=by
  go_enter Tryz.func289,Tryz.ntmps289
  go_wp2
  go_ret
  exact⟨rfl,rfl⟩
set_option maxHeartbeats 1000000 in
theorem rAdd_lo (q r x d:Int) (w:World) (r0:0≤r) (x0:0≤x) (xd:x≤d) (d1:d≤18446744073709551615) (h:r<d - x) :
    Calls Tryz.prog 338 #[.int .u64 q,.int .u64 r,.int .u64 x,.int .u64 d] w fun e w'=>e=.returned (.tuple #[.int .u64 q,.int .u64 (r+x),.bool true])∧w=w':=by
  go_enter Tryz.func338,Tryz.ntmps338
  go_wp2_with (go_at_call 289;refine(rMax1_any _).mono ?_;rintro e w' ⟨rfl,rfl⟩)
  go_ret3
  exact⟨rfl,rfl⟩
set_option maxHeartbeats 1000000 in
theorem rAdd_hi (q r x d:Int) (w:World) (q0:0≤q) (q1:q≤18446744073709551614) (r0:0≤r) (rd:r≤d) (x0:0≤x) (xd:x≤d) (d1:d≤18446744073709551615) (h:¬r<d - x) :
    Calls Tryz.prog 338 #[.int .u64 q,.int .u64 r,.int .u64 x,.int .u64 d] w fun e w'=>e=.returned (.tuple #[.int .u64 (q+1),.int .u64 (r - (d - x)),.bool true])∧w=w':=by
  have hb:(q == 18446744073709551615)=false:=by rw[beq_eq_false_iff_ne];omega
  go_enter Tryz.func338,Tryz.ntmps338
  go_wp2_with (go_at_call 289;refine(rMax1_any _).mono ?_;rintro e w' ⟨rfl,rfl⟩)
  go_ret3
  exact⟨rfl,rfl⟩
set_option maxHeartbeats 1000000 in
theorem rAdd_over (r x d:Int) (w:World) (r0:0≤r) (x0:0≤x) (xd:x≤d) (d1:d≤18446744073709551615) (h:¬r<d - x) :
    Calls Tryz.prog 338 #[.int .u64 18446744073709551615,.int .u64 r,.int .u64 x,.int .u64 d] w fun e w'=>e=.returned (.tuple #[.int .u64 0,.int .u64 0,.bool false])∧w=w':=by
  go_enter Tryz.func338,Tryz.ntmps338
  go_wp2_with (go_at_call 289;refine(rMax1_any _).mono ?_;rintro e w' ⟨rfl,rfl⟩)
  go_ret3
  exact⟨rfl,rfl⟩
theorem rAdd_any (q r x d:Int) (q0:0≤q) (q1:q≤18446744073709551615) (r0:0≤r) (rd:r<d) (x0:0≤x) (xd:x<d) (d1:d≤18446744073709551615) :
    (∃ q' r',(∀ w,Calls Tryz.prog 338 #[.int .u64 q,.int .u64 r,.int .u64 x,.int .u64 d] w fun e w'=>e=.returned (.tuple #[.int .u64 q',.int .u64 r',.bool true])∧w=w') ∧
      q'*d+r'=q*d+r+x∧0≤q'∧q'≤18446744073709551615∧0≤r'∧r'<d) ∨
    ((∀ w,Calls Tryz.prog 338 #[.int .u64 q,.int .u64 r,.int .u64 x,.int .u64 d] w fun e w'=>e=.returned (.tuple #[.int .u64 0,.int .u64 0,.bool false])∧w=w') ∧
      q=18446744073709551615∧d≤r+x):=by
  by_cases h:r<d - x
  · exact .inl ⟨q,r+x,fun w=>rAdd_lo q r x d w r0 x0 (by omega) d1 h,by omega,q0,q1,by omega,by omega⟩
  · by_cases hq:q=18446744073709551615
    · subst hq
      exact .inr ⟨fun w=>rAdd_over r x d w r0 x0 (by omega) d1 h,rfl,by omega⟩
    · refine .inl ⟨q+1,r - (d - x),fun w=>rAdd_hi q r x d w q0 (by omega) r0 (by omega) x0 (by omega) d1 h,?_,by omega,by omega,by omega,by omega⟩
      rw[Int.add_mul];omega
theorem up_le {a b d p B:Int} (ha:0≤a) (hp:0≤p) (hB:B*p≤b) {n:Int} (h:n*d≤a*B):n*p*d≤a*b:=by
  have h1:a*(B*p)≤a*b:=Int.mul_le_mul_of_nonneg_left hB ha
  have h2:n*d*p≤a*B*p:=Int.mul_le_mul_of_nonneg_right h hp
  rw[Int.mul_right_comm n p d]
  exact Int.le_trans h2 (by rw[Int.mul_assoc];exact h1)
theorem pow_split (b:Int) (k:Nat):b / 2 ^ k=2*(b / 2 ^ (k+1))+b / 2 ^ k % 2∧(b / 2 ^ k % 2=0∨b / 2 ^ k % 2=1):=by
  have e:b / 2 ^ (k+1)=b / 2 ^ k / 2:=by rw[Int.pow_succ,Int.ediv_ediv_of_nonneg (Int.le_of_lt (Int.pow_pos (by decide)))]
  rw[e];omega
theorem pow_le (b:Int) (k:Nat):b / 2 ^ k*2 ^ k≤b:=Int.ediv_mul_le _ (Int.ne_of_gt (Int.pow_pos (by decide)))
theorem big_of {a b d n:Int} {k:Nat} (ha:0≤a) (hd:0≤d) (hn:18446744073709551616≤n*2 ^ k) (h:n*d≤a*(b / 2 ^ k)):d*18446744073709551616≤a*b:=by
  have h1:=up_le (p:=2 ^ k) ha (Int.le_of_lt (Int.pow_pos (by decide))) (pow_le b k) h
  have h2:=Int.mul_le_mul_of_nonneg_right hn hd
  rw[Int.mul_comm d]
  exact Int.le_trans h2 h1
theorem and_one (x:Int) (h0:0≤x) (h1:x≤18446744073709551615):bits .and .u64 x 1=x % 2:=by
  obtain ⟨n,rfl⟩:=Int.eq_ofNat_of_zero_le h0
  rw[show(1:Int)=((1:Nat):Int) from rfl,bits_and_u64_nat _ _ (by omega) (by decide),Nat.and_one_is_mod]
  simp
theorem shr_le {b:Int} (h0:0≤b) (k:Nat):0≤b / 2 ^ k∧b / 2 ^ k≤b:=by
  refine⟨Int.ediv_nonneg h0 (Int.le_of_lt (Int.pow_pos (by decide))),?_⟩
  have h1:=pow_le b k
  have h2:0≤b / 2 ^ k:=Int.ediv_nonneg h0 (Int.le_of_lt (Int.pow_pos (by decide)))
  have h3:(1:Int)≤2 ^ k:=Int.pow_pos (by decide)
  have h4:=Int.mul_le_mul_of_nonneg_left h3 h2
  omega
theorem pow_one_le (k:Nat):(1:Int)≤2 ^ k:=Int.pow_pos (by decide)
set_option maxRecDepth 100000 in
set_option maxHeartbeats 1000000 in
theorem rMulDiv_any (a b d:Int) (w:World) (ha0:0≤a) (ha:a≤18446744073709551615) (hb0:0≤b) (hb:b≤18446744073709551615) (hd0:0≤d) (hd:d≤18446744073709551615) :
    Calls Tryz.prog 294 #[.int .u64 a,.int .u64 b,.int .u64 d] w fun e w'=>e=.returned (.tuple #[.int .u64 (mulF a b d),.bool (mulB a b d)])∧w=w':=by
  have hF:∀ (x:Int) (t:Bool),mulF a b d=x→mulB a b d=t→(Ending.returned (.tuple #[.int .u64 x,.bool t])=.returned (.tuple #[.int .u64 (mulF a b d),.bool (mulB a b d)])):=fun x t h1 h2=>by rw[h1,h2]
  have hno:d*18446744073709551616≤a*b→mulF a b d=0∧mulB a b d=false:=fun h=>by
    unfold mulF mulB
    exact⟨if_neg (by omega),decide_eq_false (by omega)⟩
  by_cases hz:d=0
  · subst hz
    have h1:=hno (by have:=Int.mul_nonneg ha0 hb0;omega)
    have H1:=Lib.hid h1
    have HF:=Lib.hid (hF 0 false)
    clear h1 hno hF
    go_enter Tryz.func294,Tryz.ntmps294
    go_wp2
    go_ret2
    exact⟨HF.out H1.out.1 H1.out.2,rfl⟩
  · have d1:1≤d:=by omega
    have hbz:(d == 0)=false:=by rw[beq_eq_false_iff_ne];omega
    have HNO:=Lib.hid hno
    have HFF:=Lib.hid hF
    clear hz hno hF
    go_enter Tryz.func294,Tryz.ntmps294
    go_wp2
    go_loop [8,9,10,11,12] (fun q r i _ _=>∃ (q' r':Int) (k:Nat),q=.int .u64 q'∧r=.int .u64 r'∧i=.int .i64 ((k:Int) - 1)∧k≤64∧0≤q'∧q'≤18446744073709551615∧0≤r'∧r'<d∧Hid (q'*d+r'=a*(b / 2 ^ k))) (fun _ _ i _ _=>(intOf i+1).toNat)
    case atStart =>
      refine⟨0,0,64,rfl,rfl,rfl,by omega,by omega,by omega,by omega,by omega,?_⟩
      show _=_
      rw[Int.ediv_eq_zero_of_lt hb0 (by omega)];simp
    case round =>
      obtain ⟨q,r,k,rfl,rfl,rfl,hk,q0,q1,r0,rd,HI⟩:=hrel
      cases k with
      | zero =>
        have e1:q*d+r=a*b:=by have:=HI.out;simpa using this
        have h2:mulF a b d=q∧mulB a b d=true:=by
          unfold mulF mulB
          have e2:a*b / d=q:=by rw[← e1,Int.add_comm,Int.add_mul_ediv_right _ _ (by omega),Int.ediv_eq_zero_of_lt r0 rd];omega
          have h3:a*b<d*18446744073709551616:=by
            have:q*d≤18446744073709551615*d:=Int.mul_le_mul_of_nonneg_right q1 (by omega)
            omega
          exact⟨by rw[if_pos h3,e2],decide_eq_true h3⟩
        have H2:=Lib.hid h2
        clear h2 e1 HI
        go_wp2
        go_ret2
        exact⟨HFF.out _ _ H2.out.1 H2.out.2,rfl⟩
      | succ k =>
        have hk1:k≤63:=by omega
        by_cases c1:9223372036854775807<q
        · have h1 := HNO.out (big_of (k := k + 1) (n := q) ha0 hd0 (by rw [Int.pow_succ]; have := pow_one_le k; have h2 : q * (2 ^ k * 2) = (q * 2) * 2 ^ k := by rw [Int.mul_comm (2 ^ k) 2, Int.mul_assoc]
                                                                       rw[h2];have h3:=Int.mul_le_mul (show 18446744073709551616≤q*2 by omega) this (by omega) (by omega);omega) (by have:=HI.out;omega))
          have H1:=Lib.hid h1
          clear h1 HI
          go_wp2_with (go_at_call 289;refine(rMax1_any _).mono ?_;rintro e w' ⟨rfl,rfl⟩)
          go_ret2
          exact⟨HFF.out _ _ H1.out.1 H1.out.2,rfl⟩
        · rcases rAdd_any (2*q) r r d (by omega) (by omega) r0 rd r0 rd hd with⟨qa,ra,hc1,he1,qa0,qa1,ra0,rad⟩|⟨_,hbad,_⟩
          · have HC1:=Lib.hid hc1
            have HE1:=Lib.hid he1
            have c1':q≤9223372036854775807:=by omega
            obtain ⟨hsplit,hbit⟩:=pow_split b k
            have hIa:qa*d+ra=a*(2*(b / 2 ^ (k+1))):=by
              have h1:=HI.out
              rw[Int.mul_left_comm,← h1,he1,Int.mul_assoc];omega
            have hb2:=shr_le hb0 k
            have hand:=and_one (b / 2 ^ k) hb2.1 (by omega)
            have hmin:min k 64=k:=by omega
            have ek:(((k+1:Nat):Int) - 1)=(k:Int):=by omega
            rw[ek]
            clear ek hc1 he1 HI
            rcases hbit with hbit|hbit
            · have HIN:Hid (qa*d+ra=a*(b / 2 ^ k)):=by
                show _=_
                rw[hIa,show 2*(b / 2 ^ (k+1))=b / 2 ^ k by omega]
              rw[hbit] at hand
              clear hbit hsplit hIa c1
              go_wp2_with (first
                | (go_at_call 289;refine(rMax1_any _).mono ?_;rintro e w' ⟨rfl,rfl⟩)
                | (go_at_call 338;refine(HC1.out _).mono ?_;rintro e w' ⟨rfl,rfl⟩))
              go_round
              case rel=>exact⟨qa,ra,k,rfl,rfl,rfl,by omega,qa0,qa1,ra0,rad,HIN⟩
              case measure=>simp[intOf]<;>omega
            · have hsum:qa*d+ra+a=a*(b / 2 ^ k):=by
                rw[hIa,show b / 2 ^ k=2*(b / 2 ^ (k+1))+1 by omega,Int.mul_add,Int.mul_one]
              have hdm:=Int.mul_ediv_add_emod a d
              have hm0:=Int.emod_nonneg a (show d≠0 by omega)
              have hm1:=Int.emod_lt_of_pos a (show 0<d by omega)
              have hdiv0:0≤a / d:=Int.ediv_nonneg ha0 hd0
              have hdiv1:a / d≤18446744073709551615:=Int.le_trans (Int.ediv_le_self d ha0) ha
              have hpk:=pow_one_le k
              rw[hbit] at hand
              clear hbit hsplit hIa c1
              have HSUM:=Lib.hid hsum
              have HDM:=Lib.hid hdm
              have hq:IntKind.u64.wrap (a / d)=a / d:=u64_id hdiv0 (by omega)
              clear hsum hdm
              by_cases c2:18446744073709551615 - qa<a / d
              · have h1:=HNO.out (big_of (k:=k) (n:=qa+a / d) ha0 hd0 (by have h3:=Int.mul_le_mul (show 18446744073709551616≤qa+a / d by omega) hpk (by omega) (by omega);omega) (by
                  have:=HSUM.out;have:=HDM.out;rw[Int.add_mul,Int.mul_comm (a / d)];omega))
                have H1:=Lib.hid h1
                clear h1
                go_wp2_with (first
                  | (go_at_call 289;refine(rMax1_any _).mono ?_;rintro e w' ⟨rfl,rfl⟩)
                  | (go_at_call 338;refine(HC1.out _).mono ?_;rintro e w' ⟨rfl,rfl⟩))
                go_ret2
                exact⟨HFF.out _ _ H1.out.1 H1.out.2,rfl⟩
              · rcases rAdd_any (qa+a / d) ra (a % d) d (by omega) (by omega) ra0 rad hm0 hm1 hd with⟨qb,rb,hc2,he2,qb0,qb1,rb0,rbd⟩|⟨hc2,hbad,hge⟩
                · have HIN:Hid (qb*d+rb=a*(b / 2 ^ k)):=by
                    show _=_
                    have h1:=HSUM.out
                    have h2:=HDM.out
                    rw[Int.add_mul,Int.mul_comm (a / d)] at he2
                    omega
                  have HC2:=Lib.hid hc2
                  clear hc2 he2
                  go_wp2_with (first
                    | (go_at_call 289;refine(rMax1_any _).mono ?_;rintro e w' ⟨rfl,rfl⟩)
                    | (go_at_call 338;((with_reducible refine(HC1.out _).mono ?_);rintro e w' ⟨rfl,rfl⟩))
                    | (go_at_call 338;((with_reducible refine(HC2.out _).mono ?_);rintro e w' ⟨rfl,rfl⟩)))
                  go_round
                  case rel=>exact⟨qb,rb,k,rfl,rfl,rfl,by omega,qb0,qb1,rb0,rbd,HIN⟩
                  case measure=>simp[intOf]<;>omega
                · have h1:=HNO.out (big_of (k:=k) (n:=qa+a / d+1) ha0 hd0 (by have h3:=Int.mul_le_mul (show 18446744073709551616≤qa+a / d+1 by omega) hpk (by omega) (by omega);omega) (by
                    have:=HSUM.out;have:=HDM.out;rw[Int.add_mul,Int.add_mul,Int.mul_comm (a / d)];omega))
                  have H1:=Lib.hid h1
                  have HC2:=Lib.hid hc2
                  clear h1 hc2 hbad
                  go_wp2_with (first
                    | (go_at_call 289;refine(rMax1_any _).mono ?_;rintro e w' ⟨rfl,rfl⟩)
                    | (go_at_call 338;((with_reducible refine(HC1.out _).mono ?_);rintro e w' ⟨rfl,rfl⟩))
                    | (go_at_call 338;((with_reducible refine(HC2.out _).mono ?_);rintro e w' ⟨rfl,rfl⟩)))
                  go_ret2
                  exact⟨HFF.out _ _ H1.out.1 H1.out.2,rfl⟩
          · exfalso;omega
end
section
open Go.RowKit
instance fnAp [IL 0]:FN 195 Tryz.f195 (zku zk195):=⟨Tryz.func195,inferInstance⟩
instance fnEv [IL 0]:FN 196 Tryz.f196 zk196:=⟨Tryz.func196,inferInstance⟩
instance fnEv1 [IL 0]:FN 285 Tryz.f285 zk285:=⟨Tryz.func285,inferInstance⟩
instance fnDl [IL 0]:FN 197 Tryz.f197 zk197:=⟨Tryz.func197,inferInstance⟩
instance fnDl1 [IL 0]:FN 286 Tryz.f286 zk286:=⟨Tryz.func286,inferInstance⟩
instance fnAc [IL 0]:FN 279 Tryz.f279 zk279:=⟨Tryz.func279,inferInstance⟩
instance fnAs [IL 0]:FN 320 Tryz.f320 zk320:=⟨Tryz.func320,inferInstance⟩
instance fnSl1 [IL 0]:FN 192 Tryz.f192 zk192:=⟨Tryz.func192,inferInstance⟩
instance fnSl2 [IL 0]:FN 193 Tryz.f193 zk193:=⟨Tryz.func193,inferInstance⟩
instance fnAm [IL 0]:FN 194 Tryz.f194 zk194:=⟨Tryz.func194,inferInstance⟩
instance fnPy [IL 0]:FN 276 Tryz.f276 zk276:=⟨Tryz.func276,inferInstance⟩
instance fnLt [IL 0]:FN 280 Tryz.f280 (zku zk280):=⟨Tryz.func280,inferInstance⟩
instance fnMx [IL 0]:FN 287 Tryz.f287 (zku zk287):=⟨Tryz.func287,inferInstance⟩
instance fnMx2 [IL 0]:FN 332 Tryz.f332 (zku zk332):=⟨Tryz.func332,inferInstance⟩
instance fnRe [IL 0]:FN 209 Tryz.f209 zk209:=⟨Tryz.func209,inferInstance⟩
instance fnRm [IL 0]:FN 290 Tryz.f290 zk290:=⟨Tryz.func290,inferInstance⟩
instance fnRl [IL 0]:FN 215 Tryz.f215 (zku zk215):=⟨Tryz.func215,inferInstance⟩
instance fnRa [IL 0]:FN 216 Tryz.f216 zk216:=⟨Tryz.func216,inferInstance⟩
instance fnRn [IL 0]:FN 210 Tryz.f210 zk210:=⟨Tryz.func210,inferInstance⟩
theorem nx_spec {s e x:Int} (R:List Asn) (hs:(Lit.int .i64 s).wf=true) (he:(Lit.int .i64 e).wf=true) (hx:nextF s e=x):Spec 263 [.int .i64 s,.int .i64 e] R fun u L'=>u=.tuple [.int .i64 x,.bool (x != 0)].toArray∧L'=R:=by
 subst hx;exact Spec.of_below (fun w=>next_status s e hs he w) ⟨rfl,rfl⟩
theorem mdv_spec {a b d:Int} (R:List Asn) (ha:U64 a) (hb:U64 b) (hd:U64 d):Spec 284 [.int .u64 a,.int .u64 b,.int .u64 d] R fun u L'=>u=.tuple [.int .u64 (mulF a b d),.bool (mulB a b d)].toArray∧L'=R :=
 Spec.of_below (fun w=>mulDiv_any a b d w ha.1 ha.2 hb.1 hb.2 hd.1 hd.2) ⟨rfl,rfl⟩
theorem rmdv_spec {a b d:Int} (R:List Asn) (ha:U64 a) (hb:U64 b) (hd:U64 d):Spec 294 [.int .u64 a,.int .u64 b,.int .u64 d] R fun u L'=>u=.tuple [.int .u64 (mulF a b d),.bool (mulB a b d)].toArray∧L'=R :=
 Spec.of_quiet (fun w=>rMulDiv_any a b d w ha.1 ha.2 hb.1 hb.2 hd.1 hd.2) ⟨rfl,rfl⟩
theorem rnext_spec (R:List Asn) (s e:Int):Spec 210 [.int .i64 s,.int .i64 e] R fun u L'=>u=.int .i64 (nextF s e)∧L'=R:=by
 obtain ⟨x,hx⟩:∃ x,nextF s e=x:=⟨_,rfl⟩
 rw[hx]
 unfold nextF at hx
 by_cases h7:e=7
 ·rw[if_pos h7] at hx
  by_cases a1:s=2∨s=3
  ·rw[if_pos a1] at hx;subst hx
   rcases a1 with h|h
   ·((refine zGo Tryz.func210 ?_;intro G w M a F);((try refine zI zk210 F M ?_;clear F M a;try clear w);(repeat'(first|refine zA ?_;repeat intro nb|refine zB ?_ ?_<;>intro hc<;>try exact no hc|refine zH ?_ ?_<;>(intro hg;rw[hg];try exact no hg)));all_goals try refine zO fun a w F M=>?_);(all_goals first|(exfalso;omega)|(exfalso;simp only[decide_eq_true_eq,decide_eq_false_iff_not] at *;omega)|(exfalso;simp_all;done)|skip);all_goals exact zX F M)
   ·((refine zGo Tryz.func210 ?_;intro G w M a F);((try refine zI zk210 F M ?_;clear F M a;try clear w);(repeat'(first|refine zA ?_;repeat intro nb|refine zB ?_ ?_<;>intro hc<;>try exact no hc|refine zH ?_ ?_<;>(intro hg;rw[hg];try exact no hg)));all_goals try refine zO fun a w F M=>?_);(all_goals first|(exfalso;omega)|(exfalso;simp only[decide_eq_true_eq,decide_eq_false_iff_not] at *;omega)|(exfalso;simp_all;done)|skip);all_goals exact zX F M)
  rw[if_neg a1] at hx
  by_cases a2:s=4∨s=5
  ·rw[if_pos a2] at hx;subst hx
   rcases a2 with h|h
   ·((refine zGo Tryz.func210 ?_;intro G w M a F);((try refine zI zk210 F M ?_;clear F M a;try clear w);(repeat'(first|refine zA ?_;repeat intro nb|refine zB ?_ ?_<;>intro hc<;>try exact no hc|refine zH ?_ ?_<;>(intro hg;rw[hg];try exact no hg)));all_goals try refine zO fun a w F M=>?_);(all_goals first|(exfalso;omega)|(exfalso;simp only[decide_eq_true_eq,decide_eq_false_iff_not] at *;omega)|(exfalso;simp_all;done)|skip);all_goals exact zX F M)
   ·((refine zGo Tryz.func210 ?_;intro G w M a F);((try refine zI zk210 F M ?_;clear F M a;try clear w);(repeat'(first|refine zA ?_;repeat intro nb|refine zB ?_ ?_<;>intro hc<;>try exact no hc|refine zH ?_ ?_<;>(intro hg;rw[hg];try exact no hg)));all_goals try refine zO fun a w F M=>?_);(all_goals first|(exfalso;omega)|(exfalso;simp only[decide_eq_true_eq,decide_eq_false_iff_not] at *;omega)|(exfalso;simp_all;done)|skip);all_goals exact zX F M)
  rw[if_neg a2] at hx;subst hx
  ((refine zGo Tryz.func210 ?_;intro G w M a F);((try refine zI zk210 F M ?_;clear F M a;try clear w);(repeat'(first|refine zA ?_;repeat intro nb|refine zB ?_ ?_<;>intro hc<;>try exact no hc|refine zH ?_ ?_<;>(intro hg;rw[hg];try exact no hg)));all_goals try refine zO fun a w F M=>?_);(all_goals first|(exfalso;omega)|(exfalso;simp only[decide_eq_true_eq,decide_eq_false_iff_not] at *;omega)|(exfalso;simp_all;done)|skip);all_goals exact zX F M)
 rw[if_neg h7] at hx
 by_cases h6:e=6∧s=2
 ·rw[if_pos h6] at hx;subst hx
  ((refine zGo Tryz.func210 ?_;intro G w M a F);((try refine zI zk210 F M ?_;clear F M a;try clear w);(repeat'(first|refine zA ?_;repeat intro nb|refine zB ?_ ?_<;>intro hc<;>try exact no hc|refine zH ?_ ?_<;>(intro hg;rw[hg];try exact no hg)));all_goals try refine zO fun a w F M=>?_);(all_goals first|(exfalso;omega)|(exfalso;simp only[decide_eq_true_eq,decide_eq_false_iff_not] at *;omega)|(exfalso;simp_all;done)|skip);all_goals exact zX F M)
 rw[if_neg h6] at hx
 by_cases h5:1≤e∧e≤5∧s=e
 ·rw[if_pos h5] at hx;subst hx
  ((refine zGo Tryz.func210 ?_;intro G w M a F);((try refine zI zk210 F M ?_;clear F M a;try clear w);(repeat'(first|refine zA ?_;repeat intro nb|refine zB ?_ ?_<;>intro hc<;>try exact no hc|refine zH ?_ ?_<;>(intro hg;rw[hg];try exact no hg)));all_goals try refine zO fun a w F M=>?_);(all_goals first|(exfalso;omega)|(exfalso;simp only[decide_eq_true_eq,decide_eq_false_iff_not] at *;omega)|(exfalso;simp_all;done)|skip);all_goals exact zX F M)
 ·rw[if_neg h5] at hx;subst hx
  ((refine zGo Tryz.func210 ?_;intro G w M a F);((try refine zI zk210 F M ?_;clear F M a;try clear w);(repeat'(first|refine zA ?_;repeat intro nb|refine zB ?_ ?_<;>intro hc<;>try exact no hc|refine zH ?_ ?_<;>(intro hg;rw[hg];try exact no hg)));all_goals try refine zO fun a w F M=>?_);(all_goals first|(exfalso;omega)|(exfalso;simp only[decide_eq_true_eq,decide_eq_false_iff_not] at *;omega)|(exfalso;simp_all;done)|skip);all_goals exact zX F M)
section
variable (v:Val) (e:Int) (h0:0≤e) (hs:(Lit.int .i64 v.st).wf=true) (R:List Asn)
include h0
section
variable (h1:e≤1099511627776)
include h1
theorem racc_spec:Spec 143 [valV v,.int .i64 e] R fun u L'=>u=.tuple [valV (accR v e).2.1,.int .i64 (accR v e).1].toArray∧L'=R:=by
 unfold accR
 obtain ⟨bal,st,sl,rq,ex,wd,dl⟩:=v
 simp only
 by_cases h:st=2
 ·subst h
  have il:IL 0:=⟨trivial⟩
  refine zGz zk143 Tryz.func143 ?_;intro G;(repeat'(first|refine zA ?_;repeat intro nb|refine zB ?_ ?_<;>intro hc<;>try exact no hc|refine zH ?_ ?_<;>(intro hg;rw[hg];try exact no hg)));all_goals exact zXz
 ·rw[if_neg h]
  have il:IL 0:=⟨trivial⟩
  refine zGz zk143 Tryz.func143 ?_;intro G;(repeat'(first|refine zA ?_;repeat intro nb|refine zB ?_ ?_<;>intro hc<;>try exact no hc|refine zH ?_ ?_<;>(intro hg;rw[hg];try exact no hg)));all_goals try refine zO fun a w F M=>?_
  all_goals first|(exfalso;simp_all;done)|skip
  all_goals exact zX F M
include hs
theorem pnAcc_spec:Spec 188 [valV v,.int .i64 e] R fun u L'=>u=.tuple [valV (accR v e).2.1,.int .i64 (accR v e).1].toArray∧L'=R:=by
 unfold accR
 obtain ⟨bal,st,sl,rq,ex,wd,dl⟩:=v
 simp only at hs ⊢
 by_cases h:st=2
 ·subst h
  have hn:=fun R=>nx_spec (s:=2) (e:=2) R hs rfl rfl
  have il:IL 0:=⟨trivial⟩
  refine zGz zk188 Tryz.func188 ?_;intro G;(repeat'(first|refine zA ?_;repeat intro nb|refine zC ?_;refine kpW (k:=263) (hn _) ?_|refine zB ?_ ?_<;>intro hc<;>try exact no hc|refine zH ?_ ?_<;>(intro hg;rw[hg];try exact no hg)));all_goals exact zXz
 ·rw[if_neg h]
  have hn:=fun R=>nx_spec (s:=st) (e:=2) R hs rfl (show nextF st 2=0 by simp[nextF,h])
  have il:IL 0:=⟨trivial⟩
  refine zGz zk188 Tryz.func188 ?_;intro G;(repeat'(first|refine zA ?_;repeat intro nb|refine zC ?_;refine kpW (k:=263) (hn _) ?_|refine zB ?_ ?_<;>intro hc<;>try exact no hc|refine zH ?_ ?_<;>(intro hg;rw[hg];try exact no hg)));all_goals exact zXz
end
variable (c:Cfg)
section
variable (hu:0≤c.unbonding) (h1:e+c.unbonding≤1099511627776) (h3:v.st=3) (hx:v.ex = -1)
include hu h1 h3 hx
theorem pnAsg_spec:Spec 266 [valV v,.int .i64 e,cfgV c] R fun u L'=>u=.tuple [valV {v with ex:=e,wd:=max v.wd (e+c.unbonding)},.int .i64 0].toArray∧L'=R:=by
 obtain ⟨bal,st,sl,rq,ex,wd,dl⟩:=v
 simp only at h3 hx ⊢
 subst h3;subst hx
 have hmx:(if 0+e+c.unbonding>wd then 0+e+c.unbonding else wd)=max wd (e+c.unbonding):=by split<;>omega
 rw[← hmx]
 have il:IL 0:=⟨trivial⟩
 refine zGz zk266 Tryz.func266 ?_;intro G;(repeat'(first|refine zA ?_;repeat intro nb|refine zB ?_ ?_<;>intro hc<;>try exact no hc|refine zH ?_ ?_<;>(intro hg;rw[hg];try exact no hg)));all_goals exact zXz
theorem rasg_spec:Spec 221 [valV v,.int .i64 e,cfgV c] R fun u L'=>u=.tuple [valV {v with ex:=e,wd:=max v.wd (e+c.unbonding)},.int .i64 0].toArray∧L'=R:=by
 obtain ⟨bal,st,sl,rq,ex,wd,dl⟩:=v
 simp only at h3 hx ⊢
 subst h3;subst hx
 have hmx:(if e+c.unbonding>wd then e+c.unbonding else wd)=max wd (e+c.unbonding):=by split<;>omega
 rw[← hmx]
 have il:IL 0:=⟨trivial⟩
 refine zGz zk221 Tryz.func221 ?_;intro G;(repeat'(first|refine zA ?_;repeat intro nb|refine zB ?_ ?_<;>intro hc<;>try exact no hc|refine zH ?_ ?_<;>(intro hg;rw[hg];try exact no hg)));all_goals exact zXz
end
section
variable (h5:v.st=5) (hw:v.wd≤e)
include h5 hw
theorem pnPay_spec:Spec 182 [valV v,.int .i64 e] R fun u L'=>u=.tuple [valV {v with bal:=0,st:=6},.int .u64 v.bal,.int .i64 0].toArray∧L'=R:=by
 obtain ⟨bal,st,sl,rq,ex,wd,dl⟩:=v
 simp only at h5 hw ⊢
 subst h5
 have hn:=fun R=>nx_spec (s:=5) (e:=5) R rfl rfl rfl
 have il:IL 0:=⟨trivial⟩
 refine zGz zk182 Tryz.func182 ?_;intro G;(repeat'(first|refine zA ?_;repeat intro nb|refine zC ?_;refine kpW (k:=263) (hn _) ?_|refine zB ?_ ?_<;>intro hc<;>try exact no hc|refine zH ?_ ?_<;>(intro hg;rw[hg];try exact no hg)));all_goals exact zXz
theorem rpayv_spec:Spec 156 [valV v,.int .i64 e] R fun u L'=>u=.tuple [valV {v with bal:=0,st:=6},.int .u64 v.bal,.int .i64 0].toArray∧L'=R:=by
 obtain ⟨bal,st,sl,rq,ex,wd,dl⟩:=v
 simp only at h5 hw ⊢
 subst h5
 have il:IL 0:=⟨trivial⟩
 refine zGz zk156 Tryz.func156 ?_;intro G;(repeat'(first|refine zA ?_;repeat intro nb|refine zB ?_ ?_<;>intro hc<;>try exact no hc|refine zH ?_ ?_<;>(intro hg;rw[hg];try exact no hg)));all_goals exact zXz
end
end
end
end Go.Proofs.YtjbfcacmdahnhaaGreat
