import Derived.Test.YtjbfcacmdahnhaaGreatZtl
set_option linter.unusedVariables false
set_option linter.unusedSimpArgs false
set_option linter.unusedSectionVars false
set_option maxRecDepth 100000
set_option maxHeartbeats 8000000
namespace Go.Proofs.YtjbfcacmdahnhaaGreat
section
open Go.RowKit
theorem rgp_grow (b size:Nat) (q:List (Nat × Nat)) (z:rgpH) (hz:rgpOk size q z) (hq:q.length<size) (R:List Asn):Spec 204 [ptr b] (rgpP b size q z++R) fun u L'=>∃ z',rgpOk size q z'∧q.length<z'.S.length∧u=.tuple #[]∧L'=rgpP b size q z'++R:=by
 intro G w M
 have h1:=hz.n
 have h2:=hz.s
 have h3:=hz.p
 simp only[zc,zn] at M
 by_cases hlt:q.length<z.S.length
 ·(refine zGe Tryz.func204 ?_;intro a F;(try simp only[zc,zn] at M))
  (try refine zI zk204 F M ?_;clear F M a;try clear w);(repeat'(first|refine zA ?_;repeat intro nb|refine zB ?_ ?_<;>intro hc<;>try exact no hc|refine zH ?_ ?_<;>(intro hg;rw[hg];try exact no hg)));all_goals try refine zO fun a w F M=>?_
  (all_goals(refine zE F M ?_;exact⟨_,_,rfl,⟨z,hz,hlt,rfl,rfl⟩,M.perms permsA⟩))
 ·have hm:q.length=z.S.length:=by omega
  obtain ⟨m,hmm⟩:∃ m:Nat,m=min size (2*z.S.length+1):=⟨_,rfl⟩
  have hmin:(if (2*(z.S.length:Int)+1)<(size:Int) then (2*(z.S.length:Int)+1) else (size:Int))=(m:Int):=by split<;>omega
  have hf:z.f≤z.S.length:=by rcases hz.f with h|⟨h,h'⟩<;>omega
  have ed:z.S.length - z.f=(z.S.drop z.f).length:=by simp
  have et:z.f=(z.S.take z.f).length:=by simp;omega
  obtain ⟨hzn,hzc,_⟩:=own_h (M.pull (by(focus ((repeat (first|exact Pull.here|apply Pull.there));done))))
  obtain ⟨X1,hX1⟩:∃ X1,z.S.drop z.f++List.replicate (m - (z.S.drop z.f).length) ((0,0))=X1:=⟨_,rfl⟩
  obtain ⟨X2,hX2⟩:∃ X2,z.S.drop z.f++z.S.take z.f++List.replicate (m - z.S.length) ((0,0))=X2:=⟨_,rfl⟩
  have l1:X1.length=m:=by rw[← hX1];simp;omega
  have l2:X2.length=m:=by rw[← hX2];simp;omega
  have x1:(List.replicate m ((0,0))).take 0++z.S.drop z.f++(List.replicate m ((0,0))).drop (0+(z.S.drop z.f).length)=X1:=by rw[← hX1];simp
  have x2:X1.take (z.S.drop z.f).length++z.S.take z.f++X1.drop ((z.S.drop z.f).length+(z.S.take z.f).length)=X2:=by
   rw[← hX1,← hX2,List.take_left' rfl,← List.drop_drop,List.drop_left' rfl,List.drop_replicate,← ed,← et]
   congr 2;omega
  (refine zGe Tryz.func204 ?_;intro a F;(try simp only[zc,zn] at M))
  (try refine zI zk204 F M ?_;clear F M a;try clear w);(repeat'(first|refine zV (h:=⟨_,by((first|(apply rt_min2;(exact rfl);(exact rfl);(exact hmin))|(apply rt_fromN;(exact rfl);(exact rfl);(exact rfl);(exact inferInstance);(try dsimp only);omega;(try dsimp only);omega)|(apply rt_from;(exact rfl);(exact rfl);(exact rfl);(exact inferInstance);omega)|(apply rt_to;(exact rfl);(exact rfl);(exact rfl);(exact inferInstance);omega))),?_⟩)|refine zA1 ?_;repeat intro(nb:Nat)|refine zC ?_;(first|refine ac_makeT (f:=prL) inferInstance ((0,0)) rfl rfl inferInstance rfl (m:=m) rfl rfl (by omega) (by omega) ?_;intro nb|refine ac_copyT (f:=prL) (j:=0) rfl rfl inferInstance inferInstance rfl rfl (gs_from (by(focus ((repeat (first|exact Pull.here|apply Pull.there));done))) hf) (flat_drop (f:=prL) EL.len _ _) ed (by(focus ((repeat (first|exact Pull.here|apply Pull.there));done))) (by rw[List.length_replicate]) (by rw[List.length_replicate];dsimp only;omega) (by dsimp only;omega) ?_;rw[x1]|refine ac_copyT (f:=prL) (j:=(z.S.drop z.f).length) rfl rfl inferInstance inferInstance rfl rfl (gs_to (by(focus ((repeat (first|exact Pull.here|apply Pull.there));done))) hf) (flat_take (f:=prL) EL.len _ _) et (by(focus ((repeat (first|exact Pull.here|apply Pull.there));done))) (by rw[l1]) (by dsimp only;omega) (by dsimp only;omega) ?_;rw[x2])|refine zB ?_ ?_<;>intro hc<;>try exact no hc|refine zH ?_ ?_<;>(intro hg;rw[hg];try exact no hg)));all_goals try refine zO fun a w F M=>?_
  all_goals refine zE F M ?_
  refine⟨_,_,rfl,⟨⟨⟨some ⟨nb,0,none⟩,m,m⟩,X2,0⟩,⟨by dsimp only;omega,by dsimp only;omega,h3,.inl (by dsimp only;omega),fun i hi=>?_⟩,by dsimp only;omega,rfl,rfl⟩,M.perms permsA⟩
  rw[← hz.g i hi]
  dsimp only
  rw[l2,Nat.zero_add,Nat.mod_eq_of_lt (by omega),← hX2,List.getElem?_append_left (by simp;omega)]
  by_cases hi2:i<z.S.length - z.f
  ·rw[List.getElem?_append_left (by simp;omega),List.getElem?_drop,Nat.mod_eq_of_lt (by omega)]
  ·rw[List.getElem?_append_right (by simp;omega),List.getElem?_take_of_lt (by simp;omega),List.length_drop]
   congr 1
   rw[Nat.mod_eq_sub_mod (by omega),Nat.mod_eq_of_lt (by omega)];omega
theorem rgp_growA (b size:Nat) (q:List (Nat × Nat)) (hq:q.length<size) (R:List Asn):Spec 204 [ptr b] (rgpA b size q::R) fun u L'=>∃ z',rgpOk size q z'∧q.length<z'.S.length∧u=.tuple #[]∧L'=rgpP b size q z'++R:=by
 intro G w M
 obtain ⟨z,hz,M⟩:=rgp_open (L:=R++G) M
 exact rgp_grow b size q z hz hq R G w (by simpa using M)
theorem rgp_push_ok {size:Nat} {x:Nat × Nat} {q:List (Nat × Nat)} {z:rgpH} (h:rgpOk size q z) (hl:q.length<z.S.length):rgpOk size (q++[x]) ⟨z.h,z.S.set ((z.f+q.length) % z.S.length) x,z.f⟩:=by
 have hf:z.f<z.S.length:=by rcases h.f with h|⟨_,h⟩;(· exact h);(exfalso;rw[h,List.length_nil] at hl;omega)
 have hm:=Nat.mod_lt (z.f+q.length) (show 0<z.S.length by omega)
 refine⟨by simp;omega,by simpa using h.s,h.p,.inl (by simpa using hf),fun i hi=>?_⟩
 simp only[List.length_set]
 by_cases hi2:i=q.length
 ·subst hi2
  rw[List.getElem?_set_self hm];simp
 ·simp at hi
  rw[List.getElem?_append_left (by omega),← h.g i (by omega),List.getElem?_set_ne]
  intro he
  by_cases c1:z.f+q.length<z.S.length
  ·rw[Nat.mod_eq_of_lt c1,Nat.mod_eq_of_lt (by omega)] at he;omega
  ·rw[Nat.mod_eq_sub_mod (by omega),Nat.mod_eq_of_lt (by omega)] at he
   by_cases c2:z.f+i<z.S.length
   ·rw[Nat.mod_eq_of_lt c2] at he;omega
   ·rw[Nat.mod_eq_sub_mod (by omega),Nat.mod_eq_of_lt (by omega)] at he;omega
theorem rgp_fl {size:Nat} {q:List (Nat × Nat)} {z:rgpH} (h:rgpOk size q z) (hl:q.length<z.S.length):z.f<z.S.length∧z.S.length≤size∧0≤((z.f:Int)+(q.length:Int)) % (z.S.length:Int)∧((z.f:Int)+(q.length:Int)) % (z.S.length:Int)<(z.S.length:Int):=by
 have hf:z.f<z.S.length:=by rcases h.f with h|⟨_,h⟩;(· exact h);(exfalso;rw[h,List.length_nil] at hl;omega)
 exact⟨hf,h.s,Int.emod_nonneg _ (by omega),Int.emod_lt_of_pos _ (by omega)⟩
theorem rgp_push (b size:Nat) (q:List (Nat × Nat)) (x:Nat × Nat) (v:SlH) (R:List Asn) (hg:GS R 2 (sl v) 1 ([x].flatMap prL)) (hv:v.n=1∧1≤v.c) (hq:q.length<size) (hs:size≤4096):Spec 138 [ptr b,sl v] (rgpA b size q::R) fun u L'=>u=.int .i64 1∧L'=rgpA b size (q++[x])::R:=by
 obtain ⟨hv1,hv2⟩:=hv
 intro G w M
 have hg1:GS (R++G) 2 (sl v) 1 ([x].flatMap prL):=hg.imp fun w M=>M.drop_app
 have hg2:GS (R++G) 2 (sl ⟨v.a,1,v.c⟩) [x].length ([x].flatMap prL):=fun w M=>by have:=(hg1 w M).to (j:=1) (by omega);rwa [List.take_of_length_le (by rw[flat_lenE (f:=prL) inferInstance];simp)] at this
 have hmin:(if ((size:Int) - (q.length:Int))<((1:Nat):Int) then ((size:Int) - (q.length:Int)) else ((1:Nat):Int))=((1:Nat):Int):=by rw[if_neg];omega
 (refine zGe Tryz.func138 ?_;intro a F;(try simp only[zc,zn] at M))
 (try refine zI zk138 F M ?_;clear F M a;try clear w);(repeat'(first|refine zV (h:=⟨_,by((first|(apply rt_min2;(exact rfl);(exact rfl);(exact hmin))|(apply rt_to;(exact rfl);(exact rfl);(exact rfl);(exact inferInstance);omega))),?_⟩)|refine zA1 ?_;repeat intro(nb:Nat)|refine zC ?_;refine kp (k:=203) (rgp_free b size q _) ?_|refine zB ?_ ?_<;>intro hc<;>try exact no hc|refine zH ?_ ?_<;>(intro hg;rw[hg];try exact no hg)));all_goals try refine zO fun a w F M=>?_
 refine svLoop F M (0:Nat) (fun k=>[(17,.int .i64 k)]) (fun k=>[rgpA b size (q++[x].take k)]) (fun k=>k≤1) (fun k=>1 - k) [] (by simp) ?_ (hR:=by rw[List.take_zero,List.append_nil];(repeat (first|exact Pulls.nil|(apply Pulls.cons;(focus ((repeat (first|exact Pull.here|apply Pull.there));done))))))
 (rintro k q1 a w F M;(try simp only[zc,zn] at F M q1 ⊢))
 by_cases hk:k=0
 ·subst hk
  rw[List.take_zero,List.append_nil] at M
  have hx:[x][0]? = some x:=rfl
  (try refine zI zk138 F M ?_;clear F M a;try clear w);(repeat'(first|refine zV (h:=⟨_,by((first|(apply rt_min2;(exact rfl);(exact rfl);(exact hmin))|(apply rt_to;(exact rfl);(exact rfl);(exact rfl);(exact inferInstance);omega))),?_⟩)|refine zA1 ?_;repeat intro(nb:Nat)|refine zC ?_;((refine acK (k:=204) (rgp_growA b size q hq _) ?_);rintro u L' ⟨z,hz,hroom,rfl,rfl⟩);obtain ⟨hf,h2,hm0,hm1⟩:=rgp_fl hz hroom;simp only[zc,zn]|refine zB ?_ ?_<;>intro hc<;>try exact no hc|refine zH ?_ ?_<;>(intro hg;rw[hg];try exact no hg)));all_goals try refine zO fun a w F M=>?_
  have hmod:(((z.f:Int)+(q.length:Int)) % (z.S.length:Int)).toNat=(z.f+q.length) % z.S.length:=by
   rw[show(z.f:Int)+(q.length:Int)=((z.f+q.length:Nat):Int) by omega,← Int.natCast_emod,Int.toNat_natCast]
  have hok:=rgp_push_ok (x:=x) hz hroom
  rw[← hmod] at hok
  obtain ⟨j,hj⟩:∃ j,(((z.f:Int)+(q.length:Int)) % (z.S.length:Int)).toNat=j:=⟨_,rfl⟩
  rw[hj] at hok
  obtain ⟨u0,hu0⟩:∃ u0,z.S[j]? = some u0:=⟨z.S[j]'(by omega),by simp⟩
  rw[← hj] at hu0
  (try refine zI zk138 F M ?_;clear F M a;try clear w);(repeat'(first|refine zV (h:=⟨_,by((first|(apply rt_min2;(exact rfl);(exact rfl);(exact hmin))|(apply rt_to;(exact rfl);(exact rfl);(exact rfl);(exact inferInstance);omega))),?_⟩)|refine zA1 ?_;repeat intro(nb:Nat)|refine zC ?_;(first|refine ac_storeEA (f:=prL) (v:=sl z.h) (k:=2) rfl rfl inferInstance x rfl hu0 inferInstance (by(focus ((repeat (first|exact Rep.here|apply Rep.there));done))) ?_;rw[hj]|refine ac_storeE (f:=prL) (v:=sl z.h) (k:=2) (i:=0) (xs:=z.S) rfl rfl inferInstance rfl rfl hu0 inferInstance rfl x rfl (by(focus ((repeat (first|exact Rep.here|apply Rep.there));done))) ?_;rw[hj])|refine zB ?_ ?_<;>intro hc<;>try exact no hc|refine zH ?_ ?_<;>(intro hg;rw[hg];try exact no hg)));all_goals try refine zO fun a w F M=>?_
  have e:(q.length:Int)+1=(((q++[x]).length:Nat):Int):=by simp
  rw[e] at M
  have M:=rgp_close hok (M.perms (permsA:Perms _ (rgpP b size (q++[x]) ⟨z.h,z.S.set j x,z.f⟩++(R++G))))
  exact sv_again F M 1 kpA permsA (by omega) (by omega)
 ·obtain rfl:k=1:=by omega
  (try refine zI zk138 F M ?_;clear F M a;try clear w);(repeat'(first|refine zV (h:=⟨_,by((first|(apply rt_min2;(exact rfl);(exact rfl);(exact hmin))|(apply rt_to;(exact rfl);(exact rfl);(exact rfl);(exact inferInstance);omega))),?_⟩)|refine zA1 ?_;repeat intro(nb:Nat)|refine zC ?_;(first|refine ac_storeEA (f:=prL) (v:=sl z.h) (k:=2) rfl rfl inferInstance x rfl hu0 inferInstance (by(focus ((repeat (first|exact Rep.here|apply Rep.there));done))) ?_;rw[hj]|refine ac_storeE (f:=prL) (v:=sl z.h) (k:=2) (i:=0) (xs:=z.S) rfl rfl inferInstance rfl rfl hu0 inferInstance rfl x rfl (by(focus ((repeat (first|exact Rep.here|apply Rep.there));done))) ?_;rw[hj])|refine zB ?_ ?_<;>intro hc<;>try exact no hc|refine zH ?_ ?_<;>(intro hg;rw[hg];try exact no hg)));all_goals exact zXz
theorem rgp_pushF (b size:Nat) (q:List (Nat × Nat)) (x:Nat × Nat) (v:SlH) (R:List Asn) (hg:GS R 2 (sl v) 1 ([x].flatMap prL)) (hv:v.n=1∧1≤v.c) (hq:q.length=size) (hs:size≤4096):Spec 138 [ptr b,sl v] (rgpA b size q::R) fun u L'=>u=.int .i64 0∧L'=rgpA b size q::R:=by
 obtain ⟨hv1,hv2⟩:=hv
 intro G w M
 have hg1:GS (R++G) 2 (sl v) 1 ([x].flatMap prL):=hg.imp fun w M=>M.drop_app
 have hg2:GS (R++G) 2 (sl ⟨v.a,0,v.c⟩) ([]:List (Nat × Nat)).length (([]:List (Nat × Nat)).flatMap prL):=fun w M=>by have:=(hg1 w M).to (j:=0) (by omega);simpa using this
 have hmin:(if ((size:Int) - (q.length:Int))<((1:Nat):Int) then ((size:Int) - (q.length:Int)) else ((1:Nat):Int))=((0:Nat):Int):=by rw[if_pos]<;>omega
 (refine zGe Tryz.func138 ?_;intro a F;(try simp only[zc,zn] at M))
 (try refine zI zk138 F M ?_;clear F M a;try clear w);(repeat'(first|refine zV (h:=⟨_,by((first|(apply rt_min2;(exact rfl);(exact rfl);(exact hmin))|(apply rt_to;(exact rfl);(exact rfl);(exact rfl);(exact inferInstance);omega))),?_⟩)|refine zA1 ?_;repeat intro(nb:Nat)|refine zC ?_;refine kp (k:=203) (rgp_free b size q _) ?_|refine zB ?_ ?_<;>intro hc<;>try exact no hc|refine zH ?_ ?_<;>(intro hg;rw[hg];try exact no hg)));all_goals try refine zO fun a w F M=>?_
 refine svLoop F M (0:Nat) (fun k=>[(17,.int .i64 k)]) (fun _=>[]) (fun k=>k=0) (fun k=>1 - k) [] rfl ?_
 (rintro k q1 a w F M;(try simp only[zc,zn] at F M q1 ⊢))
 subst q1
 (try refine zI zk138 F M ?_;clear F M a;try clear w);(repeat'(first|refine zV (h:=⟨_,by((first|(apply rt_min2;(exact rfl);(exact rfl);(exact hmin))|(apply rt_to;(exact rfl);(exact rfl);(exact rfl);(exact inferInstance);omega))),?_⟩)|refine zA1 ?_;repeat intro(nb:Nat)|refine zB ?_ ?_<;>intro hc<;>try exact no hc|refine zH ?_ ?_<;>(intro hg;rw[hg];try exact no hg)));all_goals exact zXz
theorem rgq_grow (b size:Nat) (q:List (Nat × Int)) (z:rgqH) (hz:rgqOk size q z) (hq:q.length<size) (R:List Asn):Spec 206 [ptr b] (rgqP b size q z++R) fun u L'=>∃ z',rgqOk size q z'∧q.length<z'.S.length∧u=.tuple #[]∧L'=rgqP b size q z'++R:=by
 intro G w M
 have h1:=hz.n
 have h2:=hz.s
 have h3:=hz.p
 simp only[zc,zn] at M
 by_cases hlt:q.length<z.S.length
 ·(refine zGe Tryz.func206 ?_;intro a F;(try simp only[zc,zn] at M))
  (try refine zI zk206 F M ?_;clear F M a;try clear w);(repeat'(first|refine zV (h:=⟨_,by((first|(apply rt_min2;(exact rfl);(exact rfl);(exact hmin))|(apply rt_to;(exact rfl);(exact rfl);(exact rfl);(exact inferInstance);omega))),?_⟩)|refine zA1 ?_;repeat intro(nb:Nat)|refine zB ?_ ?_<;>intro hc<;>try exact no hc|refine zH ?_ ?_<;>(intro hg;rw[hg];try exact no hg)));all_goals try refine zO fun a w F M=>?_
  (all_goals(refine zE F M ?_;exact⟨_,_,rfl,⟨z,hz,hlt,rfl,rfl⟩,M.perms permsA⟩))
 ·have hm:q.length=z.S.length:=by omega
  obtain ⟨m,hmm⟩:∃ m:Nat,m=min size (2*z.S.length+1):=⟨_,rfl⟩
  have hmin:(if (2*(z.S.length:Int)+1)<(size:Int) then (2*(z.S.length:Int)+1) else (size:Int))=(m:Int):=by split<;>omega
  have hf:z.f≤z.S.length:=by rcases hz.f with h|⟨h,h'⟩<;>omega
  have ed:z.S.length - z.f=(z.S.drop z.f).length:=by simp
  have et:z.f=(z.S.take z.f).length:=by simp;omega
  obtain ⟨hzn,hzc,_⟩:=own_h (M.pull (by(focus ((repeat (first|exact Pull.here|apply Pull.there));done))))
  obtain ⟨X1,hX1⟩:∃ X1,z.S.drop z.f++List.replicate (m - (z.S.drop z.f).length) ((0,0))=X1:=⟨_,rfl⟩
  obtain ⟨X2,hX2⟩:∃ X2,z.S.drop z.f++z.S.take z.f++List.replicate (m - z.S.length) ((0,0))=X2:=⟨_,rfl⟩
  have l1:X1.length=m:=by rw[← hX1];simp;omega
  have l2:X2.length=m:=by rw[← hX2];simp;omega
  have x1:(List.replicate m ((0,0))).take 0++z.S.drop z.f++(List.replicate m ((0,0))).drop (0+(z.S.drop z.f).length)=X1:=by rw[← hX1];simp
  have x2:X1.take (z.S.drop z.f).length++z.S.take z.f++X1.drop ((z.S.drop z.f).length+(z.S.take z.f).length)=X2:=by
   rw[← hX1,← hX2,List.take_left' rfl,← List.drop_drop,List.drop_left' rfl,List.drop_replicate,← ed,← et]
   congr 2;omega
  (refine zGe Tryz.func206 ?_;intro a F;(try simp only[zc,zn] at M))
  (try refine zI zk206 F M ?_;clear F M a;try clear w);(repeat'(first|refine zV (h:=⟨_,by((first|(apply rt_min2;(exact rfl);(exact rfl);(exact hmin))|(apply rt_fromN;(exact rfl);(exact rfl);(exact rfl);(exact inferInstance);(try dsimp only);omega;(try dsimp only);omega)|(apply rt_from;(exact rfl);(exact rfl);(exact rfl);(exact inferInstance);omega)|(apply rt_to;(exact rfl);(exact rfl);(exact rfl);(exact inferInstance);omega))),?_⟩)|refine zA1 ?_;repeat intro(nb:Nat)|refine zC ?_;(first|refine ac_makeT (f:=rqL) inferInstance ((0,0)) rfl rfl inferInstance rfl (m:=m) rfl rfl (by omega) (by omega) ?_;intro nb|refine ac_copyT (f:=rqL) (j:=0) rfl rfl inferInstance inferInstance rfl rfl (gs_from (by(focus ((repeat (first|exact Pull.here|apply Pull.there));done))) hf) (flat_drop (f:=rqL) EL.len _ _) ed (by(focus ((repeat (first|exact Pull.here|apply Pull.there));done))) (by rw[List.length_replicate]) (by rw[List.length_replicate];dsimp only;omega) (by dsimp only;omega) ?_;rw[x1]|refine ac_copyT (f:=rqL) (j:=(z.S.drop z.f).length) rfl rfl inferInstance inferInstance rfl rfl (gs_to (by(focus ((repeat (first|exact Pull.here|apply Pull.there));done))) hf) (flat_take (f:=rqL) EL.len _ _) et (by(focus ((repeat (first|exact Pull.here|apply Pull.there));done))) (by rw[l1]) (by dsimp only;omega) (by dsimp only;omega) ?_;rw[x2])|refine zB ?_ ?_<;>intro hc<;>try exact no hc|refine zH ?_ ?_<;>(intro hg;rw[hg];try exact no hg)));all_goals try refine zO fun a w F M=>?_
  all_goals refine zE F M ?_
  refine⟨_,_,rfl,⟨⟨⟨some ⟨nb,0,none⟩,m,m⟩,X2,0⟩,⟨by dsimp only;omega,by dsimp only;omega,h3,.inl (by dsimp only;omega),fun i hi=>?_⟩,by dsimp only;omega,rfl,rfl⟩,M.perms permsA⟩
  rw[← hz.g i hi]
  dsimp only
  rw[l2,Nat.zero_add,Nat.mod_eq_of_lt (by omega),← hX2,List.getElem?_append_left (by simp;omega)]
  by_cases hi2:i<z.S.length - z.f
  ·rw[List.getElem?_append_left (by simp;omega),List.getElem?_drop,Nat.mod_eq_of_lt (by omega)]
  ·rw[List.getElem?_append_right (by simp;omega),List.getElem?_take_of_lt (by simp;omega),List.length_drop]
   congr 1
   rw[Nat.mod_eq_sub_mod (by omega),Nat.mod_eq_of_lt (by omega)];omega
theorem rgq_growA (b size:Nat) (q:List (Nat × Int)) (hq:q.length<size) (R:List Asn):Spec 206 [ptr b] (rgqA b size q::R) fun u L'=>∃ z',rgqOk size q z'∧q.length<z'.S.length∧u=.tuple #[]∧L'=rgqP b size q z'++R:=by
 intro G w M
 obtain ⟨z,hz,M⟩:=rgq_open (L:=R++G) M
 exact rgq_grow b size q z hz hq R G w (by simpa using M)
theorem rgq_push_ok {size:Nat} {x:Nat × Int} {q:List (Nat × Int)} {z:rgqH} (h:rgqOk size q z) (hl:q.length<z.S.length):rgqOk size (q++[x]) ⟨z.h,z.S.set ((z.f+q.length) % z.S.length) x,z.f⟩:=by
 have hf:z.f<z.S.length:=by rcases h.f with h|⟨_,h⟩;(· exact h);(exfalso;rw[h,List.length_nil] at hl;omega)
 have hm:=Nat.mod_lt (z.f+q.length) (show 0<z.S.length by omega)
 refine⟨by simp;omega,by simpa using h.s,h.p,.inl (by simpa using hf),fun i hi=>?_⟩
 simp only[List.length_set]
 by_cases hi2:i=q.length
 ·subst hi2
  rw[List.getElem?_set_self hm];simp
 ·simp at hi
  rw[List.getElem?_append_left (by omega),← h.g i (by omega),List.getElem?_set_ne]
  intro he
  by_cases c1:z.f+q.length<z.S.length
  ·rw[Nat.mod_eq_of_lt c1,Nat.mod_eq_of_lt (by omega)] at he;omega
  ·rw[Nat.mod_eq_sub_mod (by omega),Nat.mod_eq_of_lt (by omega)] at he
   by_cases c2:z.f+i<z.S.length
   ·rw[Nat.mod_eq_of_lt c2] at he;omega
   ·rw[Nat.mod_eq_sub_mod (by omega),Nat.mod_eq_of_lt (by omega)] at he;omega
theorem rgq_fl {size:Nat} {q:List (Nat × Int)} {z:rgqH} (h:rgqOk size q z) (hl:q.length<z.S.length):z.f<z.S.length∧z.S.length≤size∧0≤((z.f:Int)+(q.length:Int)) % (z.S.length:Int)∧((z.f:Int)+(q.length:Int)) % (z.S.length:Int)<(z.S.length:Int):=by
 have hf:z.f<z.S.length:=by rcases h.f with h|⟨_,h⟩;(· exact h);(exfalso;rw[h,List.length_nil] at hl;omega)
 exact⟨hf,h.s,Int.emod_nonneg _ (by omega),Int.emod_lt_of_pos _ (by omega)⟩
theorem rgq_push (b size:Nat) (q:List (Nat × Int)) (x:Nat × Int) (v:SlH) (R:List Asn) (hg:GS R 2 (sl v) 1 ([x].flatMap rqL)) (hv:v.n=1∧1≤v.c) (hq:q.length<size) (hs:size≤4096):Spec 140 [ptr b,sl v] (rgqA b size q::R) fun u L'=>u=.int .i64 1∧L'=rgqA b size (q++[x])::R:=by
 obtain ⟨hv1,hv2⟩:=hv
 intro G w M
 have hg1:GS (R++G) 2 (sl v) 1 ([x].flatMap rqL):=hg.imp fun w M=>M.drop_app
 have hg2:GS (R++G) 2 (sl ⟨v.a,1,v.c⟩) [x].length ([x].flatMap rqL):=fun w M=>by have:=(hg1 w M).to (j:=1) (by omega);rwa [List.take_of_length_le (by rw[flat_lenE (f:=rqL) inferInstance];simp)] at this
 have hmin:(if ((size:Int) - (q.length:Int))<((1:Nat):Int) then ((size:Int) - (q.length:Int)) else ((1:Nat):Int))=((1:Nat):Int):=by rw[if_neg];omega
 (refine zGe Tryz.func140 ?_;intro a F;(try simp only[zc,zn] at M))
 (try refine zI zk140 F M ?_;clear F M a;try clear w);(repeat'(first|refine zV (h:=⟨_,by((first|(apply rt_min2;(exact rfl);(exact rfl);(exact hmin))|(apply rt_to;(exact rfl);(exact rfl);(exact rfl);(exact inferInstance);omega))),?_⟩)|refine zA1 ?_;repeat intro(nb:Nat)|refine zC ?_;refine kp (k:=205) (rgq_free b size q _) ?_|refine zB ?_ ?_<;>intro hc<;>try exact no hc|refine zH ?_ ?_<;>(intro hg;rw[hg];try exact no hg)));all_goals try refine zO fun a w F M=>?_
 refine svLoop F M (0:Nat) (fun k=>[(17,.int .i64 k)]) (fun k=>[rgqA b size (q++[x].take k)]) (fun k=>k≤1) (fun k=>1 - k) [] (by simp) ?_ (hR:=by rw[List.take_zero,List.append_nil];(repeat (first|exact Pulls.nil|(apply Pulls.cons;(focus ((repeat (first|exact Pull.here|apply Pull.there));done))))))
 (rintro k q1 a w F M;(try simp only[zc,zn] at F M q1 ⊢))
 by_cases hk:k=0
 ·subst hk
  rw[List.take_zero,List.append_nil] at M
  have hx:[x][0]? = some x:=rfl
  (try refine zI zk140 F M ?_;clear F M a;try clear w);(repeat'(first|refine zV (h:=⟨_,by((first|(apply rt_min2;(exact rfl);(exact rfl);(exact hmin))|(apply rt_to;(exact rfl);(exact rfl);(exact rfl);(exact inferInstance);omega))),?_⟩)|refine zA1 ?_;repeat intro(nb:Nat)|refine zC ?_;((refine acK (k:=206) (rgq_growA b size q hq _) ?_);rintro u L' ⟨z,hz,hroom,rfl,rfl⟩);obtain ⟨hf,h2,hm0,hm1⟩:=rgq_fl hz hroom;simp only[zc,zn]|refine zB ?_ ?_<;>intro hc<;>try exact no hc|refine zH ?_ ?_<;>(intro hg;rw[hg];try exact no hg)));all_goals try refine zO fun a w F M=>?_
  have hmod:(((z.f:Int)+(q.length:Int)) % (z.S.length:Int)).toNat=(z.f+q.length) % z.S.length:=by
   rw[show(z.f:Int)+(q.length:Int)=((z.f+q.length:Nat):Int) by omega,← Int.natCast_emod,Int.toNat_natCast]
  have hok:=rgq_push_ok (x:=x) hz hroom
  rw[← hmod] at hok
  obtain ⟨j,hj⟩:∃ j,(((z.f:Int)+(q.length:Int)) % (z.S.length:Int)).toNat=j:=⟨_,rfl⟩
  rw[hj] at hok
  obtain ⟨u0,hu0⟩:∃ u0,z.S[j]? = some u0:=⟨z.S[j]'(by omega),by simp⟩
  rw[← hj] at hu0
  (try refine zI zk140 F M ?_;clear F M a;try clear w);(repeat'(first|refine zV (h:=⟨_,by((first|(apply rt_min2;(exact rfl);(exact rfl);(exact hmin))|(apply rt_to;(exact rfl);(exact rfl);(exact rfl);(exact inferInstance);omega))),?_⟩)|refine zA1 ?_;repeat intro(nb:Nat)|refine zC ?_;(first|refine ac_storeEA (f:=rqL) (v:=sl z.h) (k:=2) rfl rfl inferInstance x rfl hu0 inferInstance (by(focus ((repeat (first|exact Rep.here|apply Rep.there));done))) ?_;rw[hj]|refine ac_storeE (f:=rqL) (v:=sl z.h) (k:=2) (i:=0) (xs:=z.S) rfl rfl inferInstance rfl rfl hu0 inferInstance rfl x rfl (by(focus ((repeat (first|exact Rep.here|apply Rep.there));done))) ?_;rw[hj])|refine zB ?_ ?_<;>intro hc<;>try exact no hc|refine zH ?_ ?_<;>(intro hg;rw[hg];try exact no hg)));all_goals try refine zO fun a w F M=>?_
  have e:(q.length:Int)+1=(((q++[x]).length:Nat):Int):=by simp
  rw[e] at M
  have M:=rgq_close hok (M.perms (permsA:Perms _ (rgqP b size (q++[x]) ⟨z.h,z.S.set j x,z.f⟩++(R++G))))
  exact sv_again F M 1 kpA permsA (by omega) (by omega)
 ·obtain rfl:k=1:=by omega
  (try refine zI zk140 F M ?_;clear F M a;try clear w);(repeat'(first|refine zV (h:=⟨_,by((first|(apply rt_min2;(exact rfl);(exact rfl);(exact hmin))|(apply rt_to;(exact rfl);(exact rfl);(exact rfl);(exact inferInstance);omega))),?_⟩)|refine zA1 ?_;repeat intro(nb:Nat)|refine zC ?_;(first|refine ac_storeEA (f:=rqL) (v:=sl z.h) (k:=2) rfl rfl inferInstance x rfl hu0 inferInstance (by(focus ((repeat (first|exact Rep.here|apply Rep.there));done))) ?_;rw[hj]|refine ac_storeE (f:=rqL) (v:=sl z.h) (k:=2) (i:=0) (xs:=z.S) rfl rfl inferInstance rfl rfl hu0 inferInstance rfl x rfl (by(focus ((repeat (first|exact Rep.here|apply Rep.there));done))) ?_;rw[hj])|refine zB ?_ ?_<;>intro hc<;>try exact no hc|refine zH ?_ ?_<;>(intro hg;rw[hg];try exact no hg)));all_goals exact zXz
theorem rgq_pushF (b size:Nat) (q:List (Nat × Int)) (x:Nat × Int) (v:SlH) (R:List Asn) (hg:GS R 2 (sl v) 1 ([x].flatMap rqL)) (hv:v.n=1∧1≤v.c) (hq:q.length=size) (hs:size≤4096):Spec 140 [ptr b,sl v] (rgqA b size q::R) fun u L'=>u=.int .i64 0∧L'=rgqA b size q::R:=by
 obtain ⟨hv1,hv2⟩:=hv
 intro G w M
 have hg1:GS (R++G) 2 (sl v) 1 ([x].flatMap rqL):=hg.imp fun w M=>M.drop_app
 have hg2:GS (R++G) 2 (sl ⟨v.a,0,v.c⟩) ([]:List (Nat × Int)).length (([]:List (Nat × Int)).flatMap rqL):=fun w M=>by have:=(hg1 w M).to (j:=0) (by omega);simpa using this
 have hmin:(if ((size:Int) - (q.length:Int))<((1:Nat):Int) then ((size:Int) - (q.length:Int)) else ((1:Nat):Int))=((0:Nat):Int):=by rw[if_pos]<;>omega
 (refine zGe Tryz.func140 ?_;intro a F;(try simp only[zc,zn] at M))
 (try refine zI zk140 F M ?_;clear F M a;try clear w);(repeat'(first|refine zV (h:=⟨_,by((first|(apply rt_min2;(exact rfl);(exact rfl);(exact hmin))|(apply rt_to;(exact rfl);(exact rfl);(exact rfl);(exact inferInstance);omega))),?_⟩)|refine zA1 ?_;repeat intro(nb:Nat)|refine zC ?_;refine kp (k:=205) (rgq_free b size q _) ?_|refine zB ?_ ?_<;>intro hc<;>try exact no hc|refine zH ?_ ?_<;>(intro hg;rw[hg];try exact no hg)));all_goals try refine zO fun a w F M=>?_
 refine svLoop F M (0:Nat) (fun k=>[(17,.int .i64 k)]) (fun _=>[]) (fun k=>k=0) (fun k=>1 - k) [] rfl ?_
 (rintro k q1 a w F M;(try simp only[zc,zn] at F M q1 ⊢))
 subst q1
 (try refine zI zk140 F M ?_;clear F M a;try clear w);(repeat'(first|refine zV (h:=⟨_,by((first|(apply rt_min2;(exact rfl);(exact rfl);(exact hmin))|(apply rt_to;(exact rfl);(exact rfl);(exact rfl);(exact inferInstance);omega))),?_⟩)|refine zA1 ?_;repeat intro(nb:Nat)|refine zB ?_ ?_<;>intro hc<;>try exact no hc|refine zH ?_ ?_<;>(intro hg;rw[hg];try exact no hg)));all_goals exact zXz
end
section
open Go.RowKit
abbrev cuC (b:Nat) (at':Nat):Asn:=pt b [.int .i64 (at':Int)] 211
theorem cu_new (R:List Asn):Spec 71 [] R fun u L'=>∃ b,u=ptr b∧L'=cuC b 0::R:=by
 refine zGz zk71 Tryz.func71 ?_;intro G;(repeat'(first|refine zA ?_;repeat intro nb|refine zB ?_ ?_<;>intro hc<;>try exact no hc|refine zH ?_ ?_<;>(intro hg;rw[hg];try exact no hg)));all_goals try refine zO fun a w F M=>?_
 (all_goals(refine zE F M ?_;exact⟨_,_,rfl,⟨nb,rfl,rfl⟩,M.perms permsA⟩))
theorem cu_at (b at':Nat) (R:List Asn):Spec 50 [ptr b] (cuC b at'::R) fun u L'=>u=.int .i64 at'∧L'=cuC b at'::R:=by
 refine zGz zk50 Tryz.func50 ?_;intro G;(repeat'(first|refine zA ?_;repeat intro nb|refine zB ?_ ?_<;>intro hc<;>try exact no hc|refine zH ?_ ?_<;>(intro hg;rw[hg];try exact no hg)));all_goals exact zXz
theorem ln_new (size:Nat) (h:1≤size∧size≤4096) (R:List Asn):Spec 73 [.int .i64 size] R fun u L'=>∃ b r0 r1,u=ptr b∧L'=lnP b r0 r1 size [] [] R:=by
 obtain ⟨h1,h2⟩:=h
 refine zGz zk73 Tryz.func73 ?_;intro G;(repeat'(first|refine zA ?_;repeat intro nb|refine zB ?_ ?_<;>intro hc<;>try exact no hc|refine zH ?_ ?_<;>(intro hg;rw[hg];try exact no hg)));all_goals try refine zO fun a w F M=>?_
 have e1:¬((1:Nat)≤0):=by omega
 have e2:¬((2:Nat)≤0):=by omega
 have e3:¬((2:Nat)≤1):=by omega
 have e4:(1:Nat)≤2:=by omega
 refine svLoop F M ((0,0,0):Nat × Nat × Nat) (fun z=>[(13,.int .i64 z.1)]) (fun z=>pt nb [if 1≤z.1 then ptr z.2.1 else .pointer none,if 2≤z.1 then ptr z.2.2 else .pointer none] 226::((if 1≤z.1 then [rgnA z.2.1 size []] else [])++(if 2≤z.1 then [rgnA z.2.2 size []] else []))) (fun z=>z.1≤2) (fun z=>2 - z.1) [] (by simp) ?_ (hR:=by simp only[e1,e2,if_false,List.append_nil];(repeat (first|exact Pulls.nil|(apply Pulls.cons;(focus ((repeat (first|exact Pull.here|apply Pull.there));done))))))
 (rintro⟨k,r0,r1⟩ q1 a w F M;(try simp only[zc,zn] at F M q1 ⊢))
 try dsimp only at q1
 rcases (by omega:k=0∨k=1∨k=2) with rfl|rfl|rfl
 ·simp only[e1,e2,if_false,List.append_nil,zn,zc] at M
  (try refine zI zk73 F M ?_;clear F M a;try clear w);(repeat'(first|refine zA ?_;repeat intro nb|refine zC ?_;refine acW (k:=74) (rgn_new size ⟨h1,h2⟩ _) ?_;rintro u L' ⟨r,rfl,rfl⟩|refine zB ?_ ?_<;>intro hc<;>try exact no hc|refine zH ?_ ?_<;>(intro hg;rw[hg];try exact no hg)));all_goals try refine zO fun a w F M=>?_
  exact sv_again F M (1,r,0) kpA (by simp only[Nat.le_refl,e3,if_true,if_false,zc,List.append_nil,zn];exact permsA) (by dsimp only;omega) (by dsimp only;omega)
 ·simp only[Nat.le_refl,e3,if_true,if_false,List.append_nil,zn,zc] at M
  (try refine zI zk73 F M ?_;clear F M a;try clear w);(repeat'(first|refine zA ?_;repeat intro nb|refine zC ?_;refine acW (k:=74) (rgn_new size ⟨h1,h2⟩ _) ?_;rintro u L' ⟨r,rfl,rfl⟩|refine zB ?_ ?_<;>intro hc<;>try exact no hc|refine zH ?_ ?_<;>(intro hg;rw[hg];try exact no hg)));all_goals try refine zO fun a w F M=>?_
  exact sv_again F M (2,r0,r) kpA (by simp only[Nat.le_refl,e4,if_true,if_false,zc,List.append_nil,zn];exact permsA) (by dsimp only;omega) (by dsimp only;omega)
 ·simp only[Nat.le_refl,e4,if_true,List.append_nil,zn,zc] at M
  (try refine zI zk73 F M ?_;clear F M a;try clear w);(repeat'(first|refine zA ?_;repeat intro nb|refine zB ?_ ?_<;>intro hc<;>try exact no hc|refine zH ?_ ?_<;>(intro hg;rw[hg];try exact no hg)));all_goals try refine zO fun a w F M=>?_
  (all_goals(refine zE F M ?_;exact⟨_,_,rfl,⟨nb,r0,r1,rfl,rfl⟩,M.perms permsA⟩))
structure EH where
 rg:Nat
 ck:Nat
 ld:Nat
 bo:Nat
 lv:SlH
 cu:Nat
 mt:Nat
 ln:Nat
 r0:Nat
 r1:Nat
 pe:Nat
 me:Nat
 pa:Nat
def engC (H:EH) (c:Cfg):List Value:=[ptr H.rg,.int .i64 c.capacity,.int .i64 c.queueSize,.int .u64 c.minDeposit,.int .u64 c.maxDeposit,.int .u64 c.supplyCap,.int .u64 c.minBalance,.int .u64 c.maxBalance,.int .u64 c.minChurn,.int .u64 c.quotient,.int .u64 c.forcedCap,
 .int .i64 c.unbonding,.int .i64 c.slashDelay,.int .i64 c.ringLen,.int .i64 c.epochLen,.int .i64 c.visits,.int .i64 c.payments,.int .i64 c.partials,.int .i64 c.merges,.int .u64 c.penNum,.int .u64 c.penDen,
 ptr H.ck,ptr H.ld,ptr H.bo,sl H.lv,ptr H.cu,ptr H.mt,ptr H.ln,ptr H.pe,ptr H.me,ptr H.pa]
abbrev qS (c:Cfg):Nat:=c.queueSize.toNat
abbrev engL (b:Nat) (H:EH) (c:Cfg) (s:St) (R:List Asn):List Asn :=
 pt b (engC H c) 122::regA H.rg c.capacity s.V::ckC H.ck s.bk c.epochLen::ldC H.ld s.dep s.pd s.bu c.supplyCap::bkA H.bo c.ringLen.toNat s.bo::ownT 3 natL 1 (sl H.lv) s.lv::cuC H.cu s.at'::mtA H.mt s.ca ::
 lnC H.ln H.r0 H.r1::rgnA H.r0 (qS c) s.fo::rgnA H.r1 (qS c) s.vo::rgnA H.pe (qS c) s.pe::rgpA H.me (qS c) s.me::rgqA H.pa (qS c) s.pa::R
theorem eng_new (c:Cfg) (hc:CfOk c) (hk:checkF c=0) (R:List Asn):Spec 24 [cfgV c] R fun u L'=>∃ b H,u=.tuple [ptr b,.int .i64 0].toArray∧L'=engL b H c St.ini R:=by
 have q1:=hc.qs
 have q2:=hc.rl
 obtain ⟨qs,hqs⟩:∃ qs:Nat,c.queueSize=qs:=⟨c.queueSize.toNat,by omega⟩
 obtain ⟨rl,hrl⟩:∃ rl:Nat,c.ringLen=rl:=⟨c.ringLen.toNat,by omega⟩
 have hq:qS c=qs:=by simp only[qS,hqs,Int.toNat_natCast]
 have hr:c.ringLen.toNat=rl:=by rw[hrl,Int.toNat_natCast]
 have n1:∀ R,Spec 74 [.int .i64 c.queueSize] R fun u L'=>∃ b,u=ptr b∧L'=rgnA b (qS c) []::R:=fun R=>by rw[hq,hqs];exact rgn_new qs (by omega) R
 have n2:∀ R,Spec 75 [.int .i64 c.queueSize] R fun u L'=>∃ b,u=ptr b∧L'=rgpA b (qS c) []::R:=fun R=>by rw[hq,hqs];exact rgp_new qs (by omega) R
 have n3:∀ R,Spec 76 [.int .i64 c.queueSize] R fun u L'=>∃ b,u=ptr b∧L'=rgqA b (qS c) []::R:=fun R=>by rw[hq,hqs];exact rgq_new qs (by omega) R
 have n4:∀ R,Spec 73 [.int .i64 c.queueSize] R fun u L'=>∃ b r0 r1,u=ptr b∧L'=lnP b r0 r1 (qS c) [] [] R:=fun R=>by rw[hq,hqs];exact ln_new qs (by omega) R
 have n5:∀ R,Spec 70 [.int .i64 c.ringLen] R fun u L'=>∃ b,u=ptr b∧L'=bkA b c.ringLen.toNat []::R:=fun R=>by rw[hr,hrl];exact bk_new rl R (by omega)
 have hv:=fun R=>valid_spec c R
 rw[hk] at hv
 refine zGz zk24 Tryz.func24 ?_;intro G;(repeat'(first|refine zA ?_;repeat intro nb|refine zC ?_;(first|refine kpW (k:=66) (hv _) ?_|refine acW (k:=67) (reg_new c.capacity _ hc.ca) ?_;rintro u L' ⟨rg,rfl,rfl⟩|refine acW (k:=68) (clk_new c.epochLen hc.el _) ?_;rintro u L' ⟨ck,rfl,rfl⟩|refine acW (k:=69) (led_new c.supplyCap _) ?_;rintro u L' ⟨ld,rfl,rfl⟩|refine acW (k:=70) (n5 _) ?_;rintro u L' ⟨bo,rfl,rfl⟩|refine acW (k:=71) (cu_new _) ?_;rintro u L' ⟨cu,rfl,rfl⟩|refine acW (k:=72) (mt_new _) ?_;rintro u L' ⟨mt,rfl,rfl⟩|refine acW (k:=73) (n4 _) ?_;rintro u L' ⟨ln,r0,r1,rfl,rfl⟩|refine acW (k:=74) (n1 _) ?_;rintro u L' ⟨pe,rfl,rfl⟩|refine acW (k:=75) (n2 _) ?_;rintro u L' ⟨me,rfl,rfl⟩|refine acW (k:=76) (n3 _) ?_;rintro u L' ⟨pa,rfl,rfl⟩)|refine zB ?_ ?_<;>intro hc<;>try exact no hc|refine zH ?_ ?_<;>(intro hg;rw[hg];try exact no hg)));all_goals try refine zO fun a w F M=>?_
 all_goals refine zE F M ?_
 replace M:=M.own_nil 3 1
 exact⟨_,_,rfl,⟨nb,⟨rg,ck,ld,bo,nilH,cu,mt,ln,r0,r1,pe,me,pa⟩,rfl,rfl⟩,M.perms permsA⟩
end
section
open Go.RowKit
structure Sn where
 bk:Int
 ep:Int
 dep:Int
 pd:Int
 bu:Int
 ac:Int
 at':Int
 ca:Int
 un:Int
 hV:SlH
 hP:SlH
 hF:SlH
 hO:SlH
 hM:SlH
 hQ:SlH
def snL (x:Sn):List Value:=[.int .i64 x.bk,.int .i64 x.ep,sl x.hV,.int .u64 x.dep,.int .u64 x.pd,.int .u64 x.bu,.int .u64 x.ac,sl x.hP,sl x.hF,sl x.hO,sl x.hM,sl x.hQ,.int .i64 x.at',.int .u64 x.ca,.int .i64 x.un]
abbrev snV (x:Sn):Value:=.agg (snL x).toArray
def snOf (c:Cfg) (s:St) (hV hP hF hO hM hQ:SlH):Sn:=⟨s.bk,epo c s,s.dep,s.pd,s.bu,actv s.V,s.at',s.ca,s.bo.length,hV,hP,hF,hO,hM,hQ⟩
theorem actv_le:∀ (V:List Val),(∀ x∈bals V,0≤x)→0≤actv V∧actv V≤(bals V).sum
 | [],_=>by simp[actv,bals]
 | v::V,h=>by
  have h1:∀ x∈bals V,0≤x:=fun x hx=>h x (List.mem_cons_of_mem _ hx)
  have:=actv_le V h1
  have h0:0≤v.bal:=h v.bal (List.mem_cons_self ..)
  have e1:(bals (v::V)).sum=v.bal+(bals V).sum:=rfl
  have e2:actv (v::V)=if v.live=true then v.bal+actv V else actv V:=by
   unfold actv bals;rw[List.filter_cons];split<;>rfl
  rw[e1,e2];split<;>omega
theorem snap_spec (b:Nat) (H:EH) (c:Cfg) (s:St) (hc:CfOk c) (hi:Inv c s) (R:List Asn):Spec 13 [ptr b] (engL b H c s R) fun u L'=>∃ hV hP hF hO hM hQ,u=snV (snOf c s hV hP hF hO hM hQ)∧L'=ownT 62 valL 7 (sl hV) s.V::ownT 3 natL 1 (sl hP) s.pe::ownT 3 natL 1 (sl hF) s.fo::ownT 3 natL 1 (sl hO) s.vo::ownT 77 prL 2 (sl hM) s.me::ownT 79 rqL 2 (sl hQ) s.pa::engL b H c s R:=by
 have hcap:=hi.cap
 have hca:=hc.ca
 have hqs:=hc.qs
 obtain ⟨l1,l2,l3,l4,l5⟩:=hi.ql
 have hac:=actv_le s.V hi.bal0
 have hsup:=hi.sup
 have hsc:=hc.sc
 have hbk:=hi.bk
 refine zGz zk13 Tryz.func13 ?_;intro G;(repeat'(first|refine zA ?_;repeat intro nb|refine zC ?_;(first|refine kp (k:=41) (led_totals H.ld s.dep s.pd s.bu c.supplyCap _) ?_|refine kp (k:=42) (clk_block H.ck s.bk c.epochLen _) ?_|refine kp (k:=43) (clk_epoch H.ck s.bk c.epochLen hc.el (by omega) _) ?_|refine acK (k:=44) (reg_all H.rg c.capacity s.V (by omega) _) ?_;rintro u L' ⟨hV,rfl,rfl⟩|refine kp (k:=45) (reg_active H.rg c.capacity s.V _ ⟨by omega,by omega⟩) ?_|refine acK (k:=46) (rgn_all H.pe (qS c) s.pe (by omega) _) ?_;rintro u L' ⟨hP,rfl,rfl⟩|refine acK (k:=47) (lall0 H.ln H.r0 H.r1 (qS c) s.fo s.vo _ (by omega)) ?_;rintro u L' ⟨hF,rfl,rfl⟩|refine acK (k:=47) (lall1 H.ln H.r0 H.r1 (qS c) s.fo s.vo _ (by omega)) ?_;rintro u L' ⟨hO,rfl,rfl⟩|refine acK (k:=48) (rgp_all H.me (qS c) s.me (by omega) _) ?_;rintro u L' ⟨hM,rfl,rfl⟩|refine acK (k:=49) (rgq_all H.pa (qS c) s.pa (by omega) _) ?_;rintro u L' ⟨hQ,rfl,rfl⟩|refine kp (k:=50) (cu_at H.cu s.at' _) ?_|refine kp (k:=51) (mt_bal H.mt s.ca _ hi.ca) ?_|refine kp (k:=52) (bk_len H.bo c.ringLen.toNat s.bo _) ?_)|refine zB ?_ ?_<;>intro hc<;>try exact no hc|refine zH ?_ ?_<;>(intro hg;rw[hg];try exact no hg)));all_goals try refine zO fun a w F M=>?_
 all_goals refine zE F M ?_
 all_goals exact⟨_,_,rfl,⟨hV,hP,hF,hO,hM,hQ,rfl,rfl⟩,M.perms permsA⟩
end
section
open Go.RowKit
instance fnAp [IL 0]:FN 195 Tryz.f195 (zku zk195):=⟨Tryz.func195,inferInstance⟩
instance fnEv [IL 0]:FN 196 Tryz.f196 zk196:=⟨Tryz.func196,inferInstance⟩
instance fnEv1 [IL 0]:FN 285 Tryz.f285 zk285:=⟨Tryz.func285,inferInstance⟩
instance fnDl [IL 0]:FN 197 Tryz.f197 zk197:=⟨Tryz.func197,inferInstance⟩
instance fnDl1 [IL 0]:FN 286 Tryz.f286 zk286:=⟨Tryz.func286,inferInstance⟩
instance fnAc [IL 0]:FN 279 Tryz.f279 zk279:=⟨Tryz.func279,inferInstance⟩
instance fnAs [IL 0]:FN 320 Tryz.f320 zk320:=⟨Tryz.func320,inferInstance⟩
instance fnSl1 [IL 0]:FN 192 Tryz.f192 zk192:=⟨Tryz.func192,inferInstance⟩
instance fnSl2 [IL 0]:FN 193 Tryz.f193 zk193:=⟨Tryz.func193,inferInstance⟩
instance fnAm [IL 0]:FN 194 Tryz.f194 zk194:=⟨Tryz.func194,inferInstance⟩
instance fnPy [IL 0]:FN 276 Tryz.f276 zk276:=⟨Tryz.func276,inferInstance⟩
instance fnLt [IL 0]:FN 280 Tryz.f280 (zku zk280):=⟨Tryz.func280,inferInstance⟩
instance fnMx [IL 0]:FN 287 Tryz.f287 (zku zk287):=⟨Tryz.func287,inferInstance⟩
instance fnMx2 [IL 0]:FN 332 Tryz.f332 (zku zk332):=⟨Tryz.func332,inferInstance⟩
theorem nx_spec {s e x:Int} (R:List Asn) (hs:(Lit.int .i64 s).wf=true) (he:(Lit.int .i64 e).wf=true) (hx:nextF s e=x):Spec 263 [.int .i64 s,.int .i64 e] R fun u L'=>u=.tuple [.int .i64 x,.bool (x != 0)].toArray∧L'=R:=by
 subst hx;exact Spec.of_below (fun w=>next_status s e hs he w) ⟨rfl,rfl⟩
theorem mdv_spec {a b d:Int} (R:List Asn) (ha:U64 a) (hb:U64 b) (hd:U64 d):Spec 284 [.int .u64 a,.int .u64 b,.int .u64 d] R fun u L'=>u=.tuple [.int .u64 (mulF a b d),.bool (mulB a b d)].toArray∧L'=R :=
 Spec.of_below (fun w=>mulDiv_any a b d w ha.1 ha.2 hb.1 hb.2 hd.1 hd.2) ⟨rfl,rfl⟩
section
variable (v:Val) (e:Int) (h0:0≤e) (hs:(Lit.int .i64 v.st).wf=true) (R:List Asn)
include h0
section
variable (h1:e≤1099511627776)
include h1
include hs
theorem pnAcc_spec:Spec 188 [valV v,.int .i64 e] R fun u L'=>u=.tuple [valV (accR v e).2.1,.int .i64 (accR v e).1].toArray∧L'=R:=by
 unfold accR
 obtain ⟨bal,st,sl,rq,ex,wd,dl⟩:=v
 simp only at hs ⊢
 by_cases h:st=2
 ·subst h
  have hn:=fun R=>nx_spec (s:=2) (e:=2) R hs rfl rfl
  have il:IL 0:=⟨trivial⟩
  refine zGz zk188 Tryz.func188 ?_;intro G;(repeat'(first|refine zA ?_;repeat intro nb|refine zC ?_;refine kpW (k:=263) (hn _) ?_|refine zB ?_ ?_<;>intro hc<;>try exact no hc|refine zH ?_ ?_<;>(intro hg;rw[hg];try exact no hg)));all_goals exact zXz
 ·rw[if_neg h]
  have hn:=fun R=>nx_spec (s:=st) (e:=2) R hs rfl (show nextF st 2=0 by simp[nextF,h])
  have il:IL 0:=⟨trivial⟩
  refine zGz zk188 Tryz.func188 ?_;intro G;(repeat'(first|refine zA ?_;repeat intro nb|refine zC ?_;refine kpW (k:=263) (hn _) ?_|refine zB ?_ ?_<;>intro hc<;>try exact no hc|refine zH ?_ ?_<;>(intro hg;rw[hg];try exact no hg)));all_goals exact zXz
end
variable (c:Cfg)
section
variable (hu:0≤c.unbonding) (h1:e+c.unbonding≤1099511627776) (h3:v.st=3) (hx:v.ex = -1)
include hu h1 h3 hx
theorem pnAsg_spec:Spec 266 [valV v,.int .i64 e,cfgV c] R fun u L'=>u=.tuple [valV {v with ex:=e,wd:=max v.wd (e+c.unbonding)},.int .i64 0].toArray∧L'=R:=by
 obtain ⟨bal,st,sl,rq,ex,wd,dl⟩:=v
 simp only at h3 hx ⊢
 subst h3;subst hx
 have hmx:(if 0+e+c.unbonding>wd then 0+e+c.unbonding else wd)=max wd (e+c.unbonding):=by split<;>omega
 rw[← hmx]
 have il:IL 0:=⟨trivial⟩
 refine zGz zk266 Tryz.func266 ?_;intro G;(repeat'(first|refine zA ?_;repeat intro nb|refine zB ?_ ?_<;>intro hc<;>try exact no hc|refine zH ?_ ?_<;>(intro hg;rw[hg];try exact no hg)));all_goals exact zXz
end
section
variable (h5:v.st=5) (hw:v.wd≤e)
include h5 hw
theorem pnPay_spec:Spec 182 [valV v,.int .i64 e] R fun u L'=>u=.tuple [valV {v with bal:=0,st:=6},.int .u64 v.bal,.int .i64 0].toArray∧L'=R:=by
 obtain ⟨bal,st,sl,rq,ex,wd,dl⟩:=v
 simp only at h5 hw ⊢
 subst h5
 have hn:=fun R=>nx_spec (s:=5) (e:=5) R rfl rfl rfl
 have il:IL 0:=⟨trivial⟩
 refine zGz zk182 Tryz.func182 ?_;intro G;(repeat'(first|refine zA ?_;repeat intro nb|refine zC ?_;refine kpW (k:=263) (hn _) ?_|refine zB ?_ ?_<;>intro hc<;>try exact no hc|refine zH ?_ ?_<;>(intro hg;rw[hg];try exact no hg)));all_goals exact zXz
end
end
end
end Go.Proofs.YtjbfcacmdahnhaaGreat
