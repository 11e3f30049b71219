import Derived.Test.YtopbohbkhljjgaaGreatZmn
set_option linter.unusedVariables false
set_option linter.unusedSimpArgs false
set_option linter.unusedSectionVars false
set_option maxRecDepth 100000
set_option maxHeartbeats 8000000
namespace Go.Proofs.YtopbohbkhljjgaaGreat
section
open Go.RowKit
theorem rgp_grow (b size:Nat) (q:List (Nat × Nat)) (z:rgpH) (hz:rgpOk size q z) (hq:q.length<size) (R:List Asn):Spec 226 [ptr b] (rgpP b size q z++R) fun u L'=>∃ z',rgpOk size q z'∧q.length<z'.S.length∧u=.tuple #[]∧L'=rgpP b size q z'++R:=by
 intro G w M
 have h1:=hz.n
 have h2:=hz.s
 have h3:=hz.p
 simp only[zc,zn] at M
 by_cases hlt:q.length<z.S.length
 ·(refine zGe Tryz.func226 ?_;intro a F;(try simp only[zc,zn] at M))
  (try refine zI F M ?_;clear F M a;try clear w);(repeat'(first|refine zA zk226 ?_;repeat intro nb|refine zB ?_ ?_<;>intro hc<;>try exact no hc|refine zH ?_ ?_<;>(intro hg;rw[hg];try exact no hg)));all_goals try refine⟨fun a w F M=>?_⟩
  (all_goals(refine zE F M ?_;exact⟨_,_,rfl,⟨z,hz,hlt,rfl,rfl⟩,M.perms permsA⟩))
 ·have hm:q.length=z.S.length:=by omega
  obtain ⟨m,hmm⟩:∃ m:Nat,m=min size (2*z.S.length+1):=⟨_,rfl⟩
  have hmin:(if (2*(z.S.length:Int)+1)<(size:Int) then (2*(z.S.length:Int)+1) else (size:Int))=(m:Int):=by split<;>omega
  have hf:z.f≤z.S.length:=by rcases hz.f with h|⟨h,h'⟩<;>omega
  have ed:z.S.length - z.f=(z.S.drop z.f).length:=by simp
  have et:z.f=(z.S.take z.f).length:=by simp;omega
  obtain ⟨hzn,hzc,_⟩:=own_h (M.pull (by(focus ((repeat (first|exact Pull.here|apply Pull.there));done))))
  obtain ⟨X1,hX1⟩:∃ X1,z.S.drop z.f++List.replicate (m - (z.S.drop z.f).length) ((0,0))=X1:=⟨_,rfl⟩
  obtain ⟨X2,hX2⟩:∃ X2,z.S.drop z.f++z.S.take z.f++List.replicate (m - z.S.length) ((0,0))=X2:=⟨_,rfl⟩
  have l1:X1.length=m:=by rw[← hX1];simp;omega
  have l2:X2.length=m:=by rw[← hX2];simp;omega
  have x1:(List.replicate m ((0,0))).take 0++z.S.drop z.f++(List.replicate m ((0,0))).drop (0+(z.S.drop z.f).length)=X1:=by rw[← hX1];simp
  have x2:X1.take (z.S.drop z.f).length++z.S.take z.f++X1.drop ((z.S.drop z.f).length+(z.S.take z.f).length)=X2:=by
   rw[← hX1,← hX2,List.take_left' rfl,← List.drop_drop,List.drop_left' rfl,List.drop_replicate,← ed,← et]
   congr 2;omega
  (refine zGe Tryz.func226 ?_;intro a F;(try simp only[zc,zn] at M))
  (try refine zI F M ?_;clear F M a;try clear w);(repeat'(first|refine zV (h:=⟨_,by((first|(apply rt_min2;(exact rfl);(exact rfl);(exact hmin))|(apply rt_fromN;(exact rfl);(exact rfl);(exact rfl);(exact inferInstance);(try dsimp only);omega;(try dsimp only);omega)|(apply rt_from;(exact rfl);(exact rfl);(exact rfl);(exact inferInstance);omega)|(apply rt_to;(exact rfl);(exact rfl);(exact rfl);(exact inferInstance);omega))),?_⟩)|refine zA1 zk226 ?_;repeat intro(nb:Nat)|refine zC ?_;(first|refine ac_makeT (f:=prL) inferInstance ((0,0)) rfl rfl inferInstance rfl (m:=m) rfl rfl (by omega) (by omega) ?_;intro nb|refine ac_copyT (f:=prL) (j:=0) rfl rfl inferInstance inferInstance rfl rfl (gs_from (by(focus ((repeat (first|exact Pull.here|apply Pull.there));done))) hf) (flat_drop (f:=prL) EL.len _ _) ed (by(focus ((repeat (first|exact Pull.here|apply Pull.there));done))) (by rw[List.length_replicate]) (by rw[List.length_replicate];dsimp only;omega) (by dsimp only;omega) ?_;rw[x1]|refine ac_copyT (f:=prL) (j:=(z.S.drop z.f).length) rfl rfl inferInstance inferInstance rfl rfl (gs_to (by(focus ((repeat (first|exact Pull.here|apply Pull.there));done))) hf) (flat_take (f:=prL) EL.len _ _) et (by(focus ((repeat (first|exact Pull.here|apply Pull.there));done))) (by rw[l1]) (by dsimp only;omega) (by dsimp only;omega) ?_;rw[x2])|refine zB ?_ ?_<;>intro hc<;>try exact no hc|refine zH ?_ ?_<;>(intro hg;rw[hg];try exact no hg)));all_goals try refine⟨fun a w F M=>?_⟩
  all_goals refine zE F M ?_
  refine⟨_,_,rfl,⟨⟨⟨some ⟨nb,0,none⟩,m,m⟩,X2,0⟩,⟨by dsimp only;omega,by dsimp only;omega,h3,.inl (by dsimp only;omega),fun i hi=>?_⟩,by dsimp only;omega,rfl,rfl⟩,M.perms permsA⟩
  rw[← hz.g i hi]
  dsimp only
  rw[l2,Nat.zero_add,Nat.mod_eq_of_lt (by omega),← hX2,List.getElem?_append_left (by simp;omega)]
  by_cases hi2:i<z.S.length - z.f
  ·rw[List.getElem?_append_left (by simp;omega),List.getElem?_drop,Nat.mod_eq_of_lt (by omega)]
  ·rw[List.getElem?_append_right (by simp;omega),List.getElem?_take_of_lt (by simp;omega),List.length_drop]
   congr 1
   rw[Nat.mod_eq_sub_mod (by omega),Nat.mod_eq_of_lt (by omega)];omega
theorem rgp_growA (b size:Nat) (q:List (Nat × Nat)) (hq:q.length<size) (R:List Asn):Spec 226 [ptr b] (rgpA b size q::R) fun u L'=>∃ z',rgpOk size q z'∧q.length<z'.S.length∧u=.tuple #[]∧L'=rgpP b size q z'++R:=by
 intro G w M
 obtain ⟨z,hz,M⟩:=rgp_open (L:=R++G) M
 exact rgp_grow b size q z hz hq R G w (by simpa using M)
theorem rgp_push_ok {size:Nat} {x:Nat × Nat} {q:List (Nat × Nat)} {z:rgpH} (h:rgpOk size q z) (hl:q.length<z.S.length):rgpOk size (q++[x]) ⟨z.h,z.S.set ((z.f+q.length) % z.S.length) x,z.f⟩:=by
 have hf:z.f<z.S.length:=by rcases h.f with h|⟨_,h⟩;(· exact h);(exfalso;rw[h,List.length_nil] at hl;omega)
 have hm:=Nat.mod_lt (z.f+q.length) (show 0<z.S.length by omega)
 refine⟨by simp;omega,by simpa using h.s,h.p,.inl (by simpa using hf),fun i hi=>?_⟩
 simp only[List.length_set]
 by_cases hi2:i=q.length
 ·subst hi2
  rw[List.getElem?_set_self hm];simp
 ·simp at hi
  rw[List.getElem?_append_left (by omega),← h.g i (by omega),List.getElem?_set_ne]
  intro he
  by_cases c1:z.f+q.length<z.S.length
  ·rw[Nat.mod_eq_of_lt c1,Nat.mod_eq_of_lt (by omega)] at he;omega
  ·rw[Nat.mod_eq_sub_mod (by omega),Nat.mod_eq_of_lt (by omega)] at he
   by_cases c2:z.f+i<z.S.length
   ·rw[Nat.mod_eq_of_lt c2] at he;omega
   ·rw[Nat.mod_eq_sub_mod (by omega),Nat.mod_eq_of_lt (by omega)] at he;omega
theorem rgp_fl {size:Nat} {q:List (Nat × Nat)} {z:rgpH} (h:rgpOk size q z) (hl:q.length<z.S.length):z.f<z.S.length∧z.S.length≤size∧0≤((z.f:Int)+(q.length:Int)) % (z.S.length:Int)∧((z.f:Int)+(q.length:Int)) % (z.S.length:Int)<(z.S.length:Int):=by
 have hf:z.f<z.S.length:=by rcases h.f with h|⟨_,h⟩;(· exact h);(exfalso;rw[h,List.length_nil] at hl;omega)
 exact⟨hf,h.s,Int.emod_nonneg _ (by omega),Int.emod_lt_of_pos _ (by omega)⟩
theorem rgp_push (b size:Nat) (q:List (Nat × Nat)) (x:Nat × Nat) (v:SlH) (R:List Asn) (hg:GS R 2 (sl v) 1 ([x].flatMap prL)) (hv:v.n=1∧1≤v.c) (hq:q.length<size) (hs:size≤4096):Spec 154 [ptr b,sl v] (rgpA b size q::R) fun u L'=>u=.int .i64 1∧L'=rgpA b size (q++[x])::R:=by
 obtain ⟨hv1,hv2⟩:=hv
 intro G w M
 have hg1:GS (R++G) 2 (sl v) 1 ([x].flatMap prL):=hg.imp fun w M=>M.drop_app
 have hg2:GS (R++G) 2 (sl ⟨v.a,1,v.c⟩) [x].length ([x].flatMap prL):=fun w M=>by have:=(hg1 w M).to (j:=1) (by omega);rwa [List.take_of_length_le (by rw[flat_lenE (f:=prL) inferInstance];simp)] at this
 have hmin:(if ((size:Int) - (q.length:Int))<((1:Nat):Int) then ((size:Int) - (q.length:Int)) else ((1:Nat):Int))=((1:Nat):Int):=by rw[if_neg];omega
 (refine zGe Tryz.func154 ?_;intro a F;(try simp only[zc,zn] at M))
 (try refine zI F M ?_;clear F M a;try clear w);(repeat'(first|refine zV (h:=⟨_,by((first|(apply rt_min2;(exact rfl);(exact rfl);(exact hmin))|(apply rt_to;(exact rfl);(exact rfl);(exact rfl);(exact inferInstance);omega))),?_⟩)|refine zA1 zk154 ?_;repeat intro(nb:Nat)|refine zC ?_;refine kp (k:=225) (rgp_free b size q _) ?_|refine zB ?_ ?_<;>intro hc<;>try exact no hc|refine zH ?_ ?_<;>(intro hg;rw[hg];try exact no hg)));all_goals try refine⟨fun a w F M=>?_⟩
 refine svLoop F M (0:Nat) (fun k=>[(17,.int .i64 k)]) (fun k=>[rgpA b size (q++[x].take k)]) (fun k=>k≤1) (fun k=>1 - k) [] (by simp) ?_ (hR:=by rw[List.take_zero,List.append_nil];(repeat (first|exact Pulls.nil|(apply Pulls.cons;(focus ((repeat (first|exact Pull.here|apply Pull.there));done))))))
 (rintro k q1 a w F M;(try simp only[zc,zn] at F M q1 ⊢))
 by_cases hk:k=0
 ·subst hk
  rw[List.take_zero,List.append_nil] at M
  have hx:[x][0]? = some x:=rfl
  (try refine zI F M ?_;clear F M a;try clear w);(repeat'(first|refine zV (h:=⟨_,by((first|(apply rt_min2;(exact rfl);(exact rfl);(exact hmin))|(apply rt_to;(exact rfl);(exact rfl);(exact rfl);(exact inferInstance);omega))),?_⟩)|refine zA1 zk154 ?_;repeat intro(nb:Nat)|refine zC ?_;((refine acK (k:=226) (rgp_growA b size q hq _) ?_);rintro u L' ⟨z,hz,hroom,rfl,rfl⟩);obtain ⟨hf,h2,hm0,hm1⟩:=rgp_fl hz hroom;simp only[zc,zn]|refine zB ?_ ?_<;>intro hc<;>try exact no hc|refine zH ?_ ?_<;>(intro hg;rw[hg];try exact no hg)));all_goals try refine⟨fun a w F M=>?_⟩
  have hmod:(((z.f:Int)+(q.length:Int)) % (z.S.length:Int)).toNat=(z.f+q.length) % z.S.length:=by
   rw[show(z.f:Int)+(q.length:Int)=((z.f+q.length:Nat):Int) by omega,← Int.natCast_emod,Int.toNat_natCast]
  have hok:=rgp_push_ok (x:=x) hz hroom
  rw[← hmod] at hok
  obtain ⟨j,hj⟩:∃ j,(((z.f:Int)+(q.length:Int)) % (z.S.length:Int)).toNat=j:=⟨_,rfl⟩
  rw[hj] at hok
  obtain ⟨u0,hu0⟩:∃ u0,z.S[j]? = some u0:=⟨z.S[j]'(by omega),by simp⟩
  rw[← hj] at hu0
  (try refine zI F M ?_;clear F M a;try clear w);(repeat'(first|refine zV (h:=⟨_,by((first|(apply rt_min2;(exact rfl);(exact rfl);(exact hmin))|(apply rt_to;(exact rfl);(exact rfl);(exact rfl);(exact inferInstance);omega))),?_⟩)|refine zA1 zk154 ?_;repeat intro(nb:Nat)|refine zC ?_;(first|refine ac_storeEA (f:=prL) (v:=sl z.h) (k:=2) rfl rfl inferInstance x rfl hu0 inferInstance (by(focus ((repeat (first|exact Rep.here|apply Rep.there));done))) ?_;rw[hj]|refine ac_storeE (f:=prL) (v:=sl z.h) (k:=2) (i:=0) (xs:=z.S) rfl rfl inferInstance rfl rfl hu0 inferInstance rfl x rfl (by(focus ((repeat (first|exact Rep.here|apply Rep.there));done))) ?_;rw[hj])|refine zB ?_ ?_<;>intro hc<;>try exact no hc|refine zH ?_ ?_<;>(intro hg;rw[hg];try exact no hg)));all_goals try refine⟨fun a w F M=>?_⟩
  have e:(q.length:Int)+1=(((q++[x]).length:Nat):Int):=by simp
  rw[e] at M
  have M:=rgp_close hok (M.perms (permsA:Perms _ (rgpP b size (q++[x]) ⟨z.h,z.S.set j x,z.f⟩++(R++G))))
  exact sv_again F M 1 kpA permsA (by omega) (by omega)
 ·obtain rfl:k=1:=by omega
  (try refine zI F M ?_;clear F M a;try clear w);(repeat'(first|refine zV (h:=⟨_,by((first|(apply rt_min2;(exact rfl);(exact rfl);(exact hmin))|(apply rt_to;(exact rfl);(exact rfl);(exact rfl);(exact inferInstance);omega))),?_⟩)|refine zA1 zk154 ?_;repeat intro(nb:Nat)|refine zC ?_;(first|refine ac_storeEA (f:=prL) (v:=sl z.h) (k:=2) rfl rfl inferInstance x rfl hu0 inferInstance (by(focus ((repeat (first|exact Rep.here|apply Rep.there));done))) ?_;rw[hj]|refine ac_storeE (f:=prL) (v:=sl z.h) (k:=2) (i:=0) (xs:=z.S) rfl rfl inferInstance rfl rfl hu0 inferInstance rfl x rfl (by(focus ((repeat (first|exact Rep.here|apply Rep.there));done))) ?_;rw[hj])|refine zB ?_ ?_<;>intro hc<;>try exact no hc|refine zH ?_ ?_<;>(intro hg;rw[hg];try exact no hg)));all_goals exact zXz
theorem rgp_pushF (b size:Nat) (q:List (Nat × Nat)) (x:Nat × Nat) (v:SlH) (R:List Asn) (hg:GS R 2 (sl v) 1 ([x].flatMap prL)) (hv:v.n=1∧1≤v.c) (hq:q.length=size) (hs:size≤4096):Spec 154 [ptr b,sl v] (rgpA b size q::R) fun u L'=>u=.int .i64 0∧L'=rgpA b size q::R:=by
 obtain ⟨hv1,hv2⟩:=hv
 intro G w M
 have hg1:GS (R++G) 2 (sl v) 1 ([x].flatMap prL):=hg.imp fun w M=>M.drop_app
 have hg2:GS (R++G) 2 (sl ⟨v.a,0,v.c⟩) ([]:List (Nat × Nat)).length (([]:List (Nat × Nat)).flatMap prL):=fun w M=>by have:=(hg1 w M).to (j:=0) (by omega);simpa using this
 have hmin:(if ((size:Int) - (q.length:Int))<((1:Nat):Int) then ((size:Int) - (q.length:Int)) else ((1:Nat):Int))=((0:Nat):Int):=by rw[if_pos]<;>omega
 (refine zGe Tryz.func154 ?_;intro a F;(try simp only[zc,zn] at M))
 (try refine zI F M ?_;clear F M a;try clear w);(repeat'(first|refine zV (h:=⟨_,by((first|(apply rt_min2;(exact rfl);(exact rfl);(exact hmin))|(apply rt_to;(exact rfl);(exact rfl);(exact rfl);(exact inferInstance);omega))),?_⟩)|refine zA1 zk154 ?_;repeat intro(nb:Nat)|refine zC ?_;refine kp (k:=225) (rgp_free b size q _) ?_|refine zB ?_ ?_<;>intro hc<;>try exact no hc|refine zH ?_ ?_<;>(intro hg;rw[hg];try exact no hg)));all_goals try refine⟨fun a w F M=>?_⟩
 refine svLoop F M (0:Nat) (fun k=>[(17,.int .i64 k)]) (fun _=>[]) (fun k=>k=0) (fun k=>1 - k) [] rfl ?_
 (rintro k q1 a w F M;(try simp only[zc,zn] at F M q1 ⊢))
 subst q1
 (try refine zI F M ?_;clear F M a;try clear w);(repeat'(first|refine zV (h:=⟨_,by((first|(apply rt_min2;(exact rfl);(exact rfl);(exact hmin))|(apply rt_to;(exact rfl);(exact rfl);(exact rfl);(exact inferInstance);omega))),?_⟩)|refine zA1 zk154 ?_;repeat intro(nb:Nat)|refine zB ?_ ?_<;>intro hc<;>try exact no hc|refine zH ?_ ?_<;>(intro hg;rw[hg];try exact no hg)));all_goals exact zXz
theorem rgq_grow (b size:Nat) (q:List (Nat × Int)) (z:rgqH) (hz:rgqOk size q z) (hq:q.length<size) (R:List Asn):Spec 228 [ptr b] (rgqP b size q z++R) fun u L'=>∃ z',rgqOk size q z'∧q.length<z'.S.length∧u=.tuple #[]∧L'=rgqP b size q z'++R:=by
 intro G w M
 have h1:=hz.n
 have h2:=hz.s
 have h3:=hz.p
 simp only[zc,zn] at M
 by_cases hlt:q.length<z.S.length
 ·(refine zGe Tryz.func228 ?_;intro a F;(try simp only[zc,zn] at M))
  (try refine zI F M ?_;clear F M a;try clear w);(repeat'(first|refine zV (h:=⟨_,by((first|(apply rt_min2;(exact rfl);(exact rfl);(exact hmin))|(apply rt_to;(exact rfl);(exact rfl);(exact rfl);(exact inferInstance);omega))),?_⟩)|refine zA1 zk228 ?_;repeat intro(nb:Nat)|refine zB ?_ ?_<;>intro hc<;>try exact no hc|refine zH ?_ ?_<;>(intro hg;rw[hg];try exact no hg)));all_goals try refine⟨fun a w F M=>?_⟩
  (all_goals(refine zE F M ?_;exact⟨_,_,rfl,⟨z,hz,hlt,rfl,rfl⟩,M.perms permsA⟩))
 ·have hm:q.length=z.S.length:=by omega
  obtain ⟨m,hmm⟩:∃ m:Nat,m=min size (2*z.S.length+1):=⟨_,rfl⟩
  have hmin:(if (2*(z.S.length:Int)+1)<(size:Int) then (2*(z.S.length:Int)+1) else (size:Int))=(m:Int):=by split<;>omega
  have hf:z.f≤z.S.length:=by rcases hz.f with h|⟨h,h'⟩<;>omega
  have ed:z.S.length - z.f=(z.S.drop z.f).length:=by simp
  have et:z.f=(z.S.take z.f).length:=by simp;omega
  obtain ⟨hzn,hzc,_⟩:=own_h (M.pull (by(focus ((repeat (first|exact Pull.here|apply Pull.there));done))))
  obtain ⟨X1,hX1⟩:∃ X1,z.S.drop z.f++List.replicate (m - (z.S.drop z.f).length) ((0,0))=X1:=⟨_,rfl⟩
  obtain ⟨X2,hX2⟩:∃ X2,z.S.drop z.f++z.S.take z.f++List.replicate (m - z.S.length) ((0,0))=X2:=⟨_,rfl⟩
  have l1:X1.length=m:=by rw[← hX1];simp;omega
  have l2:X2.length=m:=by rw[← hX2];simp;omega
  have x1:(List.replicate m ((0,0))).take 0++z.S.drop z.f++(List.replicate m ((0,0))).drop (0+(z.S.drop z.f).length)=X1:=by rw[← hX1];simp
  have x2:X1.take (z.S.drop z.f).length++z.S.take z.f++X1.drop ((z.S.drop z.f).length+(z.S.take z.f).length)=X2:=by
   rw[← hX1,← hX2,List.take_left' rfl,← List.drop_drop,List.drop_left' rfl,List.drop_replicate,← ed,← et]
   congr 2;omega
  (refine zGe Tryz.func228 ?_;intro a F;(try simp only[zc,zn] at M))
  (try refine zI F M ?_;clear F M a;try clear w);(repeat'(first|refine zV (h:=⟨_,by((first|(apply rt_min2;(exact rfl);(exact rfl);(exact hmin))|(apply rt_fromN;(exact rfl);(exact rfl);(exact rfl);(exact inferInstance);(try dsimp only);omega;(try dsimp only);omega)|(apply rt_from;(exact rfl);(exact rfl);(exact rfl);(exact inferInstance);omega)|(apply rt_to;(exact rfl);(exact rfl);(exact rfl);(exact inferInstance);omega))),?_⟩)|refine zA1 zk228 ?_;repeat intro(nb:Nat)|refine zC ?_;(first|refine ac_makeT (f:=rqL) inferInstance ((0,0)) rfl rfl inferInstance rfl (m:=m) rfl rfl (by omega) (by omega) ?_;intro nb|refine ac_copyT (f:=rqL) (j:=0) rfl rfl inferInstance inferInstance rfl rfl (gs_from (by(focus ((repeat (first|exact Pull.here|apply Pull.there));done))) hf) (flat_drop (f:=rqL) EL.len _ _) ed (by(focus ((repeat (first|exact Pull.here|apply Pull.there));done))) (by rw[List.length_replicate]) (by rw[List.length_replicate];dsimp only;omega) (by dsimp only;omega) ?_;rw[x1]|refine ac_copyT (f:=rqL) (j:=(z.S.drop z.f).length) rfl rfl inferInstance inferInstance rfl rfl (gs_to (by(focus ((repeat (first|exact Pull.here|apply Pull.there));done))) hf) (flat_take (f:=rqL) EL.len _ _) et (by(focus ((repeat (first|exact Pull.here|apply Pull.there));done))) (by rw[l1]) (by dsimp only;omega) (by dsimp only;omega) ?_;rw[x2])|refine zB ?_ ?_<;>intro hc<;>try exact no hc|refine zH ?_ ?_<;>(intro hg;rw[hg];try exact no hg)));all_goals try refine⟨fun a w F M=>?_⟩
  all_goals refine zE F M ?_
  refine⟨_,_,rfl,⟨⟨⟨some ⟨nb,0,none⟩,m,m⟩,X2,0⟩,⟨by dsimp only;omega,by dsimp only;omega,h3,.inl (by dsimp only;omega),fun i hi=>?_⟩,by dsimp only;omega,rfl,rfl⟩,M.perms permsA⟩
  rw[← hz.g i hi]
  dsimp only
  rw[l2,Nat.zero_add,Nat.mod_eq_of_lt (by omega),← hX2,List.getElem?_append_left (by simp;omega)]
  by_cases hi2:i<z.S.length - z.f
  ·rw[List.getElem?_append_left (by simp;omega),List.getElem?_drop,Nat.mod_eq_of_lt (by omega)]
  ·rw[List.getElem?_append_right (by simp;omega),List.getElem?_take_of_lt (by simp;omega),List.length_drop]
   congr 1
   rw[Nat.mod_eq_sub_mod (by omega),Nat.mod_eq_of_lt (by omega)];omega
theorem rgq_growA (b size:Nat) (q:List (Nat × Int)) (hq:q.length<size) (R:List Asn):Spec 228 [ptr b] (rgqA b size q::R) fun u L'=>∃ z',rgqOk size q z'∧q.length<z'.S.length∧u=.tuple #[]∧L'=rgqP b size q z'++R:=by
 intro G w M
 obtain ⟨z,hz,M⟩:=rgq_open (L:=R++G) M
 exact rgq_grow b size q z hz hq R G w (by simpa using M)
theorem rgq_push_ok {size:Nat} {x:Nat × Int} {q:List (Nat × Int)} {z:rgqH} (h:rgqOk size q z) (hl:q.length<z.S.length):rgqOk size (q++[x]) ⟨z.h,z.S.set ((z.f+q.length) % z.S.length) x,z.f⟩:=by
 have hf:z.f<z.S.length:=by rcases h.f with h|⟨_,h⟩;(· exact h);(exfalso;rw[h,List.length_nil] at hl;omega)
 have hm:=Nat.mod_lt (z.f+q.length) (show 0<z.S.length by omega)
 refine⟨by simp;omega,by simpa using h.s,h.p,.inl (by simpa using hf),fun i hi=>?_⟩
 simp only[List.length_set]
 by_cases hi2:i=q.length
 ·subst hi2
  rw[List.getElem?_set_self hm];simp
 ·simp at hi
  rw[List.getElem?_append_left (by omega),← h.g i (by omega),List.getElem?_set_ne]
  intro he
  by_cases c1:z.f+q.length<z.S.length
  ·rw[Nat.mod_eq_of_lt c1,Nat.mod_eq_of_lt (by omega)] at he;omega
  ·rw[Nat.mod_eq_sub_mod (by omega),Nat.mod_eq_of_lt (by omega)] at he
   by_cases c2:z.f+i<z.S.length
   ·rw[Nat.mod_eq_of_lt c2] at he;omega
   ·rw[Nat.mod_eq_sub_mod (by omega),Nat.mod_eq_of_lt (by omega)] at he;omega
theorem rgq_fl {size:Nat} {q:List (Nat × Int)} {z:rgqH} (h:rgqOk size q z) (hl:q.length<z.S.length):z.f<z.S.length∧z.S.length≤size∧0≤((z.f:Int)+(q.length:Int)) % (z.S.length:Int)∧((z.f:Int)+(q.length:Int)) % (z.S.length:Int)<(z.S.length:Int):=by
 have hf:z.f<z.S.length:=by rcases h.f with h|⟨_,h⟩;(· exact h);(exfalso;rw[h,List.length_nil] at hl;omega)
 exact⟨hf,h.s,Int.emod_nonneg _ (by omega),Int.emod_lt_of_pos _ (by omega)⟩
theorem rgq_push (b size:Nat) (q:List (Nat × Int)) (x:Nat × Int) (v:SlH) (R:List Asn) (hg:GS R 2 (sl v) 1 ([x].flatMap rqL)) (hv:v.n=1∧1≤v.c) (hq:q.length<size) (hs:size≤4096):Spec 156 [ptr b,sl v] (rgqA b size q::R) fun u L'=>u=.int .i64 1∧L'=rgqA b size (q++[x])::R:=by
 obtain ⟨hv1,hv2⟩:=hv
 intro G w M
 have hg1:GS (R++G) 2 (sl v) 1 ([x].flatMap rqL):=hg.imp fun w M=>M.drop_app
 have hg2:GS (R++G) 2 (sl ⟨v.a,1,v.c⟩) [x].length ([x].flatMap rqL):=fun w M=>by have:=(hg1 w M).to (j:=1) (by omega);rwa [List.take_of_length_le (by rw[flat_lenE (f:=rqL) inferInstance];simp)] at this
 have hmin:(if ((size:Int) - (q.length:Int))<((1:Nat):Int) then ((size:Int) - (q.length:Int)) else ((1:Nat):Int))=((1:Nat):Int):=by rw[if_neg];omega
 (refine zGe Tryz.func156 ?_;intro a F;(try simp only[zc,zn] at M))
 (try refine zI F M ?_;clear F M a;try clear w);(repeat'(first|refine zV (h:=⟨_,by((first|(apply rt_min2;(exact rfl);(exact rfl);(exact hmin))|(apply rt_to;(exact rfl);(exact rfl);(exact rfl);(exact inferInstance);omega))),?_⟩)|refine zA1 zk156 ?_;repeat intro(nb:Nat)|refine zC ?_;refine kp (k:=227) (rgq_free b size q _) ?_|refine zB ?_ ?_<;>intro hc<;>try exact no hc|refine zH ?_ ?_<;>(intro hg;rw[hg];try exact no hg)));all_goals try refine⟨fun a w F M=>?_⟩
 refine svLoop F M (0:Nat) (fun k=>[(17,.int .i64 k)]) (fun k=>[rgqA b size (q++[x].take k)]) (fun k=>k≤1) (fun k=>1 - k) [] (by simp) ?_ (hR:=by rw[List.take_zero,List.append_nil];(repeat (first|exact Pulls.nil|(apply Pulls.cons;(focus ((repeat (first|exact Pull.here|apply Pull.there));done))))))
 (rintro k q1 a w F M;(try simp only[zc,zn] at F M q1 ⊢))
 by_cases hk:k=0
 ·subst hk
  rw[List.take_zero,List.append_nil] at M
  have hx:[x][0]? = some x:=rfl
  (try refine zI F M ?_;clear F M a;try clear w);(repeat'(first|refine zV (h:=⟨_,by((first|(apply rt_min2;(exact rfl);(exact rfl);(exact hmin))|(apply rt_to;(exact rfl);(exact rfl);(exact rfl);(exact inferInstance);omega))),?_⟩)|refine zA1 zk156 ?_;repeat intro(nb:Nat)|refine zC ?_;((refine acK (k:=228) (rgq_growA b size q hq _) ?_);rintro u L' ⟨z,hz,hroom,rfl,rfl⟩);obtain ⟨hf,h2,hm0,hm1⟩:=rgq_fl hz hroom;simp only[zc,zn]|refine zB ?_ ?_<;>intro hc<;>try exact no hc|refine zH ?_ ?_<;>(intro hg;rw[hg];try exact no hg)));all_goals try refine⟨fun a w F M=>?_⟩
  have hmod:(((z.f:Int)+(q.length:Int)) % (z.S.length:Int)).toNat=(z.f+q.length) % z.S.length:=by
   rw[show(z.f:Int)+(q.length:Int)=((z.f+q.length:Nat):Int) by omega,← Int.natCast_emod,Int.toNat_natCast]
  have hok:=rgq_push_ok (x:=x) hz hroom
  rw[← hmod] at hok
  obtain ⟨j,hj⟩:∃ j,(((z.f:Int)+(q.length:Int)) % (z.S.length:Int)).toNat=j:=⟨_,rfl⟩
  rw[hj] at hok
  obtain ⟨u0,hu0⟩:∃ u0,z.S[j]? = some u0:=⟨z.S[j]'(by omega),by simp⟩
  rw[← hj] at hu0
  (try refine zI F M ?_;clear F M a;try clear w);(repeat'(first|refine zV (h:=⟨_,by((first|(apply rt_min2;(exact rfl);(exact rfl);(exact hmin))|(apply rt_to;(exact rfl);(exact rfl);(exact rfl);(exact inferInstance);omega))),?_⟩)|refine zA1 zk156 ?_;repeat intro(nb:Nat)|refine zC ?_;(first|refine ac_storeEA (f:=rqL) (v:=sl z.h) (k:=2) rfl rfl inferInstance x rfl hu0 inferInstance (by(focus ((repeat (first|exact Rep.here|apply Rep.there));done))) ?_;rw[hj]|refine ac_storeE (f:=rqL) (v:=sl z.h) (k:=2) (i:=0) (xs:=z.S) rfl rfl inferInstance rfl rfl hu0 inferInstance rfl x rfl (by(focus ((repeat (first|exact Rep.here|apply Rep.there));done))) ?_;rw[hj])|refine zB ?_ ?_<;>intro hc<;>try exact no hc|refine zH ?_ ?_<;>(intro hg;rw[hg];try exact no hg)));all_goals try refine⟨fun a w F M=>?_⟩
  have e:(q.length:Int)+1=(((q++[x]).length:Nat):Int):=by simp
  rw[e] at M
  have M:=rgq_close hok (M.perms (permsA:Perms _ (rgqP b size (q++[x]) ⟨z.h,z.S.set j x,z.f⟩++(R++G))))
  exact sv_again F M 1 kpA permsA (by omega) (by omega)
 ·obtain rfl:k=1:=by omega
  (try refine zI F M ?_;clear F M a;try clear w);(repeat'(first|refine zV (h:=⟨_,by((first|(apply rt_min2;(exact rfl);(exact rfl);(exact hmin))|(apply rt_to;(exact rfl);(exact rfl);(exact rfl);(exact inferInstance);omega))),?_⟩)|refine zA1 zk156 ?_;repeat intro(nb:Nat)|refine zC ?_;(first|refine ac_storeEA (f:=rqL) (v:=sl z.h) (k:=2) rfl rfl inferInstance x rfl hu0 inferInstance (by(focus ((repeat (first|exact Rep.here|apply Rep.there));done))) ?_;rw[hj]|refine ac_storeE (f:=rqL) (v:=sl z.h) (k:=2) (i:=0) (xs:=z.S) rfl rfl inferInstance rfl rfl hu0 inferInstance rfl x rfl (by(focus ((repeat (first|exact Rep.here|apply Rep.there));done))) ?_;rw[hj])|refine zB ?_ ?_<;>intro hc<;>try exact no hc|refine zH ?_ ?_<;>(intro hg;rw[hg];try exact no hg)));all_goals exact zXz
theorem rgq_pushF (b size:Nat) (q:List (Nat × Int)) (x:Nat × Int) (v:SlH) (R:List Asn) (hg:GS R 2 (sl v) 1 ([x].flatMap rqL)) (hv:v.n=1∧1≤v.c) (hq:q.length=size) (hs:size≤4096):Spec 156 [ptr b,sl v] (rgqA b size q::R) fun u L'=>u=.int .i64 0∧L'=rgqA b size q::R:=by
 obtain ⟨hv1,hv2⟩:=hv
 intro G w M
 have hg1:GS (R++G) 2 (sl v) 1 ([x].flatMap rqL):=hg.imp fun w M=>M.drop_app
 have hg2:GS (R++G) 2 (sl ⟨v.a,0,v.c⟩) ([]:List (Nat × Int)).length (([]:List (Nat × Int)).flatMap rqL):=fun w M=>by have:=(hg1 w M).to (j:=0) (by omega);simpa using this
 have hmin:(if ((size:Int) - (q.length:Int))<((1:Nat):Int) then ((size:Int) - (q.length:Int)) else ((1:Nat):Int))=((0:Nat):Int):=by rw[if_pos]<;>omega
 (refine zGe Tryz.func156 ?_;intro a F;(try simp only[zc,zn] at M))
 (try refine zI F M ?_;clear F M a;try clear w);(repeat'(first|refine zV (h:=⟨_,by((first|(apply rt_min2;(exact rfl);(exact rfl);(exact hmin))|(apply rt_to;(exact rfl);(exact rfl);(exact rfl);(exact inferInstance);omega))),?_⟩)|refine zA1 zk156 ?_;repeat intro(nb:Nat)|refine zC ?_;refine kp (k:=227) (rgq_free b size q _) ?_|refine zB ?_ ?_<;>intro hc<;>try exact no hc|refine zH ?_ ?_<;>(intro hg;rw[hg];try exact no hg)));all_goals try refine⟨fun a w F M=>?_⟩
 refine svLoop F M (0:Nat) (fun k=>[(17,.int .i64 k)]) (fun _=>[]) (fun k=>k=0) (fun k=>1 - k) [] rfl ?_
 (rintro k q1 a w F M;(try simp only[zc,zn] at F M q1 ⊢))
 subst q1
 (try refine zI F M ?_;clear F M a;try clear w);(repeat'(first|refine zV (h:=⟨_,by((first|(apply rt_min2;(exact rfl);(exact rfl);(exact hmin))|(apply rt_to;(exact rfl);(exact rfl);(exact rfl);(exact inferInstance);omega))),?_⟩)|refine zA1 zk156 ?_;repeat intro(nb:Nat)|refine zB ?_ ?_<;>intro hc<;>try exact no hc|refine zH ?_ ?_<;>(intro hg;rw[hg];try exact no hg)));all_goals exact zXz
end
section
open Go.RowKit
structure CfOk (c:Cfg):Prop where
 ca:1≤c.capacity∧c.capacity≤4096
 qs:1≤c.queueSize∧c.queueSize≤4096
 md:1≤c.minDeposit∧c.minDeposit≤c.maxDeposit
 sc:c.maxDeposit≤c.supplyCap∧c.supplyCap≤1152921504606846976
 mb:1≤c.minBalance∧c.minBalance≤c.minDeposit
 xb:c.maxDeposit≤c.maxBalance∧c.maxBalance≤c.supplyCap
 mc:1≤c.minChurn∧c.minChurn≤1152921504606846976
 qu:1≤c.quotient
 fc:0≤c.forcedCap∧c.forcedCap≤1152921504606846976
 un:1≤c.unbonding∧c.unbonding≤1048576
 sd:c.unbonding<c.slashDelay∧c.slashDelay≤1048576
 rl:1≤c.ringLen∧c.ringLen≤4096
 el:1≤c.epochLen∧c.epochLen≤4096
 vi:1≤c.visits∧c.visits≤4096
 py:1≤c.payments∧c.payments≤4096
 pa:0≤c.partials∧c.partials<c.visits∧c.partials<c.payments
 me:0≤c.merges∧c.merges≤4096
 pn:0≤c.penNum∧c.penNum≤c.penDen
 pd:1≤c.penDen∧c.penDen≤4294967296
theorem cfOk_of {c:Cfg} (h:checkF c=0) (h1:0≤c.forcedCap) (h2:0≤c.penNum):CfOk c:=by
 have k:=checkF_zero h
 have k1:=k 1 (by omega) (by omega)
 have k2:=k 2 (by omega) (by omega)
 have k3:=k 3 (by omega) (by omega)
 have k4:=k 4 (by omega) (by omega)
 have k5:=k 5 (by omega) (by omega)
 have k6:=k 6 (by omega) (by omega)
 have k7:=k 7 (by omega) (by omega)
 have k8:=k 8 (by omega) (by omega)
 have k9:=k 9 (by omega) (by omega)
 have k10:=k 10 (by omega) (by omega)
 have k11:=k 11 (by omega) (by omega)
 have k12:=k 12 (by omega) (by omega)
 have k13:=k 13 (by omega) (by omega)
 have k14:=k 14 (by omega) (by omega)
 have k15:=k 15 (by omega) (by omega)
 have k16:=k 16 (by omega) (by omega)
 have k17:=k 17 (by omega) (by omega)
 have k18:=k 18 (by omega) (by omega)
 have k19:=k 19 (by omega) (by omega)
 have k20:=k 20 (by omega) (by omega)
 simp[fieldB,bt] at k1 k2 k3 k4 k5 k6 k7 k8 k9 k10 k11 k12 k13 k14 k15 k16 k17 k18 k19 k20
 constructor<;>omega
structure VOk (c:Cfg) (e:Int) (v:Val):Prop where
 b:0≤v.bal
 st:1≤v.st∧v.st≤7
 fin:v.st=6∨v.st=7→v.bal=0
 mb:v.st=1∨v.st=2→c.minBalance≤v.bal
 ex:v.ex = -1∨0≤v.ex∧v.ex≤e+1∧3≤v.st∧v.st≤6∧v.rq<v.ex∧v.ex+c.unbonding≤v.wd
 e3:v.st=3→v.ex = -1∨v.ex=e+1
 e4:v.st=4∨v.st=5∨v.st=6→0≤v.ex∧v.ex≤e
 w4:v.st=4→e<v.wd
 w5:v.st=5→v.wd≤e
 rq:-1≤v.rq∧v.rq≤e
 wd:-1≤v.wd∧v.wd≤e+2097152
 w1:v.st≤2∨v.st=7→v.wd = -1∧v.ex = -1∧v.rq = -1∧v.dl = -1
 sl:v.sl=true→3≤v.st∧v.st≤6∧v.dl = -1
 dl:-1≤v.dl∧v.dl≤1099511627776
def pend' (v:Val):Prop:=v.st=1
def wait' (v:Val):Prop:=v.st=3∧v.ex = -1
def leave' (v:Val):Prop:=v.st=3∧v.ex≠-1
def bond' (v:Val):Prop:=v.st=4∨v.st=3∧v.ex≠-1
structure Ix (V:List Val) (p:Val→Prop) (l:List Nat):Prop where
 nd:l.Nodup
 mem:∀ i,i∈l↔∃ v,V[i]? = some v∧p v
structure Inv (c:Cfg) (s:St):Prop where
 cap:(s.V.length:Int)≤c.capacity
 val:∀ (i:Nat) v,s.V[i]? = some v→VOk c (epo c s) v
 sum:(bals s.V).sum=s.dep - s.pd - s.bu
 sup:(bals s.V).sum≤c.supplyCap
 tot:0≤s.pd∧0≤s.bu∧s.dep≤18446744073709551615
 pe:Ix s.V pend' s.pe
 ex:Ix s.V wait' (s.fo++s.vo)
 lv:Ix s.V leave' s.lv
 bo:Ix s.V bond' (s.bo.map (·.2))
 bw:∀ x∈s.bo,epo c s<x.1∧∀ v,s.V[x.2]? = some v→x.1≤v.wd
 ql:(s.pe.length:Int)≤c.queueSize∧(s.fo.length:Int)≤c.queueSize∧(s.vo.length:Int)≤c.queueSize∧(s.me.length:Int)≤c.queueSize∧(s.pa.length:Int)≤c.queueSize
 me:∀ p∈s.me,p.1<s.V.length∧p.2<s.V.length∧p.1≠p.2
 pa:∀ p∈s.pa,p.1<s.V.length∧1≤p.2∧p.2≤18446744073709551615
 at':s.at'<s.V.length∨s.at'=0
 ca:0≤s.ca∧s.ca≤18446744073709551615
 bk:s.bk≤1000000000
theorem epo_range {c:Cfg} (hc:CfOk c) {s:St} (hb:s.bk≤1000000001):0≤epo c s∧epo c s≤1000000001:=by
 have:=hc.el
 have h1:(s.bk:Int) / c.epochLen≤s.bk:=by
  have:=Int.ediv_le_self (a:=(s.bk:Int)) c.epochLen (by omega)
  omega
 exact⟨Int.ediv_nonneg (by omega) (by omega),by unfold epo;omega⟩
theorem Inv.ini {c:Cfg} (hc:CfOk c):Inv c St.ini:=by
 have:=hc.ca;have:=hc.qs;have:=hc.sc;have:=hc.md
 refine⟨by simp[St.ini];omega,by simp[St.ini],by simp[St.ini,bals],by simp[St.ini,bals];omega,by simp[St.ini],⟨by simp[St.ini],by simp[St.ini]⟩,⟨by simp[St.ini],by simp[St.ini]⟩,⟨by simp[St.ini],by simp[St.ini]⟩,⟨by simp[St.ini],by simp[St.ini]⟩,by simp[St.ini],by simp[St.ini];omega,by simp[St.ini],by simp[St.ini],by simp[St.ini],by simp[St.ini],by simp[St.ini]⟩
theorem Inv.bal0 {c:Cfg} {s:St} (h:Inv c s):∀ x∈bals s.V,0≤x:=fun x hx=>by
 obtain ⟨v,hv,rfl⟩:=List.mem_map.1 hx
 obtain ⟨i,hi,he⟩:=List.getElem_of_mem hv
 exact(h.val i v (by rw[List.getElem?_eq_getElem hi,he])).b
theorem Ix.set_same {V:List Val} {p:Val→Prop} {l:List Nat} (h:Ix V p l) {i:Nat} {v v':Val} (hv:V[i]? = some v) (hp:p v'↔p v):Ix (V.set i v') p l:=by
 obtain ⟨hl,he⟩:=List.getElem?_eq_some_iff.1 hv
 refine⟨h.nd,fun j=>?_⟩
 rw[h.mem,List.getElem?_set]
 by_cases hij:i=j
 ·subst hij
  rw[if_pos rfl,if_pos hl,hv]
  constructor
  ·rintro⟨u,hu,hpu⟩
   cases hu;exact⟨_,rfl,hp.2 hpu⟩
  ·rintro⟨u,hu,hpu⟩
   cases hu;exact⟨_,rfl,hp.1 hpu⟩
 ·simp[hij]
theorem Ix.set_add {V:List Val} {p:Val→Prop} {l l':List Nat} (h:Ix V p l) {i:Nat} {v v':Val} (hv:V[i]? = some v) (hp:¬p v) (hp':p v') (hl:l'.Perm (i::l)):Ix (V.set i v') p l':=by
 obtain ⟨hlt,he⟩:=List.getElem?_eq_some_iff.1 hv
 have hi:i∉l:=fun hm=>by
  obtain ⟨u,hu,hpu⟩:=(h.mem i).1 hm
  rw[hv] at hu;cases hu;exact hp hpu
 refine⟨hl.nodup_iff.2 (List.nodup_cons.2 ⟨hi,h.nd⟩),fun j=>?_⟩
 rw[hl.mem_iff,List.mem_cons,h.mem,List.getElem?_set]
 by_cases hij:i=j
 ·subst hij;simp[hlt,hp']
 ·simp[hij,Ne.symm hij]
theorem Ix.app_same {V:List Val} {p:Val→Prop} {l:List Nat} (h:Ix V p l) {v:Val} (hp:¬p v):Ix (V++[v]) p l:=by
 refine⟨h.nd,fun j=>?_⟩
 rw[h.mem]
 constructor
 ·rintro⟨u,hu,hpu⟩
  have:=(List.getElem?_eq_some_iff.1 hu).1
  exact⟨u,by rw[List.getElem?_append_left this];exact hu,hpu⟩
 ·rintro⟨u,hu,hpu⟩
  by_cases hj:j<V.length
  ·exact⟨u,by rw[List.getElem?_append_left hj] at hu;exact hu,hpu⟩
  ·rw[List.getElem?_append_right (by omega)] at hu
   have:u=v:=by
    cases hk:j - V.length with
    | zero=>rw[hk] at hu;simpa using hu.symm
    | succ n=>rw[hk] at hu;simp at hu
   subst this;exact absurd hpu hp
theorem Ix.app_add {V:List Val} {p:Val→Prop} {l:List Nat} (h:Ix V p l) {v:Val} (hp:p v):Ix (V++[v]) p (l++[V.length]):=by
 have hV:∀ j∈l,j<V.length:=fun j hj=>by
  obtain ⟨u,hu,_⟩:=(h.mem j).1 hj
  exact(List.getElem?_eq_some_iff.1 hu).1
 refine⟨?_,fun j=>?_⟩
 ·rw[List.nodup_append]
  refine⟨h.nd,by simp,fun a ha b hb=>?_⟩
  have:=hV a ha
  simp at hb;omega
 ·rw[List.mem_append,h.mem,List.mem_singleton]
  constructor
  ·rintro(⟨u,hu,hpu⟩|rfl)
   ·have:=(List.getElem?_eq_some_iff.1 hu).1
    exact⟨u,by rw[List.getElem?_append_left this];exact hu,hpu⟩
   ·exact⟨v,by simp,hp⟩
  ·rintro⟨u,hu,hpu⟩
   by_cases hj:j<V.length
   ·exact .inl ⟨u,by rw[List.getElem?_append_left hj] at hu;exact hu,hpu⟩
   ·have:=(List.getElem?_eq_some_iff.1 hu).1
    simp at this
    exact .inr (by omega)
theorem Ix.len {V:List Val} {p:Val→Prop} {l:List Nat} (h:Ix V p l):l.length≤V.length:=by
 have hs:l ⊆ List.range V.length:=fun j hj=>by
  obtain ⟨u,hu,_⟩:=(h.mem j).1 hj
  exact List.mem_range.2 (List.getElem?_eq_some_iff.1 hu).1
 have:=h.nd.length_le_of_subset hs
 simpa using this
theorem getE_app {V:List Val} {v u:Val} {j:Nat} (h:(V++[v])[j]? = some u):V[j]? = some u∨j=V.length∧u=v:=by
 by_cases hj:j<V.length
 ·rw[List.getElem?_append_left hj] at h;exact .inl h
 ·have:=(List.getElem?_eq_some_iff.1 h).1
  simp at this
  obtain rfl:j=V.length:=by omega
  simp at h;exact .inr ⟨rfl,h.symm⟩
theorem getE_set {V:List Val} {v u:Val} {i j:Nat} (h:(V.set i v)[j]? = some u):(i=j∧u=v)∨(i≠j∧V[j]? = some u):=by
 rw[List.getElem?_set] at h
 by_cases hij:i=j
 ·rw[if_pos hij] at h
  split at h
  ·exact .inl ⟨hij,(Option.some.inj h).symm⟩
  ·cases h
 ·rw[if_neg hij] at h;exact .inr ⟨hij,h⟩
end
section
open Go.RowKit
abbrev cuC (b:Nat) (at':Nat):Asn:=pt b [.int .i64 (at':Int)] 193
theorem cu_new (R:List Asn):Spec 57 [] R fun u L'=>∃ b,u=ptr b∧L'=cuC b 0::R:=by
 refine zGz Tryz.func57 ?_;intro G;(repeat'(first|refine zA zk57 ?_;repeat intro nb|refine zB ?_ ?_<;>intro hc<;>try exact no hc|refine zH ?_ ?_<;>(intro hg;rw[hg];try exact no hg)));all_goals try refine⟨fun a w F M=>?_⟩
 (all_goals(refine zE F M ?_;exact⟨_,_,rfl,⟨nb,rfl,rfl⟩,M.perms permsA⟩))
theorem cu_at (b at':Nat) (R:List Asn):Spec 84 [ptr b] (cuC b at'::R) fun u L'=>u=.int .i64 at'∧L'=cuC b at'::R:=by
 refine zGz Tryz.func84 ?_;intro G;(repeat'(first|refine zA zk84 ?_;repeat intro nb|refine zB ?_ ?_<;>intro hc<;>try exact no hc|refine zH ?_ ?_<;>(intro hg;rw[hg];try exact no hg)));all_goals exact zXz
theorem ln_new (size:Nat) (h:1≤size∧size≤4096) (R:List Asn):Spec 59 [.int .i64 size] R fun u L'=>∃ b r0 r1,u=ptr b∧L'=lnP b r0 r1 size [] [] R:=by
 obtain ⟨h1,h2⟩:=h
 refine zGz Tryz.func59 ?_;intro G;(repeat'(first|refine zA zk59 ?_;repeat intro nb|refine zB ?_ ?_<;>intro hc<;>try exact no hc|refine zH ?_ ?_<;>(intro hg;rw[hg];try exact no hg)));all_goals try refine⟨fun a w F M=>?_⟩
 have e1:¬((1:Nat)≤0):=by omega
 have e2:¬((2:Nat)≤0):=by omega
 have e3:¬((2:Nat)≤1):=by omega
 have e4:(1:Nat)≤2:=by omega
 refine svLoop F M ((0,0,0):Nat × Nat × Nat) (fun z=>[(13,.int .i64 z.1)]) (fun z=>pt nb [if 1≤z.1 then ptr z.2.1 else .pointer none,if 2≤z.1 then ptr z.2.2 else .pointer none] 204::((if 1≤z.1 then [rgnA z.2.1 size []] else [])++(if 2≤z.1 then [rgnA z.2.2 size []] else []))) (fun z=>z.1≤2) (fun z=>2 - z.1) [] (by simp) ?_ (hR:=by simp only[e1,e2,if_false,List.append_nil];(repeat (first|exact Pulls.nil|(apply Pulls.cons;(focus ((repeat (first|exact Pull.here|apply Pull.there));done))))))
 (rintro⟨k,r0,r1⟩ q1 a w F M;(try simp only[zc,zn] at F M q1 ⊢))
 try dsimp only at q1
 rcases (by omega:k=0∨k=1∨k=2) with rfl|rfl|rfl
 ·simp only[e1,e2,if_false,List.append_nil,zn,zc] at M
  (try refine zI F M ?_;clear F M a;try clear w);(repeat'(first|refine zA zk59 ?_;repeat intro nb|refine zC ?_;refine acW (k:=60) (rgn_new size ⟨h1,h2⟩ _) ?_;rintro u L' ⟨r,rfl,rfl⟩|refine zB ?_ ?_<;>intro hc<;>try exact no hc|refine zH ?_ ?_<;>(intro hg;rw[hg];try exact no hg)));all_goals try refine⟨fun a w F M=>?_⟩
  exact sv_again F M (1,r,0) kpA (by simp only[Nat.le_refl,e3,if_true,if_false,zc,List.append_nil,zn];exact permsA) (by dsimp only;omega) (by dsimp only;omega)
 ·simp only[Nat.le_refl,e3,if_true,if_false,List.append_nil,zn,zc] at M
  (try refine zI F M ?_;clear F M a;try clear w);(repeat'(first|refine zA zk59 ?_;repeat intro nb|refine zC ?_;refine acW (k:=60) (rgn_new size ⟨h1,h2⟩ _) ?_;rintro u L' ⟨r,rfl,rfl⟩|refine zB ?_ ?_<;>intro hc<;>try exact no hc|refine zH ?_ ?_<;>(intro hg;rw[hg];try exact no hg)));all_goals try refine⟨fun a w F M=>?_⟩
  exact sv_again F M (2,r0,r) kpA (by simp only[Nat.le_refl,e4,if_true,if_false,zc,List.append_nil,zn];exact permsA) (by dsimp only;omega) (by dsimp only;omega)
 ·simp only[Nat.le_refl,e4,if_true,List.append_nil,zn,zc] at M
  (try refine zI F M ?_;clear F M a;try clear w);(repeat'(first|refine zA zk59 ?_;repeat intro nb|refine zB ?_ ?_<;>intro hc<;>try exact no hc|refine zH ?_ ?_<;>(intro hg;rw[hg];try exact no hg)));all_goals try refine⟨fun a w F M=>?_⟩
  (all_goals(refine zE F M ?_;exact⟨_,_,rfl,⟨nb,r0,r1,rfl,rfl⟩,M.perms permsA⟩))
structure EH where
 rg:Nat
 ck:Nat
 ld:Nat
 bo:Nat
 lv:SlH
 cu:Nat
 mt:Nat
 ln:Nat
 r0:Nat
 r1:Nat
 pe:Nat
 me:Nat
 pa:Nat
def engC (H:EH) (c:Cfg):List Value:=[ptr H.rg,.int .i64 c.capacity,.int .i64 c.queueSize,.int .u64 c.minDeposit,.int .u64 c.maxDeposit,.int .u64 c.supplyCap,.int .u64 c.minBalance,.int .u64 c.maxBalance,.int .u64 c.minChurn,.int .u64 c.quotient,.int .u64 c.forcedCap,
 .int .i64 c.unbonding,.int .i64 c.slashDelay,.int .i64 c.ringLen,.int .i64 c.epochLen,.int .i64 c.visits,.int .i64 c.payments,.int .i64 c.partials,.int .i64 c.merges,.int .u64 c.penNum,.int .u64 c.penDen,
 ptr H.ck,ptr H.ld,ptr H.bo,sl H.lv,ptr H.cu,ptr H.mt,ptr H.ln,ptr H.pe,ptr H.me,ptr H.pa]
abbrev qS (c:Cfg):Nat:=c.queueSize.toNat
abbrev engL (b:Nat) (H:EH) (c:Cfg) (s:St) (R:List Asn):List Asn :=
 pt b (engC H c) 132::regA H.rg c.capacity s.V::ckC H.ck s.bk c.epochLen::ldC H.ld s.dep s.pd s.bu c.supplyCap::bkA H.bo c.ringLen.toNat s.bo::ownT 3 natL 1 (sl H.lv) s.lv::cuC H.cu s.at'::mtA H.mt s.ca ::
 lnC H.ln H.r0 H.r1::rgnA H.r0 (qS c) s.fo::rgnA H.r1 (qS c) s.vo::rgnA H.pe (qS c) s.pe::rgpA H.me (qS c) s.me::rgqA H.pa (qS c) s.pa::R
theorem eng_new (c:Cfg) (hc:CfOk c) (hk:checkF c=0) (R:List Asn):Spec 28 [cfgV c] R fun u L'=>∃ b H,u=.tuple [ptr b,.int .i64 0].toArray∧L'=engL b H c St.ini R:=by
 have q1:=hc.qs
 have q2:=hc.rl
 obtain ⟨qs,hqs⟩:∃ qs:Nat,c.queueSize=qs:=⟨c.queueSize.toNat,by omega⟩
 obtain ⟨rl,hrl⟩:∃ rl:Nat,c.ringLen=rl:=⟨c.ringLen.toNat,by omega⟩
 have hq:qS c=qs:=by simp only[qS,hqs,Int.toNat_natCast]
 have hr:c.ringLen.toNat=rl:=by rw[hrl,Int.toNat_natCast]
 have n1:∀ R,Spec 60 [.int .i64 c.queueSize] R fun u L'=>∃ b,u=ptr b∧L'=rgnA b (qS c) []::R:=fun R=>by rw[hq,hqs];exact rgn_new qs (by omega) R
 have n2:∀ R,Spec 61 [.int .i64 c.queueSize] R fun u L'=>∃ b,u=ptr b∧L'=rgpA b (qS c) []::R:=fun R=>by rw[hq,hqs];exact rgp_new qs (by omega) R
 have n3:∀ R,Spec 62 [.int .i64 c.queueSize] R fun u L'=>∃ b,u=ptr b∧L'=rgqA b (qS c) []::R:=fun R=>by rw[hq,hqs];exact rgq_new qs (by omega) R
 have n4:∀ R,Spec 59 [.int .i64 c.queueSize] R fun u L'=>∃ b r0 r1,u=ptr b∧L'=lnP b r0 r1 (qS c) [] [] R:=fun R=>by rw[hq,hqs];exact ln_new qs (by omega) R
 have n5:∀ R,Spec 56 [.int .i64 c.ringLen] R fun u L'=>∃ b,u=ptr b∧L'=bkA b c.ringLen.toNat []::R:=fun R=>by rw[hr,hrl];exact bk_new rl R (by omega)
 have hv:=fun R=>valid_spec c R
 rw[hk] at hv
 refine zGz Tryz.func28 ?_;intro G;(repeat'(first|refine zA zk28 ?_;repeat intro nb|refine zC ?_;(first|refine kpW (k:=52) (hv _) ?_|refine acW (k:=53) (reg_new c.capacity _ hc.ca) ?_;rintro u L' ⟨rg,rfl,rfl⟩|refine acW (k:=54) (clk_new c.epochLen hc.el _) ?_;rintro u L' ⟨ck,rfl,rfl⟩|refine acW (k:=55) (led_new c.supplyCap _) ?_;rintro u L' ⟨ld,rfl,rfl⟩|refine acW (k:=56) (n5 _) ?_;rintro u L' ⟨bo,rfl,rfl⟩|refine acW (k:=57) (cu_new _) ?_;rintro u L' ⟨cu,rfl,rfl⟩|refine acW (k:=58) (mt_new _) ?_;rintro u L' ⟨mt,rfl,rfl⟩|refine acW (k:=59) (n4 _) ?_;rintro u L' ⟨ln,r0,r1,rfl,rfl⟩|refine acW (k:=60) (n1 _) ?_;rintro u L' ⟨pe,rfl,rfl⟩|refine acW (k:=61) (n2 _) ?_;rintro u L' ⟨me,rfl,rfl⟩|refine acW (k:=62) (n3 _) ?_;rintro u L' ⟨pa,rfl,rfl⟩)|refine zB ?_ ?_<;>intro hc<;>try exact no hc|refine zH ?_ ?_<;>(intro hg;rw[hg];try exact no hg)));all_goals try refine⟨fun a w F M=>?_⟩
 all_goals refine zE F M ?_
 replace M:=M.own_nil 3 1
 exact⟨_,_,rfl,⟨nb,⟨rg,ck,ld,bo,nilH,cu,mt,ln,r0,r1,pe,me,pa⟩,rfl,rfl⟩,M.perms permsA⟩
theorem eng_newN (c:Cfg) (hk:checkF c≠0) (R:List Asn):Spec 28 [cfgV c] R fun u L'=>u=.tuple [.pointer none,.int .i64 2].toArray∧L'=R:=by
 have hv:=fun R=>valid_spec c R
 have hf:decide (checkF c=0)=false:=by simpa using hk
 rw[hf] at hv
 refine zGz Tryz.func28 ?_;intro G;(repeat'(first|refine zA zk28 ?_;repeat intro nb|refine zC ?_;refine kpW (k:=52) (hv _) ?_|refine zB ?_ ?_<;>intro hc<;>try exact no hc|refine zH ?_ ?_<;>(intro hg;rw[hg];try exact no hg)));all_goals exact zXz
end
section
open Go.RowKit
structure Sn where
 bk:Int
 ep:Int
 dep:Int
 pd:Int
 bu:Int
 ac:Int
 at':Int
 ca:Int
 un:Int
 hV:SlH
 hP:SlH
 hF:SlH
 hO:SlH
 hM:SlH
 hQ:SlH
def snL (x:Sn):List Value:=[.int .i64 x.bk,.int .i64 x.ep,sl x.hV,.int .u64 x.dep,.int .u64 x.pd,.int .u64 x.bu,.int .u64 x.ac,sl x.hP,sl x.hF,sl x.hO,sl x.hM,sl x.hQ,.int .i64 x.at',.int .u64 x.ca,.int .i64 x.un]
abbrev snV (x:Sn):Value:=.agg (snL x).toArray
def snOf (c:Cfg) (s:St) (hV hP hF hO hM hQ:SlH):Sn:=⟨s.bk,epo c s,s.dep,s.pd,s.bu,actv s.V,s.at',s.ca,s.bo.length,hV,hP,hF,hO,hM,hQ⟩
theorem actv_le:∀ (V:List Val),(∀ x∈bals V,0≤x)→0≤actv V∧actv V≤(bals V).sum
 | [],_=>by simp[actv,bals]
 | v::V,h=>by
  have h1:∀ x∈bals V,0≤x:=fun x hx=>h x (List.mem_cons_of_mem _ hx)
  have:=actv_le V h1
  have h0:0≤v.bal:=h v.bal (List.mem_cons_self ..)
  have e1:(bals (v::V)).sum=v.bal+(bals V).sum:=rfl
  have e2:actv (v::V)=if v.live=true then v.bal+actv V else actv V:=by
   unfold actv bals;rw[List.filter_cons];split<;>rfl
  rw[e1,e2];split<;>omega
theorem snap_spec (b:Nat) (H:EH) (c:Cfg) (s:St) (hc:CfOk c) (hi:Inv c s) (R:List Asn):Spec 33 [ptr b] (engL b H c s R) fun u L'=>∃ hV hP hF hO hM hQ,u=snV (snOf c s hV hP hF hO hM hQ)∧L'=ownT 48 valL 7 (sl hV) s.V::ownT 3 natL 1 (sl hP) s.pe::ownT 3 natL 1 (sl hF) s.fo::ownT 3 natL 1 (sl hO) s.vo::ownT 89 prL 2 (sl hM) s.me::ownT 91 rqL 2 (sl hQ) s.pa::engL b H c s R:=by
 have hcap:=hi.cap
 have hca:=hc.ca
 have hqs:=hc.qs
 obtain ⟨l1,l2,l3,l4,l5⟩:=hi.ql
 have hac:=actv_le s.V hi.bal0
 have hsup:=hi.sup
 have hsc:=hc.sc
 have hbk:=hi.bk
 refine zGz Tryz.func33 ?_;intro G;(repeat'(first|refine zA zk33 ?_;repeat intro nb|refine zC ?_;(first|refine kp (k:=77) (led_totals H.ld s.dep s.pd s.bu c.supplyCap _) ?_|refine kp (k:=73) (clk_block H.ck s.bk c.epochLen _) ?_|refine kp (k:=74) (clk_epoch H.ck s.bk c.epochLen hc.el (by omega) _) ?_|refine acK (k:=78) (reg_all H.rg c.capacity s.V (by omega) _) ?_;rintro u L' ⟨hV,rfl,rfl⟩|refine kp (k:=79) (reg_active H.rg c.capacity s.V _ ⟨by omega,by omega⟩) ?_|refine acK (k:=80) (rgn_all H.pe (qS c) s.pe (by omega) _) ?_;rintro u L' ⟨hP,rfl,rfl⟩|refine acK (k:=81) (lall0 H.ln H.r0 H.r1 (qS c) s.fo s.vo _ (by omega)) ?_;rintro u L' ⟨hF,rfl,rfl⟩|refine acK (k:=81) (lall1 H.ln H.r0 H.r1 (qS c) s.fo s.vo _ (by omega)) ?_;rintro u L' ⟨hO,rfl,rfl⟩|refine acK (k:=82) (rgp_all H.me (qS c) s.me (by omega) _) ?_;rintro u L' ⟨hM,rfl,rfl⟩|refine acK (k:=83) (rgq_all H.pa (qS c) s.pa (by omega) _) ?_;rintro u L' ⟨hQ,rfl,rfl⟩|refine kp (k:=84) (cu_at H.cu s.at' _) ?_|refine kp (k:=85) (mt_bal H.mt s.ca _ hi.ca) ?_|refine kp (k:=86) (bk_len H.bo c.ringLen.toNat s.bo _) ?_)|refine zB ?_ ?_<;>intro hc<;>try exact no hc|refine zH ?_ ?_<;>(intro hg;rw[hg];try exact no hg)));all_goals try refine⟨fun a w F M=>?_⟩
 all_goals refine zE F M ?_
 all_goals exact⟨_,_,rfl,⟨hV,hP,hF,hO,hM,hQ,rfl,rfl⟩,M.perms permsA⟩
end
section
open Go.RowKit
theorem satGo_sum:∀ (l:List Int) (n:Int),n≤18446744073709551615→(∀ z∈l,0≤z)→satGo n l=if 18446744073709551615<n+l.sum then (18446744073709551615,true) else (n+l.sum,false)
 | [],n,h,_=>by rw[satGo,List.sum_nil,Int.add_zero,if_neg (by omega)]
 | x::r,n,h,hl=>by
  have hs:=sum_nonneg r fun z hz=>hl z (by simp[hz])
  rw[satGo,List.sum_cons]
  by_cases h1:18446744073709551615<n+x
  ·rw[if_pos h1,if_pos (by omega)]
  ·rw[if_neg h1,satGo_sum r _ (by omega) (fun z hz=>hl z (by simp[hz])),Int.add_assoc]
theorem addR_sum (l:List Int) (h:∀ z∈l,0≤z):addR l=if 18446744073709551615<l.sum then (0,false) else (l.sum,true):=by
 rw[addR,satGo_sum l 0 (by omega) h,Int.zero_add]
 split<;>simp
section
variable (R:List Asn)
theorem pnPay_spec (v:Val) (hv:v.wf) (ep:Int):Spec 205 [valV v,.int .i64 ep] R fun u L'=>u=.tuple [valV (payR v ep).2.1,.int .u64 (if (payR v ep).1=0 then v.bal else 0),.int .i64 (payR v ep).1].toArray∧L'=R:=Spec.of_below (fun w=>pay_any v hv ep w) ⟨rfl,rfl⟩
theorem pnAcc_spec (v:Val) (hv:v.wf) (ep:Int) (hep:(Lit.int .i64 ep).wf=true):Spec 210 [valV v,.int .i64 ep] R fun u L'=>u=.tuple [valV (accR v ep).2.1,.int .i64 (accR v ep).1].toArray∧L'=R:=Spec.of_below (fun w=>accept_any v hv ep hep w) ⟨rfl,rfl⟩
theorem pnAsg_spec (v:Val) (hv:v.wf) (xt:Int) (hxt:(Lit.int .i64 xt).wf=true) (c:Cfg) (hdy:(Lit.int .i64 c.unbonding).wf=true):Spec 274 [valV v,.int .i64 xt,cfgV c] R fun u L'=>u=.tuple [valV (asgR v xt c.unbonding).2.1,.int .i64 (asgR v xt c.unbonding).1].toArray∧L'=R:=Spec.of_below (fun w=>assign_any v hv xt hxt c hdy w) ⟨rfl,rfl⟩
theorem pnSla_spec (v:Val) (hv:v.wf) (ep:Int) (hep:(Lit.int .i64 ep).wf=true) (c:Cfg) (hdy:(Lit.int .i64 c.slashDelay).wf=true) (hn0:0≤c.penNum) (hn:c.penNum≤18446744073709551615) (hd0:0≤c.penDen) (hd:c.penDen≤18446744073709551615):Spec 147 [valV v,.int .i64 ep,cfgV c] R fun u L'=>u=.tuple [valV (slaR v ep c.slashDelay c.penNum c.penDen).2.1,.int .u64 (slaR v ep c.slashDelay c.penNum c.penDen).2.2,.int .i64 (slaR v ep c.slashDelay c.penNum c.penDen).1].toArray∧L'=R:=Spec.of_below (fun w=>slash_any v hv ep hep c hdy hn0 hn hd0 hd w) ⟨rfl,rfl⟩
theorem next_spec (s e:Int) (hs:(Lit.int .i64 s).wf=true) (he:(Lit.int .i64 e).wf=true):Spec 271 [.int .i64 s,.int .i64 e] R fun u L'=>u=.tuple [.int .i64 (nextF s e),.bool (nextF s e != 0)].toArray∧L'=R:=Spec.of_below (fun w=>next_status s e hs he w) ⟨rfl,rfl⟩
theorem ceilD_one {a d:Int} (h:1≤a) (hd:1≤d):(a - 1) / d+1=ceilD a d:=by
 unfold ceilD
 rw[show a+d - 1=(a - 1)+1*d by omega,Int.add_mul_ediv_right _ _ (by omega)]
theorem ceilD_range {a d:Int} (h:0≤a) (hd:1≤d):0≤ceilD a d∧ceilD a d≤a:=by
 by_cases h1:a=0
 ·subst h1
  unfold ceilD
  rw[Int.ediv_eq_zero_of_lt (by omega) (by omega)];omega
 ·rw[← ceilD_one (by omega) hd]
  have h2:0≤(a - 1) / d:=Int.ediv_nonneg (by omega) (by omega)
  have h3:(a - 1) / d≤a - 1:=Int.ediv_le_self _ (by omega)
  omega
theorem gceil_spec (a d:Int) (ha:U64 a) (hd:1≤d):Spec 344 [.int .u64 a,.int .u64 d] R fun u L'=>u=.tuple [.int .u64 (ceilD a d),.bool true].toArray∧L'=R:=by
 have h1:=ha.1;have h2:=ha.2
 have hr:=ceilD_range h1 hd
 by_cases h0:a=0
 ·subst h0
  have e0:ceilD 0 d=0:=by omega
  refine zGz Tryz.func344 ?_;intro G;(repeat'(first|refine zA zk344 ?_;repeat intro nb|refine zB ?_ ?_<;>intro hc<;>try exact no hc|refine zH ?_ ?_<;>(intro hg;rw[hg];try exact no hg)));all_goals try refine⟨fun a w F M=>?_⟩
  all_goals refine zE F M ?_
  all_goals exact⟨_,_,rfl,⟨by rw[e0];rfl,rfl⟩,M.perms permsA⟩
 ·have e1:=ceilD_one (show 1≤a by omega) hd
  have h3:0≤(a - 1) / d:=Int.ediv_nonneg (by omega) (by omega)
  have hw:IntKind.u64.wrap ((a - 1) / d)=(a - 1) / d:=u64_wrap_id ⟨h3,by omega⟩
  refine zGz Tryz.func344 ?_;intro G;(repeat'(first|refine zA zk344 ?_;repeat intro nb|refine zB ?_ ?_<;>intro hc<;>try exact no hc|refine zH ?_ ?_<;>(intro hg;rw[hg];try exact no hg)));all_goals try refine⟨fun a w F M=>?_⟩
  all_goals refine zE F M ?_
  all_goals exact⟨_,_,rfl,⟨by rw[← e1];rfl,rfl⟩,M.perms permsA⟩
theorem epochs_spec (x d:Int) (hx:U64 x) (hd:1≤d):Spec 338 [.int .u64 x,.int .u64 d] R fun u L'=>u=(if 1099511627776<ceilD x d then .tuple [.int .i64 0,.bool false].toArray else .tuple [.int .i64 (ceilD x d),.bool true].toArray)∧L'=R:=by
 have hr:=ceilD_range hx.1 hd
 by_cases h:1099511627776<ceilD x d
 ·rw[if_pos h]
  refine zGz Tryz.func338 ?_;intro G;(repeat'(first|refine zA zk338 ?_;repeat intro nb|refine zC ?_;refine kpW (k:=344) (gceil_spec _ x d hx hd) ?_|refine zB ?_ ?_<;>intro hc<;>try exact no hc|refine zH ?_ ?_<;>(intro hg;rw[hg];try exact no hg)));all_goals exact zXz
 ·rw[if_neg h]
  have hw:IntKind.i64.wrap (ceilD x d)=ceilD x d:=IntWalk.i64_in _ ⟨by omega,by omega⟩
  refine zGz Tryz.func338 ?_;intro G;(repeat'(first|refine zA zk338 ?_;repeat intro nb|refine zC ?_;refine kpW (k:=344) (gceil_spec _ x d hx hd) ?_|refine zB ?_ ?_<;>intro hc<;>try exact no hc|refine zH ?_ ?_<;>(intro hg;rw[hg];try exact no hg)));all_goals exact zXz
theorem churn_spec (x m q:Int) (hx:U64 x) (hq:1≤q):Spec 195 [.int .u64 x,.int .u64 m,.int .u64 q] R fun u L'=>u=.int .u64 (max m (x / q))∧L'=R:=by
 have h3:0≤x / q:=Int.ediv_nonneg hx.1 (by omega)
 have h4:x / q≤x:=Int.ediv_le_self _ hx.1
 have hx2:=hx.2
 have hw:IntKind.u64.wrap (x / q)=x / q:=u64_wrap_id ⟨h3,by omega⟩
 refine zGz Tryz.func195 ?_;intro G;(repeat'(first|refine zV (h:=⟨_,by((apply rt_max2;(exact rfl);(exact rfl);((show _=max m (x / q);split<;>omega)))),?_⟩)|refine zA1 zk195 ?_;repeat intro(nb:Nat)|refine zB ?_ ?_<;>intro hc<;>try exact no hc|refine zH ?_ ?_<;>(intro hg;rw[hg];try exact no hg)));all_goals try refine⟨fun a w F M=>?_⟩
 all_goals refine zE F M ?_
 all_goals exact⟨_,_,rfl,⟨rfl,rfl⟩,M.perms permsA⟩
end
end
section
open Go.RowKit
abbrev tbV (b:Nat):Value:=.agg [ptr b].toArray
section
variable (b:Nat) (cap:Int) (V:List Val) (R:List Asn)
theorem tchange_spec (i:Nat) (old v:Val) (hv:V[i]? = some old) (hl:V.length≤4096) (hst:I64 v.st∧I64 old.st) (ho:0≤old.bal) (hn:0≤v.bal) (hs:old.bal≤(bals V).sum∧(bals V).sum≤18446744073709551615∧(bals V).sum - old.bal+v.bal≤18446744073709551615):Spec 149 [tbV b,.int .i64 i,valV v] (regA b cap V::R) fun u L'=>u=.tuple #[]∧L'=regA b cap (V.set i v)::R:=by
 refine zGz Tryz.func149 ?_;intro G;(repeat'(first|refine zA zk149 ?_;repeat intro nb|refine zC ?_;refine kp (k:=220) (reg_set b cap V _ i old v hv hl hst ho hn hs) ?_|refine zB ?_ ?_<;>intro hc<;>try exact no hc|refine zH ?_ ?_<;>(intro hg;rw[hg];try exact no hg)));all_goals exact zXz
theorem tevent_spec (i:Nat) (v:Val) (e:Int) (hv:V[i]? = some v) (hl:V.length≤4096) (hst:1≤v.st∧v.st≤7) (he:1≤e∧e≤7) (hne:nextF v.st e≠0) (h0:∀ x∈bals V,0≤x) (hs:(bals V).sum≤18446744073709551615):Spec 193 [tbV b,.int .i64 i,.int .i64 e] (regA b cap V::R) fun u L'=>u=.bool true∧L'=regA b cap (V.set i {v with st:=nextF v.st e})::R:=by
 have hb:0≤v.bal:=h0 _ (List.mem_of_getElem? (bals_get hv))
 have hle:v.bal≤(bals V).sum:=sum_mem_le _ h0 _ (List.mem_of_getElem? (bals_get hv))
 have hx:=fun R=>next_spec R v.st e (wf_small _ (by omega) (by omega)) (wf_small _ (by omega) (by omega))
 have hd:(nextF v.st e != 0)=true:=by simpa using hne
 rw[hd] at hx
 have hwf:=nextF_wf v.st e
 have hst2:I64 (nextF v.st e):=i64_wf hwf
 have hch:=fun R=>tchange_spec b cap V R i v {v with st:=nextF v.st e} hv hl ⟨hst2,⟨by omega,by omega⟩⟩ hb hb ⟨hle,hs,by simp only;omega⟩
 obtain ⟨bal,st,slz,rq,ex,wd,dl⟩:=v
 simp only at hx hch hst
 refine zGz Tryz.func193 ?_;intro G;(repeat'(first|refine zA zk193 ?_;repeat intro nb|refine zC ?_;(first|refine kp (k:=76) (reg_get b cap V _ i _ hv hl) ?_|refine kpW (k:=271) (hx _) ?_|refine kp (k:=149) (hch _) ?_)|refine zB ?_ ?_<;>intro hc<;>try exact no hc|refine zH ?_ ?_<;>(intro hg;rw[hg];try exact no hg)));all_goals exact zXz
theorem bals_take {V:List Val} {k:Nat} {x:Val} (h:V[k]? = some x):(bals V).take (k+1)=(bals V).take k++[x.bal]:=by
 rw[List.take_add_one,bals_get h];rfl
theorem tbals_spec (hl:V.length≤4096):Spec 198 [tbV b] (regA b cap V::R) fun u L'=>∃ h,u=sl h∧L'=ownT 23 u64L 1 (sl h) (bals V)::regA b cap V::R:=by
 have hlen:(bals V).length=V.length:=by simp[bals]
 refine zGo Tryz.func198 ?_;intro G w M a F
 have M:=M.own_nil 23 1
 (try refine zI F M ?_;clear F M a;try clear w);(repeat'(first|refine zA zk198 ?_;repeat intro nb|refine zC ?_;refine acK (k:=78) (reg_all b cap V hl _) ?_;rintro u L' ⟨hv,rfl,rfl⟩|refine zB ?_ ?_<;>intro hc<;>try exact no hc|refine zH ?_ ?_<;>(intro hg;rw[hg];try exact no hg)));all_goals try refine⟨fun a w F M=>?_⟩
 refine svLoop F M ((0,nilH):Nat × SlH) (fun s=>[(10,.int .i64 s.1),(3,sl s.2)]) (fun s=>[ownT 23 u64L 1 (sl s.2) ((bals V).take s.1)]) (fun s=>s.1≤V.length) (fun s=>V.length - s.1) [5] (Nat.zero_le _) ?_ (hR:=by simp only[List.take_zero];(repeat (first|exact Pulls.nil|(apply Pulls.cons;(focus ((repeat (first|exact Pull.here|apply Pull.there));done))))))
 (rintro⟨k,h⟩ q1 a w F M;(try simp only[zc,zn] at F M q1 ⊢))
 by_cases hlt:k<V.length
 ·obtain ⟨x,hx⟩:∃ x,V[k]? = some x:=⟨V[k],by simp[hlt]⟩
  have ht:=bals_take hx
  have htl:((bals V).take k).length≤4096:=by rw[List.length_take];omega
  (try refine zI F M ?_;clear F M a;try clear w);(repeat'(first|refine zA zk198 ?_;repeat intro nb|refine zC ?_;refine ac_appendH rfl rfl inferInstance rfl rfl pullA inferInstance (ys:=[x.bal]) gsA rfl rfl (by simp;omega) ?_;intro nv|refine zB ?_ ?_<;>intro hc<;>try exact no hc|refine zH ?_ ?_<;>(intro hg;rw[hg];try exact no hg)));all_goals try refine⟨fun a w F M=>?_⟩
  rw[← ht] at M
  refine sv_again F M (k+1,nv) kpA permsA (by simp only;omega) (by simp only;omega)
 ·obtain rfl:k=V.length:=by omega
  rw[List.take_of_length_le (by omega)] at M
  (try refine zI F M ?_;clear F M a;try clear w);(repeat'(first|refine zA zk198 ?_;repeat intro nb|refine zB ?_ ?_<;>intro hc<;>try exact no hc|refine zH ?_ ?_<;>(intro hg;rw[hg];try exact no hg)));all_goals try refine⟨fun a w F M=>?_⟩
  (all_goals(refine zE F M ?_;exact⟨_,_,rfl,⟨h,rfl,rfl⟩,M.perms permsA⟩))
end
section
variable (W:List Int) (v:Value) (R:List Asn) (hg:GS R 1 v W.length (W.flatMap u64L))
include hg
theorem weight_spec (i:Nat):Spec 287 [v,.int .i64 i] R fun u L'=>u=.int .u64 (wAt W i)∧L'=R:=by
 have hwa:wAt W i=(W[i]?).getD 0:=by unfold wAt;rw[List.getD_eq_getElem?_getD]
 refine zGo Tryz.func287 ?_;intro G w M a F
 have hG:GS (R++G) 1 v W.length (W.flatMap u64L):=Gives.app hg
 by_cases hlt:i<W.length
 ·obtain ⟨x,hx⟩:∃ x,W[i]? = some x:=⟨W[i],by simp[hlt]⟩
  rw[hx] at hwa
  (try refine zI F M ?_;clear F M a;try clear w);(repeat'(first|refine zA zk287 ?_;repeat intro nb|refine zB ?_ ?_<;>intro hc<;>try exact no hc|refine zH ?_ ?_<;>(intro hg;rw[hg];try exact no hg)));all_goals try refine⟨fun a w F M=>?_⟩
  (all_goals(refine zE F M ?_;exact⟨_,_,rfl,⟨by rw[hwa];rfl,rfl⟩,M.perms permsA⟩))
 ·rw[List.getElem?_eq_none (by omega)] at hwa
  (try refine zI F M ?_;clear F M a;try clear w);(repeat'(first|refine zA zk287 ?_;repeat intro nb|refine zB ?_ ?_<;>intro hc<;>try exact no hc|refine zH ?_ ?_<;>(intro hg;rw[hg];try exact no hg)));all_goals try refine⟨fun a w F M=>?_⟩
  (all_goals(refine zE F M ?_;exact⟨_,_,rfl,⟨by rw[hwa];rfl,rfl⟩,M.perms permsA⟩))
theorem weights_spec (hW:∀ x∈W,U64 x) (l:List Nat) (vi:Value) (hi:GS R 1 vi l.length (l.flatMap natL)) (hl:l.length≤100000):Spec 211 [v,vi] R fun u L'=>u=.tuple [.int .u64 (addR (l.map (wAt W))).1,.bool (addR (l.map (wAt W))).2].toArray∧L'=R:=by
 have hww:∀ z∈l.map (wAt W),U64 z:=fun z hz=>by
  obtain ⟨i,_,rfl⟩:=List.mem_map.1 hz
  unfold wAt
  rw[List.getD_eq_getElem?_getD]
  cases hx:W[i]? with
  | none=>exact⟨by decide,by decide⟩
  | some x=>exact hW x (List.mem_of_getElem? hx)
 have ha:∀ {L:List Asn} {v:Value},GS L 1 v (l.map (wAt W)).length ((l.map (wAt W)).flatMap u64L)→Reads 39 [v] (.tuple [.int .u64 (addR (l.map (wAt W))).1,.bool (addR (l.map (wAt W))).2].toArray) L:=fun hg=>gadd_reads _ _ hww hg
 generalize addR (l.map (wAt W))=X at *
 obtain ⟨X1,X2⟩:=X
 refine zGo Tryz.func211 ?_;intro G w M a F
 have hG:GS (R++G) 1 v W.length (W.flatMap u64L):=Gives.app hg
 have hI:GS (R++G) 1 vi l.length (l.flatMap natL):=Gives.app hi
 have M:=M.own_nil 23 1
 (try refine zI F M ?_;clear F M a;try clear w);(repeat'(first|refine zA zk211 ?_;repeat intro nb|refine zB ?_ ?_<;>intro hc<;>try exact no hc|refine zH ?_ ?_<;>(intro hg;rw[hg];try exact no hg)));all_goals try refine⟨fun a w F M=>?_⟩
 refine svLoop F M ((0,nilH):Nat × SlH) (fun s=>[(11,.int .i64 s.1),(6,sl s.2)]) (fun s=>[ownT 23 u64L 1 (sl s.2) ((l.take s.1).map (wAt W))]) (fun s=>s.1≤l.length) (fun s=>l.length - s.1) [8] (Nat.zero_le _) ?_ (hR:=by simp only[List.take_zero,List.map_nil];(repeat (first|exact Pulls.nil|(apply Pulls.cons;(focus ((repeat (first|exact Pull.here|apply Pull.there));done))))))
 (rintro⟨k,h⟩ q1 a w F M;(try simp only[zc,zn] at F M q1 ⊢))
 by_cases hlt:k<l.length
 ·obtain ⟨x,hx⟩:∃ x,l[k]? = some x:=⟨l[k],by simp[hlt]⟩
  have ht:=take_map (f:=wAt W) hx
  have htl:((l.take k).map (wAt W)).length≤100000:=by rw[List.length_map,List.length_take];omega
  have hwt:=fun (R:List Asn) (hg:GS R 1 v W.length (W.flatMap u64L))=>weight_spec W v R hg x
  (try refine zI F M ?_;clear F M a;try clear w);(repeat'(first|refine zA zk211 ?_;repeat intro nb|refine zC ?_;(first|refine acW (k:=287) (hwt _ ?_) ?_;exact gsA;rintro u L' ⟨rfl,rfl⟩|refine ac_appendH rfl rfl inferInstance rfl rfl pullA inferInstance (ys:=[wAt W x]) gsA rfl rfl (by simp;omega) ?_;intro nv)|refine zB ?_ ?_<;>intro hc<;>try exact no hc|refine zH ?_ ?_<;>(intro hg;rw[hg];try exact no hg)));all_goals try refine⟨fun a w F M=>?_⟩
  rw[← ht] at M
  refine sv_again F M (k+1,nv) kpA permsA (by simp only;omega) (by simp only;omega)
 ·obtain rfl:k=l.length:=by omega
  rw[List.take_length] at M
  (try refine zI F M ?_;clear F M a;try clear w);(repeat'(first|refine zA zk211 ?_;repeat intro nb|refine zC ?_;refine acCall (k:=39) ?_;refine Spec.of_reads (ha (gs_own pullA)) rfl ?_|refine zB ?_ ?_<;>intro hc<;>try exact no hc|refine zH ?_ ?_<;>(intro hg;rw[hg];try exact no hg)));all_goals exact zXz
end
theorem ints_flat (l:List Int):ints l=l.flatMap intL:=by
 induction l with
 | nil=>rfl
 | cons x r ih=>simp only[ints,List.map_cons,List.flatMap_cons,intL,List.singleton_append] at ih ⊢;rw[ih]
theorem laterGo_sum:∀ (l:List Int) (s:Int),s≤1099511627776→(∀ z∈l,0≤z)→laterGo s l=if 1099511627776<s+l.sum then (0,false) else (s+l.sum,true)
 | [],s,h,_=>by rw[laterGo,List.sum_nil,Int.add_zero,if_neg (by omega)]
 | x::r,s,h,hl=>by
  have hs:=sum_nonneg r fun z hz=>hl z (by simp[hz])
  have hx:=hl x (by simp)
  rw[laterGo,List.sum_cons]
  by_cases h1:1099511627776<s+x
  ·rw[if_pos (by omega),if_pos (by omega)]
  ·rw[if_neg (by omega),laterGo_sum r _ (by omega) (fun z hz=>hl z (by simp[hz])),Int.add_assoc]
section
variable (R:List Asn)
theorem later_spec (a:Int) (v:Value) (l:List Int) (hg:GS R 1 v l.length (l.flatMap intL)) (hl:l.length≤1000000) (ha:I64 a) (hr:∀ z∈l,I64 z):Spec 286 [.int .i64 a,v] R fun u L'=>u=.tuple [.int .i64 (laterF a l),.bool (laterB a l)].toArray∧L'=R :=
 Spec.of_below_g (us':=[.int .i64 a,v]) (fun w h=>later_any a v l w (by rw[ints_flat];exact h) hl ha hr) hg rfl ⟨rfl,rfl⟩
variable (c:Cfg) (hc:CfOk c)
include hc
theorem swv_spec:Spec 339 [cfgV c] R fun u L'=>u=.int .i64 (c.visits - c.partials)∧L'=R:=by
 have h1:=hc.vi;have h2:=hc.pa
 refine zGz Tryz.func339 ?_;intro G;(repeat'(first|refine zA zk339 ?_;repeat intro nb|refine zB ?_ ?_<;>intro hc<;>try exact no hc|refine zH ?_ ?_<;>(intro hg;rw[hg];try exact no hg)));all_goals exact zXz
theorem swp_spec:Spec 340 [cfgV c] R fun u L'=>u=.int .i64 (c.payments - c.partials)∧L'=R:=by
 have h1:=hc.py;have h2:=hc.pa
 refine zGz Tryz.func340 ?_;intro G;(repeat'(first|refine zA zk340 ?_;repeat intro nb|refine zB ?_ ?_<;>intro hc<;>try exact no hc|refine zH ?_ ?_<;>(intro hg;rw[hg];try exact no hg)));all_goals exact zXz
theorem swb_spec:Spec 322 [cfgV c] R fun u L'=>u=.int .i64 ((c.capacity - 1) / (min (c.visits - c.partials) (c.payments - c.partials))+1)∧L'=R:=by
 have h1:=hc.vi;have h2:=hc.py;have h3:=hc.pa;have h4:=hc.ca
 obtain ⟨m,hm⟩:∃ m,min (c.visits - c.partials) (c.payments - c.partials)=m:=⟨_,rfl⟩
 have hmin:(if c.payments - c.partials<c.visits - c.partials then c.payments - c.partials else c.visits - c.partials)=m:=by split<;>omega
 have hm1:1≤m:=by omega
 have hd0:0≤(c.capacity - 1) / m:=Int.ediv_nonneg (by omega) (by omega)
 have hd1:(c.capacity - 1) / m≤c.capacity - 1:=Int.ediv_le_self _ (by omega)
 have hw:IntKind.i64.wrap ((c.capacity - 1) / m)=(c.capacity - 1) / m:=IntWalk.i64_in _ ⟨by omega,by omega⟩
 rw[hm]
 refine zGz Tryz.func322 ?_;intro G;(repeat'(first|refine zV (h:=⟨_,by((apply rt_min2;(exact rfl);(exact rfl);(exact hmin))),?_⟩)|refine zA1 zk322 ?_;repeat intro(nb:Nat)|refine zC ?_;(first|refine kpW (k:=339) (swv_spec _ c hc) ?_|refine kpW (k:=340) (swp_spec _ c hc) ?_)|refine zB ?_ ?_<;>intro hc<;>try exact no hc|refine zH ?_ ?_<;>(intro hg;rw[hg];try exact no hg)));all_goals exact zXz
theorem dsweep_spec:Spec 289 [cfgV c] R fun u L'=>u=.int .i64 (swpB c)∧L'=R:=by
 have h1:=hc.vi;have h2:=hc.py;have h3:=hc.pa;have h4:=hc.ca;have h5:=hc.el
 have hb:=fun R=>swb_spec R c hc
 unfold swpB
 obtain ⟨m,hm⟩:∃ m,min (c.visits - c.partials) (c.payments - c.partials)=m:=⟨_,rfl⟩
 rw[hm] at hb ⊢
 have hd0:0≤(c.capacity - 1) / m:=Int.ediv_nonneg (by omega) (by omega)
 have hd1:(c.capacity - 1) / m≤c.capacity - 1:=Int.ediv_le_self _ (by omega)
 generalize (c.capacity - 1) / m=n at *
 have hd2:0≤n / c.epochLen:=Int.ediv_nonneg (by omega) (by omega)
 have hd3:n / c.epochLen≤n:=Int.ediv_le_self _ (by omega)
 have hw:IntKind.i64.wrap ((n+1 - 1) / c.epochLen)=(n+1 - 1) / c.epochLen:=IntWalk.i64_in _ ⟨by rw[Int.add_sub_cancel];omega,by rw[Int.add_sub_cancel];omega⟩
 refine zGz Tryz.func289 ?_;intro G;(repeat'(first|refine zA zk289 ?_;repeat intro nb|refine zC ?_;refine kpW (k:=322) (hb _) ?_|refine zB ?_ ?_<;>intro hc<;>try exact no hc|refine zH ?_ ?_<;>(intro hg;rw[hg];try exact no hg)));all_goals try refine⟨fun a w F M=>?_⟩
 (all_goals(refine zE F M ?_;exact⟨_,_,rfl,⟨by rw[Int.add_sub_cancel];rfl,rfl⟩,M.perms permsA⟩))
def bndD (c:Cfg) (a x:Int):Option Int:=if 18446744073709551615<a+x+c.forcedCap then none else if 1099511627776<ceilD (a+x+c.forcedCap) c.minChurn then none else some (max (ceilD (a+x+c.forcedCap) c.minChurn) 1)
theorem bounds_spec (a x:Int) (ha:U64 a) (hx:U64 x):Spec 321 [.int .u64 a,.int .u64 x,cfgV c] R fun u L'=>u=(match bndD c a x with|none=>.tuple [.int .i64 0,.bool false].toArray|some k=>.tuple [.int .i64 k,.bool true].toArray)∧L'=R:=by
 have h1:=hc.fc;have h2:=hc.mc
 have a1:=ha.1;have a2:=ha.2;have x1:=hx.1;have x2:=hx.2
 have hadd:∀ {L:List Asn} {v:Value},GS L 1 v 3 ([a,x,c.forcedCap].flatMap u64L)→Reads 39 [v] (.tuple [.int .u64 (addR [a,x,c.forcedCap]).1,.bool (addR [a,x,c.forcedCap]).2].toArray) L:=fun hg=>gadd_reads _ [a,x,c.forcedCap] (by simp only[List.mem_cons,List.not_mem_nil,or_false];rintro z (rfl|rfl|rfl);exact ha;exact hx;exact⟨by omega,by omega⟩) hg
 have hsum:[a,x,c.forcedCap].sum=a+x+c.forcedCap:=by simp;omega
 rw[addR_sum _ (by simp only[List.mem_cons,List.not_mem_nil,or_false];rintro z (rfl|rfl|rfl)<;>omega),hsum] at hadd
 unfold bndD
 by_cases k1:18446744073709551615<a+x+c.forcedCap
 ·rw[if_pos k1] at hadd ⊢
  refine zGz Tryz.func321 ?_;intro G;(repeat'(first|refine zA zk321 ?_;repeat intro nb|refine zC ?_;refine acCall (k:=39) ?_;refine Spec.of_reads (hadd (gs_own pullA)) rfl ?_|refine zB ?_ ?_<;>intro hc<;>try exact no hc|refine zH ?_ ?_<;>(intro hg;rw[hg];try exact no hg)));all_goals exact zXz
 ·rw[if_neg k1] at hadd ⊢
  have he:=fun R=>epochs_spec R (a+x+c.forcedCap) c.minChurn ⟨by omega,by omega⟩ (by omega)
  have hr:=ceilD_range (a:=a+x+c.forcedCap) (d:=c.minChurn) (by omega) (by omega)
  generalize ceilD (a+x+c.forcedCap) c.minChurn=n at *
  by_cases k2:1099511627776<n
  ·rw[if_pos k2]
   simp only[k2,if_true] at he
   refine zGz Tryz.func321 ?_;intro G;(repeat'(first|refine zA zk321 ?_;repeat intro nb|refine zC ?_;(first|refine acCall (k:=39) ?_;refine Spec.of_reads (hadd (gs_own pullA)) rfl ?_|refine kpW (k:=338) (he _) ?_)|refine zB ?_ ?_<;>intro hc<;>try exact no hc|refine zH ?_ ?_<;>(intro hg;rw[hg];try exact no hg)));all_goals exact zXz
  ·rw[if_neg k2]
   simp only[k2,if_false] at he
   refine zGz Tryz.func321 ?_;intro G;(repeat'(first|refine zV (h:=⟨_,by((apply rt_max2;(exact rfl);(exact rfl);((show _=max n 1;split<;>omega)))),?_⟩)|refine zA1 zk321 ?_;repeat intro(nb:Nat)|refine zC ?_;(first|refine acCall (k:=39) ?_;refine Spec.of_reads (hadd (gs_own pullA)) rfl ?_|refine kpW (k:=338) (he _) ?_)|refine zB ?_ ?_<;>intro hc<;>try exact no hc|refine zH ?_ ?_<;>(intro hg;rw[hg];try exact no hg)));all_goals exact zXz
end
end
end Go.Proofs.YtopbohbkhljjgaaGreat
