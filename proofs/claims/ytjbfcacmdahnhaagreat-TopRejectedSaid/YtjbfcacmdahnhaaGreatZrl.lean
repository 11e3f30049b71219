import Derived.Test.YtjbfcacmdahnhaaGreatZrk
set_option linter.unusedVariables false
set_option linter.unusedSimpArgs false
set_option linter.unusedSectionVars false
set_option maxRecDepth 100000
set_option maxHeartbeats 8000000
namespace Go.Proofs.YtjbfcacmdahnhaaGreat
section
open Go.RowKit
theorem rgn_grow (b size:Nat) (q:List (Nat)) (z:rgnH) (hz:rgnOk size q z) (hq:q.length<size) (R:List Asn):Spec 187 [ptr b] (rgnP b size q z++R) fun u L'=>∃ z',rgnOk size q z'∧q.length<z'.S.length∧u=.tuple #[]∧L'=rgnP b size q z'++R:=by
 intro G w M
 have h1:=hz.n
 have h2:=hz.s
 have h3:=hz.p
 simp only[zc,zn] at M
 by_cases hlt:q.length<z.S.length
 ·(refine zGe Tryz.func187 ?_;intro a F;(try simp only[zc,zn] at M))
  (try refine zI zk187 F M ?_;clear F M a;try clear w);(repeat'(first|refine zA ?_;repeat intro nb|refine zB ?_ ?_<;>intro hc<;>try exact no hc|refine zH ?_ ?_<;>(intro hg;rw[hg];try exact no hg)));all_goals try refine zO fun a w F M=>?_
  (all_goals(refine zE F M ?_;exact⟨_,_,rfl,⟨z,hz,hlt,rfl,rfl⟩,M.perms permsA⟩))
 ·have hm:q.length=z.S.length:=by omega
  obtain ⟨m,hmm⟩:∃ m:Nat,m=min size (2*z.S.length+1):=⟨_,rfl⟩
  have hmin:(if (2*(z.S.length:Int)+1)<(size:Int) then (2*(z.S.length:Int)+1) else (size:Int))=(m:Int):=by split<;>omega
  have hf:z.f≤z.S.length:=by rcases hz.f with h|⟨h,h'⟩<;>omega
  have ed:z.S.length - z.f=(z.S.drop z.f).length:=by simp
  have et:z.f=(z.S.take z.f).length:=by simp;omega
  obtain ⟨hzn,hzc,_⟩:=own_h (M.pull (by(focus ((repeat (first|exact Pull.here|apply Pull.there));done))))
  obtain ⟨X1,hX1⟩:∃ X1,z.S.drop z.f++List.replicate (m - (z.S.drop z.f).length) (0)=X1:=⟨_,rfl⟩
  obtain ⟨X2,hX2⟩:∃ X2,z.S.drop z.f++z.S.take z.f++List.replicate (m - z.S.length) (0)=X2:=⟨_,rfl⟩
  have l1:X1.length=m:=by rw[← hX1];simp;omega
  have l2:X2.length=m:=by rw[← hX2];simp;omega
  have x1:(List.replicate m (0)).take 0++z.S.drop z.f++(List.replicate m (0)).drop (0+(z.S.drop z.f).length)=X1:=by rw[← hX1];simp
  have x2:X1.take (z.S.drop z.f).length++z.S.take z.f++X1.drop ((z.S.drop z.f).length+(z.S.take z.f).length)=X2:=by
   rw[← hX1,← hX2,List.take_left' rfl,← List.drop_drop,List.drop_left' rfl,List.drop_replicate,← ed,← et]
   congr 2;omega
  (refine zGe Tryz.func187 ?_;intro a F;(try simp only[zc,zn] at M))
  (try refine zI zk187 F M ?_;clear F M a;try clear w);(repeat'(first|refine zV (h:=⟨_,by((first|(apply rt_min2;(exact rfl);(exact rfl);(exact hmin))|(apply rt_fromN;(exact rfl);(exact rfl);(exact rfl);(exact inferInstance);(try dsimp only);omega;(try dsimp only);omega)|(apply rt_from;(exact rfl);(exact rfl);(exact rfl);(exact inferInstance);omega)|(apply rt_to;(exact rfl);(exact rfl);(exact rfl);(exact inferInstance);omega))),?_⟩)|refine zA1 ?_;repeat intro(nb:Nat)|refine zC ?_;(first|refine ac_makeT (f:=natL) inferInstance (0) rfl rfl inferInstance rfl (m:=m) rfl rfl (by omega) (by omega) ?_;intro nb|refine ac_copyT (f:=natL) (j:=0) rfl rfl inferInstance inferInstance rfl rfl (gs_from (by(focus ((repeat (first|exact Pull.here|apply Pull.there));done))) hf) (flat_drop (f:=natL) EL.len _ _) ed (by(focus ((repeat (first|exact Pull.here|apply Pull.there));done))) (by rw[List.length_replicate]) (by rw[List.length_replicate];dsimp only;omega) (by dsimp only;omega) ?_;rw[x1]|refine ac_copyT (f:=natL) (j:=(z.S.drop z.f).length) rfl rfl inferInstance inferInstance rfl rfl (gs_to (by(focus ((repeat (first|exact Pull.here|apply Pull.there));done))) hf) (flat_take (f:=natL) EL.len _ _) et (by(focus ((repeat (first|exact Pull.here|apply Pull.there));done))) (by rw[l1]) (by dsimp only;omega) (by dsimp only;omega) ?_;rw[x2])|refine zB ?_ ?_<;>intro hc<;>try exact no hc|refine zH ?_ ?_<;>(intro hg;rw[hg];try exact no hg)));all_goals try refine zO fun a w F M=>?_
  all_goals refine zE F M ?_
  refine⟨_,_,rfl,⟨⟨⟨some ⟨nb,0,none⟩,m,m⟩,X2,0⟩,⟨by dsimp only;omega,by dsimp only;omega,h3,.inl (by dsimp only;omega),fun i hi=>?_⟩,by dsimp only;omega,rfl,rfl⟩,M.perms permsA⟩
  rw[← hz.g i hi]
  dsimp only
  rw[l2,Nat.zero_add,Nat.mod_eq_of_lt (by omega),← hX2,List.getElem?_append_left (by simp;omega)]
  by_cases hi2:i<z.S.length - z.f
  ·rw[List.getElem?_append_left (by simp;omega),List.getElem?_drop,Nat.mod_eq_of_lt (by omega)]
  ·rw[List.getElem?_append_right (by simp;omega),List.getElem?_take_of_lt (by simp;omega),List.length_drop]
   congr 1
   rw[Nat.mod_eq_sub_mod (by omega),Nat.mod_eq_of_lt (by omega)];omega
theorem rgn_growA (b size:Nat) (q:List (Nat)) (hq:q.length<size) (R:List Asn):Spec 187 [ptr b] (rgnA b size q::R) fun u L'=>∃ z',rgnOk size q z'∧q.length<z'.S.length∧u=.tuple #[]∧L'=rgnP b size q z'++R:=by
 intro G w M
 obtain ⟨z,hz,M⟩:=rgn_open (L:=R++G) M
 exact rgn_grow b size q z hz hq R G w (by simpa using M)
theorem rgn_push_ok {size:Nat} {x:Nat} {q:List (Nat)} {z:rgnH} (h:rgnOk size q z) (hl:q.length<z.S.length):rgnOk size (q++[x]) ⟨z.h,z.S.set ((z.f+q.length) % z.S.length) x,z.f⟩:=by
 have hf:z.f<z.S.length:=by rcases h.f with h|⟨_,h⟩;(· exact h);(exfalso;rw[h,List.length_nil] at hl;omega)
 have hm:=Nat.mod_lt (z.f+q.length) (show 0<z.S.length by omega)
 refine⟨by simp;omega,by simpa using h.s,h.p,.inl (by simpa using hf),fun i hi=>?_⟩
 simp only[List.length_set]
 by_cases hi2:i=q.length
 ·subst hi2
  rw[List.getElem?_set_self hm];simp
 ·simp at hi
  rw[List.getElem?_append_left (by omega),← h.g i (by omega),List.getElem?_set_ne]
  intro he
  by_cases c1:z.f+q.length<z.S.length
  ·rw[Nat.mod_eq_of_lt c1,Nat.mod_eq_of_lt (by omega)] at he;omega
  ·rw[Nat.mod_eq_sub_mod (by omega),Nat.mod_eq_of_lt (by omega)] at he
   by_cases c2:z.f+i<z.S.length
   ·rw[Nat.mod_eq_of_lt c2] at he;omega
   ·rw[Nat.mod_eq_sub_mod (by omega),Nat.mod_eq_of_lt (by omega)] at he;omega
theorem rgn_fl {size:Nat} {q:List (Nat)} {z:rgnH} (h:rgnOk size q z) (hl:q.length<z.S.length):z.f<z.S.length∧z.S.length≤size∧0≤((z.f:Int)+(q.length:Int)) % (z.S.length:Int)∧((z.f:Int)+(q.length:Int)) % (z.S.length:Int)<(z.S.length:Int):=by
 have hf:z.f<z.S.length:=by rcases h.f with h|⟨_,h⟩;(· exact h);(exfalso;rw[h,List.length_nil] at hl;omega)
 exact⟨hf,h.s,Int.emod_nonneg _ (by omega),Int.emod_lt_of_pos _ (by omega)⟩
theorem rgn_push (b size:Nat) (q:List (Nat)) (x:Nat) (v:SlH) (R:List Asn) (hg:GS R 1 (sl v) 1 ([x].flatMap natL)) (hv:v.n=1∧1≤v.c) (hq:q.length<size) (hs:size≤4096):Spec 128 [ptr b,sl v] (rgnA b size q::R) fun u L'=>u=.int .i64 1∧L'=rgnA b size (q++[x])::R:=by
 obtain ⟨hv1,hv2⟩:=hv
 intro G w M
 have hg1:GS (R++G) 1 (sl v) 1 ([x].flatMap natL):=hg.imp fun w M=>M.drop_app
 have hg2:GS (R++G) 1 (sl ⟨v.a,1,v.c⟩) [x].length ([x].flatMap natL):=fun w M=>by have:=(hg1 w M).to (j:=1) (by omega);rwa [List.take_of_length_le (by rw[flat_lenE (f:=natL) inferInstance];simp)] at this
 have hmin:(if ((size:Int) - (q.length:Int))<((1:Nat):Int) then ((size:Int) - (q.length:Int)) else ((1:Nat):Int))=((1:Nat):Int):=by rw[if_neg];omega
 (refine zGe Tryz.func128 ?_;intro a F;(try simp only[zc,zn] at M))
 (try refine zI zk128 F M ?_;clear F M a;try clear w);(repeat'(first|refine zV (h:=⟨_,by((first|(apply rt_min2;(exact rfl);(exact rfl);(exact hmin))|(apply rt_to;(exact rfl);(exact rfl);(exact rfl);(exact inferInstance);omega))),?_⟩)|refine zA1 ?_;repeat intro(nb:Nat)|refine zC ?_;refine kp (k:=125) (rgn_free b size q _) ?_|refine zB ?_ ?_<;>intro hc<;>try exact no hc|refine zH ?_ ?_<;>(intro hg;rw[hg];try exact no hg)));all_goals try refine zO fun a w F M=>?_
 refine svLoop F M (0:Nat) (fun k=>[(17,.int .i64 k)]) (fun k=>[rgnA b size (q++[x].take k)]) (fun k=>k≤1) (fun k=>1 - k) [] (by simp) ?_ (hR:=by rw[List.take_zero,List.append_nil];(repeat (first|exact Pulls.nil|(apply Pulls.cons;(focus ((repeat (first|exact Pull.here|apply Pull.there));done))))))
 (rintro k q1 a w F M;(try simp only[zc,zn] at F M q1 ⊢))
 by_cases hk:k=0
 ·subst hk
  rw[List.take_zero,List.append_nil] at M
  have hx:[x][0]? = some x:=rfl
  (try refine zI zk128 F M ?_;clear F M a;try clear w);(repeat'(first|refine zV (h:=⟨_,by((first|(apply rt_min2;(exact rfl);(exact rfl);(exact hmin))|(apply rt_to;(exact rfl);(exact rfl);(exact rfl);(exact inferInstance);omega))),?_⟩)|refine zA1 ?_;repeat intro(nb:Nat)|refine zC ?_;((refine acK (k:=187) (rgn_growA b size q hq _) ?_);rintro u L' ⟨z,hz,hroom,rfl,rfl⟩);obtain ⟨hf,h2,hm0,hm1⟩:=rgn_fl hz hroom;simp only[zc,zn]|refine zB ?_ ?_<;>intro hc<;>try exact no hc|refine zH ?_ ?_<;>(intro hg;rw[hg];try exact no hg)));all_goals try refine zO fun a w F M=>?_
  have hmod:(((z.f:Int)+(q.length:Int)) % (z.S.length:Int)).toNat=(z.f+q.length) % z.S.length:=by
   rw[show(z.f:Int)+(q.length:Int)=((z.f+q.length:Nat):Int) by omega,← Int.natCast_emod,Int.toNat_natCast]
  have hok:=rgn_push_ok (x:=x) hz hroom
  rw[← hmod] at hok
  obtain ⟨j,hj⟩:∃ j,(((z.f:Int)+(q.length:Int)) % (z.S.length:Int)).toNat=j:=⟨_,rfl⟩
  rw[hj] at hok
  obtain ⟨u0,hu0⟩:∃ u0,z.S[j]? = some u0:=⟨z.S[j]'(by omega),by simp⟩
  rw[← hj] at hu0
  (try refine zI zk128 F M ?_;clear F M a;try clear w);(repeat'(first|refine zV (h:=⟨_,by((first|(apply rt_min2;(exact rfl);(exact rfl);(exact hmin))|(apply rt_to;(exact rfl);(exact rfl);(exact rfl);(exact inferInstance);omega))),?_⟩)|refine zA1 ?_;repeat intro(nb:Nat)|refine zC ?_;(first|refine ac_storeEA (f:=natL) (v:=sl z.h) (k:=1) rfl rfl inferInstance x rfl hu0 inferInstance (by(focus ((repeat (first|exact Rep.here|apply Rep.there));done))) ?_;rw[hj]|refine ac_storeE (f:=natL) (v:=sl z.h) (k:=1) (i:=0) (xs:=z.S) rfl rfl inferInstance rfl rfl hu0 inferInstance rfl x rfl (by(focus ((repeat (first|exact Rep.here|apply Rep.there));done))) ?_;rw[hj])|refine zB ?_ ?_<;>intro hc<;>try exact no hc|refine zH ?_ ?_<;>(intro hg;rw[hg];try exact no hg)));all_goals try refine zO fun a w F M=>?_
  have e:(q.length:Int)+1=(((q++[x]).length:Nat):Int):=by simp
  rw[e] at M
  have M:=rgn_close hok (M.perms (permsA:Perms _ (rgnP b size (q++[x]) ⟨z.h,z.S.set j x,z.f⟩++(R++G))))
  exact sv_again F M 1 kpA permsA (by omega) (by omega)
 ·obtain rfl:k=1:=by omega
  (try refine zI zk128 F M ?_;clear F M a;try clear w);(repeat'(first|refine zV (h:=⟨_,by((first|(apply rt_min2;(exact rfl);(exact rfl);(exact hmin))|(apply rt_to;(exact rfl);(exact rfl);(exact rfl);(exact inferInstance);omega))),?_⟩)|refine zA1 ?_;repeat intro(nb:Nat)|refine zC ?_;(first|refine ac_storeEA (f:=natL) (v:=sl z.h) (k:=1) rfl rfl inferInstance x rfl hu0 inferInstance (by(focus ((repeat (first|exact Rep.here|apply Rep.there));done))) ?_;rw[hj]|refine ac_storeE (f:=natL) (v:=sl z.h) (k:=1) (i:=0) (xs:=z.S) rfl rfl inferInstance rfl rfl hu0 inferInstance rfl x rfl (by(focus ((repeat (first|exact Rep.here|apply Rep.there));done))) ?_;rw[hj])|refine zB ?_ ?_<;>intro hc<;>try exact no hc|refine zH ?_ ?_<;>(intro hg;rw[hg];try exact no hg)));all_goals exact zXz
end
section
open Go.RowKit
abbrev lnC (b r0 r1:Nat):Asn:=pt b [ptr r0,ptr r1] 226
abbrev lnP (b r0 r1 size:Nat) (fo vo:List Nat) (R:List Asn):List Asn:=lnC b r0 r1::rgnA r0 size fo::rgnA r1 size vo::R
section
variable (b r0 r1:Nat) (R:List Asn)
theorem of0:Spec 167 [ptr b,.int .i64 0] (lnC b r0 r1::R) fun u L'=>u=ptr r0∧L'=lnC b r0 r1::R:=by
 refine zGz zk167 Tryz.func167 ?_;intro G;(repeat'(first|refine zA ?_;repeat intro nb|refine zB ?_ ?_<;>intro hc<;>try exact no hc|refine zH ?_ ?_<;>(intro hg;rw[hg];try exact no hg)));all_goals exact zXz
theorem of1:Spec 167 [ptr b,.int .i64 1] (lnC b r0 r1::R) fun u L'=>u=ptr r1∧L'=lnC b r0 r1::R:=by
 refine zGz zk167 Tryz.func167 ?_;intro G;(repeat'(first|refine zA ?_;repeat intro nb|refine zB ?_ ?_<;>intro hc<;>try exact no hc|refine zH ?_ ?_<;>(intro hg;rw[hg];try exact no hg)));all_goals exact zXz
theorem ofN:Spec 167 [ptr b,.int .i64 (-1)] R fun u L'=>u=.pointer none∧L'=R:=by
 refine zGz zk167 Tryz.func167 ?_;intro G;(repeat'(first|refine zA ?_;repeat intro nb|refine zB ?_ ?_<;>intro hc<;>try exact no hc|refine zH ?_ ?_<;>(intro hg;rw[hg];try exact no hg)));all_goals exact zXz
theorem class0:Spec 112 [ptr b,.int .i64 0] (lnC b r0 r1::R) fun u L'=>u=ptr r0∧L'=lnC b r0 r1::R:=by
 refine zGz zk112 Tryz.func112 ?_;intro G;(repeat'(first|refine zA ?_;repeat intro nb|refine zC ?_;refine kp (k:=167) (of0 b r0 r1 _) ?_|refine zB ?_ ?_<;>intro hc<;>try exact no hc|refine zH ?_ ?_<;>(intro hg;rw[hg];try exact no hg)));all_goals exact zXz
theorem class1:Spec 112 [ptr b,.int .i64 1] (lnC b r0 r1::R) fun u L'=>u=ptr r1∧L'=lnC b r0 r1::R:=by
 refine zGz zk112 Tryz.func112 ?_;intro G;(repeat'(first|refine zA ?_;repeat intro nb|refine zC ?_;refine kp (k:=167) (of1 b r0 r1 _) ?_|refine zB ?_ ?_<;>intro hc<;>try exact no hc|refine zH ?_ ?_<;>(intro hg;rw[hg];try exact no hg)));all_goals exact zXz
theorem classN:Spec 112 [ptr b,.int .i64 (-1)] R fun u L'=>u=.pointer none∧L'=R:=by
 refine zGz zk112 Tryz.func112 ?_;intro G;(repeat'(first|refine zA ?_;repeat intro nb|refine zC ?_;refine kpW (k:=167) (ofN b _) ?_|refine zB ?_ ?_<;>intro hc<;>try exact no hc|refine zH ?_ ?_<;>(intro hg;rw[hg];try exact no hg)));all_goals exact zXz
end
section
variable (b r0 r1 size:Nat) (fo vo:List Nat) (R:List Asn)
theorem lfree0:Spec 132 [ptr b,.int .i64 0] (lnP b r0 r1 size fo vo R) fun u L'=>u=.int .i64 ((size:Int) - fo.length)∧L'=lnP b r0 r1 size fo vo R:=by
 refine zGz zk132 Tryz.func132 ?_;intro G;(repeat'(first|refine zA ?_;repeat intro nb|refine zC ?_;(first|refine kp (k:=112) (class0 b r0 r1 _) ?_|refine kp (k:=125) (rgn_free r0 size fo _) ?_)|refine zB ?_ ?_<;>intro hc<;>try exact no hc|refine zH ?_ ?_<;>(intro hg;rw[hg];try exact no hg)));all_goals exact zXz
theorem lfree1:Spec 132 [ptr b,.int .i64 1] (lnP b r0 r1 size fo vo R) fun u L'=>u=.int .i64 ((size:Int) - vo.length)∧L'=lnP b r0 r1 size fo vo R:=by
 refine zGz zk132 Tryz.func132 ?_;intro G;(repeat'(first|refine zA ?_;repeat intro nb|refine zC ?_;(first|refine kp (k:=112) (class1 b r0 r1 _) ?_|refine kp (k:=125) (rgn_free r1 size vo _) ?_)|refine zB ?_ ?_<;>intro hc<;>try exact no hc|refine zH ?_ ?_<;>(intro hg;rw[hg];try exact no hg)));all_goals exact zXz
theorem lall0 (hq:fo.length≤4096):Spec 47 [ptr b,.int .i64 0] (lnP b r0 r1 size fo vo R) fun u L'=>∃ h,u=sl h∧L'=ownT 3 natL 1 (sl h) fo::lnP b r0 r1 size fo vo R:=by
 refine zGz zk47 Tryz.func47 ?_;intro G;(repeat'(first|refine zA ?_;repeat intro nb|refine zC ?_;(first|refine kp (k:=112) (class0 b r0 r1 _) ?_|refine acK (k:=46) (rgn_all r0 size fo hq _) ?_;rintro u L' ⟨h,rfl,rfl⟩)|refine zB ?_ ?_<;>intro hc<;>try exact no hc|refine zH ?_ ?_<;>(intro hg;rw[hg];try exact no hg)));all_goals try refine zO fun a w F M=>?_
 (all_goals(refine zE F M ?_;exact⟨_,_,rfl,⟨h,rfl,rfl⟩,M.perms permsA⟩))
theorem lall1 (hq:vo.length≤4096):Spec 47 [ptr b,.int .i64 1] (lnP b r0 r1 size fo vo R) fun u L'=>∃ h,u=sl h∧L'=ownT 3 natL 1 (sl h) vo::lnP b r0 r1 size fo vo R:=by
 refine zGz zk47 Tryz.func47 ?_;intro G;(repeat'(first|refine zA ?_;repeat intro nb|refine zC ?_;(first|refine kp (k:=112) (class1 b r0 r1 _) ?_|refine acK (k:=46) (rgn_all r1 size vo hq _) ?_;rintro u L' ⟨h,rfl,rfl⟩)|refine zB ?_ ?_<;>intro hc<;>try exact no hc|refine zH ?_ ?_<;>(intro hg;rw[hg];try exact no hg)));all_goals try refine zO fun a w F M=>?_
 (all_goals(refine zE F M ?_;exact⟨_,_,rfl,⟨h,rfl,rfl⟩,M.perms permsA⟩))
theorem lpush0 (i:Nat) (hq:fo.length<size) (hs:size≤4096):Spec 135 [ptr b,.int .i64 0,.int .i64 i] (lnP b r0 r1 size fo vo R) fun u L'=>u=.int .i64 0∧L'=lnP b r0 r1 size (fo++[i]) vo R:=by
 refine zGz zk135 Tryz.func135 ?_;intro G;(repeat'(first|refine zA ?_;repeat intro nb|refine zC ?_;(first|refine kp (k:=112) (class0 b r0 r1 _) ?_|refine acCall (k:=128) ?_;refine Spec.pre (L':=rgnA r0 size fo::_) ?_ permsA;refine Spec.mono (rgn_push r0 size fo i ⟨some ⟨nb,0,none⟩,1,1⟩ _ (by exact gsA) ⟨rfl,Nat.le_refl 1⟩ hq hs) ?_;rintro u L' ⟨rfl,rfl⟩)|refine zB ?_ ?_<;>intro hc<;>try exact no hc|refine zH ?_ ?_<;>(intro hg;rw[hg];try exact no hg)));all_goals exact zXz
theorem lpush1 (i:Nat) (hq:vo.length<size) (hs:size≤4096):Spec 135 [ptr b,.int .i64 1,.int .i64 i] (lnP b r0 r1 size fo vo R) fun u L'=>u=.int .i64 0∧L'=lnP b r0 r1 size fo (vo++[i]) R:=by
 refine zGz zk135 Tryz.func135 ?_;intro G;(repeat'(first|refine zA ?_;repeat intro nb|refine zC ?_;(first|refine kp (k:=112) (class1 b r0 r1 _) ?_|refine acCall (k:=128) ?_;refine Spec.pre (L':=rgnA r1 size vo::_) ?_ permsA;refine Spec.mono (rgn_push r1 size vo i ⟨some ⟨nb,0,none⟩,1,1⟩ _ (by exact gsA) ⟨rfl,Nat.le_refl 1⟩ hq hs) ?_;rintro u L' ⟨rfl,rfl⟩)|refine zB ?_ ?_<;>intro hc<;>try exact no hc|refine zH ?_ ?_<;>(intro hg;rw[hg];try exact no hg)));all_goals exact zXz
def firstC (fo vo:List Nat):Int:=if fo≠[] then 0 else if vo≠[] then 1 else -1
theorem lfirst:Spec 350 [ptr b] (lnP b r0 r1 size fo vo R) fun u L'=>u=.int .i64 (firstC fo vo)∧L'=lnP b r0 r1 size fo vo R:=by
 refine zGz zk350 Tryz.func350 ?_;intro G;(repeat'(first|refine zA ?_;repeat intro nb|refine zC ?_;(first|refine kp (k:=112) (class0 b r0 r1 _) ?_|refine kp (k:=112) (class1 b r0 r1 _) ?_|refine kp (k:=110) (rgn_len r0 size fo _) ?_|refine kp (k:=110) (rgn_len r1 size vo _) ?_)|refine zB ?_ ?_<;>intro hc<;>try exact no hc|refine zH ?_ ?_<;>(intro hg;rw[hg];try exact no hg)));all_goals try refine zO fun a w F M=>?_
 refine svLoop F M (0:Nat) (fun k=>[(5,.int .i64 k)]) (fun _=>[]) (fun k=>k≤2∧(1≤k→fo=[])∧(2≤k→vo=[])) (fun k=>2 - k) [4,7] (by simp) ?_
 (rintro k ⟨q1,q2,q3⟩ a w F M;(try simp only[zc,zn] at F M q1 q2 q3 ⊢))
 rcases (by omega:k=0∨k=1∨k=2) with rfl|rfl|rfl
 ·by_cases h:fo=[]
  ·have hl:fo.length=0:=by rw[h];rfl
   (try refine zI zk350 F M ?_;clear F M a;try clear w);(repeat'(first|refine zA ?_;repeat intro nb|refine zC ?_;(first|refine kp (k:=112) (class0 b r0 r1 _) ?_|refine kp (k:=112) (class1 b r0 r1 _) ?_|refine kp (k:=110) (rgn_len r0 size fo _) ?_|refine kp (k:=110) (rgn_len r1 size vo _) ?_)|refine zB ?_ ?_<;>intro hc<;>try exact no hc|refine zH ?_ ?_<;>(intro hg;rw[hg];try exact no hg)));all_goals try refine zO fun a w F M=>?_
   exact sv_again F M 1 kpA permsA ⟨by omega,fun _=>h,by omega⟩ (by omega)
  ·have hl:0<fo.length:=List.length_pos_iff.2 h
   (try refine zI zk350 F M ?_;clear F M a;try clear w);(repeat'(first|refine zA ?_;repeat intro nb|refine zC ?_;(first|refine kp (k:=112) (class0 b r0 r1 _) ?_|refine kp (k:=112) (class1 b r0 r1 _) ?_|refine kp (k:=110) (rgn_len r0 size fo _) ?_|refine kp (k:=110) (rgn_len r1 size vo _) ?_)|refine zB ?_ ?_<;>intro hc<;>try exact no hc|refine zH ?_ ?_<;>(intro hg;rw[hg];try exact no hg)));all_goals try refine zO fun a w F M=>?_
   all_goals skip
   (all_goals(refine zE F M ?_;exact⟨_,_,rfl,⟨by simp[firstC,h,tupOf],rfl⟩,M.perms permsA⟩))
 ·have h0:=q2 (by omega)
  by_cases h:vo=[]
  ·have hl:vo.length=0:=by rw[h];rfl
   (try refine zI zk350 F M ?_;clear F M a;try clear w);(repeat'(first|refine zA ?_;repeat intro nb|refine zC ?_;(first|refine kp (k:=112) (class0 b r0 r1 _) ?_|refine kp (k:=112) (class1 b r0 r1 _) ?_|refine kp (k:=110) (rgn_len r0 size fo _) ?_|refine kp (k:=110) (rgn_len r1 size vo _) ?_)|refine zB ?_ ?_<;>intro hc<;>try exact no hc|refine zH ?_ ?_<;>(intro hg;rw[hg];try exact no hg)));all_goals try refine zO fun a w F M=>?_
   exact sv_again F M 2 kpA permsA ⟨by omega,fun _=>h0,fun _=>h⟩ (by omega)
  ·have hl:0<vo.length:=List.length_pos_iff.2 h
   (try refine zI zk350 F M ?_;clear F M a;try clear w);(repeat'(first|refine zA ?_;repeat intro nb|refine zC ?_;(first|refine kp (k:=112) (class0 b r0 r1 _) ?_|refine kp (k:=112) (class1 b r0 r1 _) ?_|refine kp (k:=110) (rgn_len r0 size fo _) ?_|refine kp (k:=110) (rgn_len r1 size vo _) ?_)|refine zB ?_ ?_<;>intro hc<;>try exact no hc|refine zH ?_ ?_<;>(intro hg;rw[hg];try exact no hg)));all_goals try refine zO fun a w F M=>?_
   all_goals skip
   (all_goals(refine zE F M ?_;exact⟨_,_,rfl,⟨by simp[firstC,h,h0,tupOf],rfl⟩,M.perms permsA⟩))
 ·have h0:=q2 (by omega)
  have h1:=q3 (by omega)
  (try refine zI zk350 F M ?_;clear F M a;try clear w);(repeat'(first|refine zA ?_;repeat intro nb|refine zC ?_;(first|refine kp (k:=112) (class0 b r0 r1 _) ?_|refine kp (k:=112) (class1 b r0 r1 _) ?_|refine kp (k:=110) (rgn_len r0 size fo _) ?_|refine kp (k:=110) (rgn_len r1 size vo _) ?_)|refine zB ?_ ?_<;>intro hc<;>try exact no hc|refine zH ?_ ?_<;>(intro hg;rw[hg];try exact no hg)));all_goals try refine zO fun a w F M=>?_
  all_goals skip
  (all_goals(refine zE F M ?_;exact⟨_,_,rfl,⟨by simp[firstC,h1,h0,tupOf],rfl⟩,M.perms permsA⟩))
def headL (fo vo:List Nat):List Value:=match fo,vo with
 | i::_,_=>[.int .i64 (i:Int),.int .i64 0,.bool true]
 | [],i::_=>[.int .i64 (i:Int),.int .i64 1,.bool true]
 | [],[]=>[.int .i64 0,.int .i64 0,.bool false]
theorem lhead:Spec 317 [ptr b] (lnP b r0 r1 size fo vo R) fun u L'=>u=.tuple (headL fo vo).toArray∧L'=lnP b r0 r1 size fo vo R:=by
 cases fo with
 | cons i fo =>
  refine zGz zk317 Tryz.func317 ?_;intro G;(repeat'(first|refine zA ?_;repeat intro nb|refine zC ?_;(first|refine acK (k:=350) (lfirst b r0 r1 size _ _ _) ?_;rintro u L' ⟨rfl,rfl⟩;simp only[firstC,ne_eq,reduceCtorEq,not_false_eq_true,if_true,not_true_eq_false,if_false]|refine kp (k:=112) (class0 b r0 r1 _) ?_|refine kp (k:=111) (rgn_peek r0 size (i::fo) 0 i rfl _) ?_)|refine zB ?_ ?_<;>intro hc<;>try exact no hc|refine zH ?_ ?_<;>(intro hg;rw[hg];try exact no hg)));all_goals exact zXz
 | nil =>
  cases vo with
  | cons i vo =>
   refine zGz zk317 Tryz.func317 ?_;intro G;(repeat'(first|refine zA ?_;repeat intro nb|refine zC ?_;(first|refine acK (k:=350) (lfirst b r0 r1 size _ _ _) ?_;rintro u L' ⟨rfl,rfl⟩;simp only[firstC,ne_eq,reduceCtorEq,not_false_eq_true,if_true,not_true_eq_false,if_false]|refine kp (k:=112) (class1 b r0 r1 _) ?_|refine kp (k:=111) (rgn_peek r1 size (i::vo) 0 i rfl _) ?_)|refine zB ?_ ?_<;>intro hc<;>try exact no hc|refine zH ?_ ?_<;>(intro hg;rw[hg];try exact no hg)));all_goals exact zXz
  | nil =>
   refine zGz zk317 Tryz.func317 ?_;intro G;(repeat'(first|refine zA ?_;repeat intro nb|refine zC ?_;(first|refine acK (k:=350) (lfirst b r0 r1 size _ _ _) ?_;rintro u L' ⟨rfl,rfl⟩;simp only[firstC,ne_eq,reduceCtorEq,not_false_eq_true,if_true,not_true_eq_false,if_false]|refine kpW (k:=112) (classN b _) ?_|refine kpW (k:=111) (rgn_peekN 0 (by omega) _) ?_)|refine zB ?_ ?_<;>intro hc<;>try exact no hc|refine zH ?_ ?_<;>(intro hg;rw[hg];try exact no hg)));all_goals exact zXz
theorem lpop0 (i:Nat):Spec 318 [ptr b] (lnP b r0 r1 size (i::fo) vo R) fun u L'=>u=.tuple #[.int .i64 (i:Int),.int .i64 0,.bool true]∧L'=lnP b r0 r1 size fo vo R:=by
 refine zGz zk318 Tryz.func318 ?_;intro G;(repeat'(first|refine zA ?_;repeat intro nb|refine zC ?_;(first|refine acK (k:=350) (lfirst b r0 r1 size _ _ _) ?_;rintro u L' ⟨rfl,rfl⟩;simp only[firstC,ne_eq,reduceCtorEq,not_false_eq_true,if_true,not_true_eq_false,if_false]|refine kp (k:=112) (class0 b r0 r1 _) ?_|refine kp (k:=268) (rgn_pop r0 size i fo _) ?_)|refine zB ?_ ?_<;>intro hc<;>try exact no hc|refine zH ?_ ?_<;>(intro hg;rw[hg];try exact no hg)));all_goals exact zXz
theorem lpop1 (i:Nat):Spec 318 [ptr b] (lnP b r0 r1 size [] (i::vo) R) fun u L'=>u=.tuple #[.int .i64 (i:Int),.int .i64 1,.bool true]∧L'=lnP b r0 r1 size [] vo R:=by
 refine zGz zk318 Tryz.func318 ?_;intro G;(repeat'(first|refine zA ?_;repeat intro nb|refine zC ?_;(first|refine acK (k:=350) (lfirst b r0 r1 size _ _ _) ?_;rintro u L' ⟨rfl,rfl⟩;simp only[firstC,ne_eq,reduceCtorEq,not_false_eq_true,if_true,not_true_eq_false,if_false]|refine kp (k:=112) (class1 b r0 r1 _) ?_|refine kp (k:=268) (rgn_pop r1 size i vo _) ?_)|refine zB ?_ ?_<;>intro hc<;>try exact no hc|refine zH ?_ ?_<;>(intro hg;rw[hg];try exact no hg)));all_goals exact zXz
theorem lahead (c:Nat) (hc:c≤1) (hf:fo.length≤4096) (hv:vo.length≤4096):Spec 190 [ptr b,.int .i64 c] (lnP b r0 r1 size fo vo R) fun u L'=>∃ h,u=sl h∧L'=ownT 3 natL 1 (sl h) (if c=0 then fo else fo++vo)::lnP b r0 r1 size fo vo R:=by
 have hcl:∀ R,Spec 112 [ptr b,.int .i64 c] (lnC b r0 r1::R) fun u L'=>u=ptr (if c=0 then r0 else r1)∧L'=lnC b r0 r1::R:=fun R=>by
  rcases (by omega:c=0∨c=1) with rfl|rfl
  ·exact class0 b r0 r1 R
  ·exact class1 b r0 r1 R
 refine zGo Tryz.func190 ?_;intro G w M a F
 replace M:=M.own_nil 3 1
 (try refine zI zk190 F M ?_;clear F M a;try clear w);(repeat'(first|refine zA ?_;repeat intro nb|refine zC ?_;refine kp (k:=112) (hcl _) ?_|refine zB ?_ ?_<;>intro hc<;>try exact no hc|refine zH ?_ ?_<;>(intro hg;rw[hg];try exact no hg)));all_goals try refine zO fun a w F M=>?_
 refine svLoop F M ((0,⟨none,0,0⟩):Nat × SlH) (fun k=>[(6,.int .i64 k.1),(5,sl k.2)]) (fun k=>[ownT 3 natL 1 (sl k.2) (if k.1=0 then [] else if k.1=1 then fo else fo++vo)]) (fun k=>k.1≤c+1) (fun k=>2 - k.1) [] (by simp) ?_
 (rintro⟨k,v⟩ q1 a w F M;(try simp only[zc,zn] at F M q1 ⊢))
 (try dsimp only at q1);(try dsimp only at M);(try dsimp only at F)
 have e1:(1:Nat)≠0:=by omega
 have e2:(2:Nat)≠0:=by omega
 have e3:(2:Nat)≠1:=by omega
 by_cases hk:k≤c
 ·rcases (by omega:k=0∨k=1) with rfl|rfl
  ·simp only[if_true] at M
   (try refine zI zk190 F M ?_;clear F M a;try clear w);(repeat'(first|refine zA ?_;repeat intro nb|refine zC ?_;(first|refine acK (k:=47) (lall0 b r0 r1 size fo vo _ hf) ?_;rintro u L' ⟨h,rfl,rfl⟩|refine ac_appendH (f:=natL) (v:=sl v) (xs:=[]) (ys:=fo) rfl rfl inferInstance rfl rfl (by(focus ((repeat (first|exact Pull.here|apply Pull.there));done))) inferInstance (gs_own (by(focus ((repeat (first|exact Pull.here|apply Pull.there));done)))) rfl rfl (by simp;omega) ?_;intro v3)|refine zB ?_ ?_<;>intro hc<;>try exact no hc|refine zH ?_ ?_<;>(intro hg;rw[hg];try exact no hg)));all_goals try refine zO fun a w F M=>?_
   exact sv_again F M (1,v3) kpA (by simp only[e1,if_true,if_false];exact permsA) (by dsimp only;omega) (by dsimp only;omega)
  ·simp only[e1,if_true,if_false] at M
   (try refine zI zk190 F M ?_;clear F M a;try clear w);(repeat'(first|refine zA ?_;repeat intro nb|refine zC ?_;(first|refine acK (k:=47) (lall1 b r0 r1 size fo vo _ hv) ?_;rintro u L' ⟨h,rfl,rfl⟩|refine ac_appendH (f:=natL) (v:=sl v) (xs:=fo) (ys:=vo) rfl rfl inferInstance rfl rfl (by(focus ((repeat (first|exact Pull.here|apply Pull.there));done))) inferInstance (gs_own (by(focus ((repeat (first|exact Pull.here|apply Pull.there));done)))) rfl rfl (by simp;omega) ?_;intro v3)|refine zB ?_ ?_<;>intro hc<;>try exact no hc|refine zH ?_ ?_<;>(intro hg;rw[hg];try exact no hg)));all_goals try refine zO fun a w F M=>?_
   exact sv_again F M (2,v3) kpA (by simp only[e2,e3,if_true,if_false];exact permsA) (by dsimp only;omega) (by dsimp only;omega)
 ·have hkc:k=c+1:=by omega
  have hw:(if k=0 then [] else if k=1 then fo else fo++vo)=if c=0 then fo else fo++vo:=by
   rcases (by omega:c=0∨c=1) with rfl|rfl<;>simp[hkc]
  rw[hw] at M
  (try refine zI zk190 F M ?_;clear F M a;try clear w);(repeat'(first|refine zA ?_;repeat intro nb|refine zB ?_ ?_<;>intro hc<;>try exact no hc|refine zH ?_ ?_<;>(intro hg;rw[hg];try exact no hg)));all_goals try refine zO fun a w F M=>?_
  (all_goals(refine zE F M ?_;exact⟨_,_,rfl,⟨v,rfl,rfl⟩,M.perms permsA⟩))
end
end
section
open Go.RowKit
abbrev En:=Int × Nat
def bkE (len:Nat) (E:List En) (k:Nat):List En:=E.filter fun e=>decide ((e.1 % (len:Int)).toNat=k)
abbrev bkF (x:SlH × List En):Asn:=ownT 323 enL 2 (sl x.1) x.2
structure BkZ where
 h:SlH
 B:List (SlH × List En)
structure BkOk (len:Nat) (E:List En) (z:BkZ):Prop where
 l:z.B.length=len
 p:1≤len∧len≤4096
 g:∀ k x,z.B[k]? = some x→x.2=bkE len E k
 s:E.length≤5000
abbrev bkQ (b:Nat) (n:Int) (h:SlH) (hs:List SlH) (R:List Asn):List Asn:=pt b [sl h,.int .i64 n] 220::ownT 321 shL 1 (sl h) hs::R
abbrev bkP (b:Nat) (n:Int) (z:BkZ) (R:List Asn):List Asn:=bkQ b n z.h (z.B.map (·.1)) (arrA bkF z.B::R)
def bkA (b len:Nat) (E:List En):Asn:=exA fun z:BkZ=>factA (BkOk len E z)::bkP b E.length z []
theorem bk_open {w:World} {L:List Asn} {b len:Nat} {E:List En} (M:Mem w (bkA b len E::L)):∃ z,BkOk len E z∧Mem w (bkP b E.length z L):=by
 obtain ⟨z,M⟩:=M.exo
 obtain ⟨h,M⟩:=Mem.factO M
 exact⟨z,h,M⟩
theorem bk_close {w:World} {L:List Asn} {b len:Nat} {E:List En} {z:BkZ} (h:BkOk len E z) (M:Mem w (bkP b E.length z L)):Mem w (bkA b len E::L):=Mem.exc z (Mem.fact h M)
section
variable (b len:Nat) (E:List En) (R:List Asn)
theorem bk_new (hl:1≤len∧len≤4096):Spec 70 [.int .i64 len] R fun u L'=>∃ b,u=ptr b∧L'=bkA b len []::R:=by
 obtain ⟨h1,h2⟩:=hl
 refine zGz zk70 Tryz.func70 ?_;intro G;(repeat'(first|refine zA ?_;repeat intro nb|refine zC ?_;refine ac_makeT (f:=shL) inferInstance nilH rfl rfl inferInstance rfl (m:=len) rfl rfl (by omega) (by omega) ?_;intro nm|refine zB ?_ ?_<;>intro hc<;>try exact no hc|refine zH ?_ ?_<;>(intro hg;rw[hg];try exact no hg)));all_goals try refine zO fun a w F M=>?_
 all_goals refine zE F M ?_
 refine⟨_,_,rfl,⟨nb,rfl,rfl⟩,?_⟩
 have M:=arr_rep (f:=bkF) (x:=(nilH,[])) (fun M=>M.own_nil 323 2) M len
 refine bk_close (z:=⟨⟨some ⟨nm,0,none⟩,len,len⟩,List.replicate len (nilH,[])⟩) ⟨by simp,⟨h1,h2⟩,fun k x hx=>?_,by simp⟩ (by simp only[List.map_replicate,bkP,bkQ];exact M.perms permsA)
 dsimp only at hx
 rw[List.getElem?_replicate] at hx
 split at hx
 ·obtain rfl:=Option.some.inj hx;rfl
 ·cases hx
theorem bk_len:Spec 52 [ptr b] (bkA b len E::R) fun u L'=>u=.int .i64 E.length∧L'=bkA b len E::R:=by
 intro G w M
 obtain ⟨z,hz,M2⟩:=bk_open (L:=R++G) M
 clear M;have M:=M2;clear M2
 (refine zGe Tryz.func52 ?_;intro a F;(try simp only[zc,zn] at M))
 (try refine zI zk52 F M ?_;clear F M a;try clear w);(repeat'(first|refine zA ?_;repeat intro nb|refine zB ?_ ?_<;>intro hc<;>try exact no hc|refine zH ?_ ?_<;>(intro hg;rw[hg];try exact no hg)));all_goals try refine zO fun a w F M=>?_
 all_goals refine zE F M ?_
 exact⟨_,_,rfl,⟨rfl,rfl⟩,bk_close hz (M.perms permsA)⟩
theorem bk_valid (e:Int) (he:0≤e∧e≤1099511627776):Spec 200 [ptr b,.int .i64 e] R fun u L'=>u=.bool true∧L'=R:=by
 obtain ⟨h1,h2⟩:=he
 refine zGz zk200 Tryz.func200 ?_;intro G;(repeat'(first|refine zA ?_;repeat intro nb|refine zB ?_ ?_<;>intro hc<;>try exact no hc|refine zH ?_ ?_<;>(intro hg;rw[hg];try exact no hg)));all_goals try refine zO fun a w F M=>?_
 all_goals refine zE F M ?_
 all_goals exact⟨_,_,rfl,⟨by simp[tupOf,h1,h2],rfl⟩,M.perms permsA⟩
theorem bk_at (e n:Int) (he:0≤e) (h:SlH) (hs:List SlH) (hl:hs.length=len) (h1:1≤len):Spec 201 [ptr b,.int .i64 e] (bkQ b n h hs R) fun u L'=>u=.pointer (some ⟨vb (sl h),vo (sl h)+(e % (len:Int)).toNat*1,none⟩)∧L'=bkQ b n h hs R:=by
 have hm0:0≤e % (len:Int):=Int.emod_nonneg _ (by omega)
 have hm1:e % (len:Int)<(len:Int):=Int.emod_lt_of_pos _ (by omega)
 subst hl
 refine zGz zk201 Tryz.func201 ?_;intro G;(repeat'(first|refine zA ?_;repeat intro nb|refine zB ?_ ?_<;>intro hc<;>try exact no hc|refine zH ?_ ?_<;>(intro hg;rw[hg];try exact no hg)));all_goals exact zXz
theorem bk_split {l:List (SlH × List En)} {k:Nat} {x:SlH × List En} (h:l[k]? = some x):l=l.take k++x::l.drop (k+1):=by
 rw[← drop_cons h,List.take_append_drop]
theorem bkE_app (E:List En) (x:En) (k:Nat):bkE len (E++[x]) k=bkE len E k++if (x.1 % (len:Int)).toNat=k then [x] else []:=by
 unfold bkE
 rw[List.filter_append]
 congr 1
 by_cases h:(x.1 % (len:Int)).toNat=k<;>simp[h]
theorem bk_put_ok {z:BkZ} (hz:BkOk len E z) (hs:E.length<5000) (x:En) (hd:SlH) (x0:SlH × List En) (h0:z.B[(x.1 % (len:Int)).toNat]? = some x0):BkOk len (E++[x]) ⟨z.h,z.B.take (x.1 % (len:Int)).toNat++(hd,x0.2++[x])::z.B.drop ((x.1 % (len:Int)).toNat+1)⟩:=by
 obtain ⟨k,hk⟩:∃ k,(x.1 % (len:Int)).toNat=k:=⟨_,rfl⟩
 rw[hk] at h0 ⊢
 have hlt:=(List.getElem?_eq_some_iff.1 h0).1
 have e:z.B.take k++(hd,x0.2++[x])::z.B.drop (k+1)=z.B.set k (hd,x0.2++[x]):=by rw[List.set_eq_take_append_cons_drop,if_pos hlt]
 rw[e]
 refine⟨by simpa using hz.l,hz.p,fun j y hy=>?_,by simp;omega⟩
 rw[bkE_app,hk]
 simp only at hy
 rw[List.getElem?_set] at hy
 by_cases hj:k=j
 ·subst hj
  rw[if_pos rfl,if_pos hlt] at hy
  obtain rfl:=(Option.some.inj hy).symm
  simp only[if_true]
  rw[hz.g k x0 h0]
 ·rw[if_neg hj] at hy
  rw[if_neg hj,List.append_nil]
  exact hz.g j y hy
theorem bk_put (x:En) (hx:0≤x.1∧x.1≤1099511627776) (hs:E.length<5000):Spec 136 [ptr b,.int .i64 x.1,.int .i64 (x.2:Int)] (bkA b len E::R) fun u L'=>u=.bool true∧L'=bkA b len (E++[x])::R:=by
 intro G w M
 obtain ⟨z,hz,M2⟩:=bk_open (L:=R++G) M
 clear M;have M:=M2;clear M2
 have hp:=hz.p
 have hl:=hz.l
 have hm0:0≤x.1 % (len:Int):=Int.emod_nonneg _ (by omega)
 have hm1:x.1 % (len:Int)<(len:Int):=Int.emod_lt_of_pos _ (by omega)
 obtain ⟨k,hk⟩:∃ k,(x.1 % (len:Int)).toNat=k:=⟨_,rfl⟩
 have hkl:k<z.B.length:=by omega
 obtain ⟨x0,h0⟩:∃ x0,z.B[k]? = some x0:=⟨z.B[k],by simp[hkl]⟩
 have hB:=bk_split h0
 obtain ⟨h0h,E0⟩:=x0
 have hgE:=hz.g k _ h0
 have hEl:E0.length≤E.length:=by simp only at hgE;rw[hgE];exact List.length_filter_le _ _
 have hat:=fun R=>bk_at b len R x.1 E.length hx.1 z.h (z.B.map (·.1)) (by simp[hl]) hp.1
 rw[hk] at hat
 have hm:(z.B.map (·.1))[k]? = some h0h:=by simp[h0]
 have M:=M.perms (permsA:Perms _ (arrA bkF z.B::pt b [sl z.h,.int .i64 E.length] 220::ownT 321 shL 1 (sl z.h) (z.B.map (·.1))::(R++G)))
 rw[show arrA bkF z.B=arrA bkF (z.B.take k++(h0h,E0)::z.B.drop (k+1)) by rw[← hB]] at M
 have M:=arr_open M
 (refine zGe Tryz.func136 ?_;intro a F;(try simp only[zc,zn] at M))
 (try refine zI zk136 F M ?_;clear F M a;try clear w);(repeat'(first|refine zA ?_;repeat intro nb|refine zC ?_;(first|refine kpW (k:=200) (bk_valid b _ x.1 hx) ?_|refine kp (k:=201) (hat _) ?_|refine ac_appendH (f:=enL) (v:=sl h0h) (xs:=E0) (ys:=[x]) rfl rfl inferInstance rfl rfl (by(focus ((repeat (first|exact Pull.here|apply Pull.there));done))) inferInstance (gs_own (by(focus ((repeat (first|exact Pull.here|apply Pull.there));done)))) rfl rfl (by simp;omega) ?_;intro v3|refine ac_storeE (f:=shL) (v:=sl z.h) (j:=k) (k:=1) (i:=0) (xs:=z.B.map (·.1)) rfl rfl inferInstance rfl rfl hm inferInstance rfl v3 rfl (by(focus ((repeat (first|exact Rep.here|apply Rep.there));done))) ?_)|refine zB ?_ ?_<;>intro hc<;>try exact no hc|refine zH ?_ ?_<;>(intro hg;rw[hg];try exact no hg)));all_goals try refine zO fun a w F M=>?_
 all_goals refine zE F M ?_
 have hok:=bk_put_ok len E hz hs x v3 (h0h,E0) (by rw[hk];exact h0)
 rw[hk] at hok
 have e1:(E.length:Int)+1=(((E++[x]).length:Nat):Int):=by simp
 have e2:(z.B.map (·.1)).set k v3=(z.B.take k++(v3,E0++[x])::z.B.drop (k+1)).map (·.1):=by
  have:z.B.take k++(v3,E0++[x])::z.B.drop (k+1)=z.B.set k (v3,E0++[x]):=by rw[List.set_eq_take_append_cons_drop,if_pos hkl]
  rw[this,List.map_set]
 rw[e1,e2] at M
 have M:=arr_close (f:=bkF) (l1:=z.B.take k) (l2:=z.B.drop (k+1)) (x:=(v3,E0++[x])) (M.perms (permsA:Perms _ (bkF (v3,E0++[x])::arrA bkF (z.B.take k++z.B.drop (k+1))::bkQ b _ z.h _ (R++G))))
 exact⟨_,_,rfl,⟨rfl,rfl⟩,bk_close hok (M.perms permsA)⟩
theorem bk_due_ok {z:BkZ} (hz:BkOk len E z) (e:Int) (hd:SlH) (x0:SlH × List En) (h0:z.B[(e % (len:Int)).toNat]? = some x0):BkOk len (E.filter fun x=>decide (x.1≠e)) ⟨z.h,z.B.take (e % (len:Int)).toNat++(hd,x0.2.filter fun x=>decide (x.1≠e))::z.B.drop ((e % (len:Int)).toNat+1)⟩:=by
 obtain ⟨k,hk⟩:∃ k,(e % (len:Int)).toNat=k:=⟨_,rfl⟩
 rw[hk] at h0 ⊢
 have hlt:=(List.getElem?_eq_some_iff.1 h0).1
 have e1:z.B.take k++(hd,x0.2.filter fun x=>decide (x.1≠e))::z.B.drop (k+1)=z.B.set k (hd,x0.2.filter fun x=>decide (x.1≠e)):=by rw[List.set_eq_take_append_cons_drop,if_pos hlt]
 rw[e1]
 refine⟨by simpa using hz.l,hz.p,fun j y hy=>?_,Nat.le_trans (List.length_filter_le _ _) hz.s⟩
 simp only at hy
 rw[List.getElem?_set] at hy
 by_cases hj:k=j
 ·subst hj
  rw[if_pos rfl,if_pos hlt] at hy
  obtain rfl:=(Option.some.inj hy).symm
  simp only
  rw[hz.g k x0 h0]
  simp only[bkE,List.filter_filter,Bool.and_comm]
 ·rw[if_neg hj] at hy
  rw[hz.g j y hy]
  simp only[bkE,List.filter_filter]
  apply List.filter_congr
  intro x _
  by_cases hx:x.1=e
  ·have:¬(x.1 % (len:Int)).toNat=j:=by rw[hx,hk];exact hj
   simp[this]
  ·simp[hx]
theorem bk_due_all {z:BkZ} (hz:BkOk len E z) (e:Int) (x0:SlH × List En) (h0:z.B[(e % (len:Int)).toNat]? = some x0):(x0.2.filter fun x=>decide (x.1=e))=E.filter fun x=>decide (x.1=e):=by
 rw[hz.g _ x0 h0]
 simp only[bkE,List.filter_filter]
 apply List.filter_congr
 intro x _
 by_cases hx:x.1=e<;>simp[hx]
def dueA (b3 b5:Nat) (e:Int) (ys:List En):Asn:=exA fun ho:SlH=>[pt b3 [.int .i64 e] 3,pt b5 [sl ho] 44,ownT 3 natL 1 (sl ho) ((ys.filter fun x=>decide (x.1=e)).map (·.2))]
theorem due_close {w:World} {L:List Asn} {b3 b5:Nat} {e:Int} {ys:List En} {ho:SlH} (M:Mem w (pt b3 [.int .i64 e] 3::pt b5 [sl ho] 44::ownT 3 natL 1 (sl ho) ((ys.filter fun x=>decide (x.1=e)).map (·.2))::L)):Mem w (dueA b3 b5 e ys::L):=Mem.exc (f:=fun ho:SlH=>[pt b3 [.int .i64 e] 3,pt b5 [sl ho] 44,ownT 3 natL 1 (sl ho) ((ys.filter fun x=>decide (x.1=e)).map (·.2))]) ho M
theorem len_split (e:Int):∀ E:List En,(E.filter fun x=>decide (x.1=e)).length+(E.filter fun x=>decide (x.1≠e)).length=E.length
 | []=>rfl
 | x::E=>by
  have:=len_split e E
  by_cases h:x.1=e
  ·simp[h] at this ⊢;omega
  ·simp[h] at this ⊢;omega
theorem due1_spec (b3 b5:Nat) (e:Int) (ys:List En) (x:En) (hl:ys.length≤5000):Spec 314 [enV x,ptr b3,ptr b5] (dueA b3 b5 e ys::R) fun u L'=>u=.bool (decide (x.1=e))∧L'=dueA b3 b5 e (ys++[x])::R:=by
 intro G w M
 obtain ⟨ho,M2⟩:=Mem.exo (show Mem w (dueA b3 b5 e ys::(R++G)) from M)
 clear M;have M:=M2;clear M2
 simp only[zc,zn] at M
 have hfl:=List.length_filter_le (fun x:En=>decide (x.1=e)) ys
 by_cases hx:x.1=e
 ·have hne:¬(x.1≠e):=by omega
  (refine zGe Tryz.func314 ?_;intro a F;(try simp only[zc,zn] at M))
  (try refine zI zk314 F M ?_;clear F M a;try clear w);(repeat'(first|refine zA ?_;repeat intro nb|refine zC ?_;refine ac_appendH (f:=natL) (v:=sl ho) (xs:=(ys.filter fun x=>decide (x.1=e)).map (·.2)) (ys:=[x.2]) rfl rfl inferInstance rfl rfl (by(focus ((repeat (first|exact Pull.here|apply Pull.there));done))) inferInstance (gs_own (by(focus ((repeat (first|exact Pull.here|apply Pull.there));done)))) rfl rfl (by simp;omega) ?_;intro v3|refine zB ?_ ?_<;>intro hc<;>try exact no hc|refine zH ?_ ?_<;>(intro hg;rw[hg];try exact no hg)));all_goals try refine zO fun a w F M=>?_
  all_goals refine zE F M ?_
  have e1:((ys.filter fun x:En=>decide (x.1=e)).map (·.2))++[x.2]=((ys++[x]).filter fun x:En=>decide (x.1=e)).map (·.2):=by simp[hx]
  rw[e1] at M
  exact⟨_,_,rfl,⟨by simp[hx,tupOf],rfl⟩,due_close (M.perms permsA)⟩
 ·(refine zGe Tryz.func314 ?_;intro a F;(try simp only[zc,zn] at M))
  (try refine zI zk314 F M ?_;clear F M a;try clear w);(repeat'(first|refine zA ?_;repeat intro nb|refine zB ?_ ?_<;>intro hc<;>try exact no hc|refine zH ?_ ?_<;>(intro hg;rw[hg];try exact no hg)));all_goals try refine zO fun a w F M=>?_
  all_goals refine zE F M ?_
  have e1:((ys.filter fun x:En=>decide (x.1=e)).map (·.2))=((ys++[x]).filter fun x:En=>decide (x.1=e)).map (·.2):=by simp[hx]
  rw[e1] at M
  exact⟨_,_,rfl,⟨by simp[hx,tupOf],rfl⟩,due_close (M.perms permsA)⟩
theorem bk_due (e:Int) (he:0≤e∧e≤1099511627776):Spec 264 [ptr b,.int .i64 e] (bkA b len E::R) fun u L'=>∃ h,u=sl h∧L'=ownT 3 natL 1 (sl h) ((E.filter fun x=>decide (x.1=e)).map (·.2))::bkA b len (E.filter fun x=>decide (x.1≠e))::R:=by
 intro G w M
 obtain ⟨z,hz,M2⟩:=bk_open (L:=R++G) M
 clear M;have M:=M2;clear M2
 have hp:=hz.p
 have hl:=hz.l
 have hEs:=hz.s
 have hm0:0≤e % (len:Int):=Int.emod_nonneg _ (by omega)
 have hm1:e % (len:Int)<(len:Int):=Int.emod_lt_of_pos _ (by omega)
 obtain ⟨k,hk⟩:∃ k,(e % (len:Int)).toNat=k:=⟨_,rfl⟩
 have hkl:k<z.B.length:=by omega
 obtain ⟨x0,h0⟩:∃ x0,z.B[k]? = some x0:=⟨z.B[k],by simp[hkl]⟩
 have hB:=bk_split h0
 obtain ⟨h0h,E0⟩:=x0
 have hgE:=hz.g k _ h0
 have hEl:E0.length≤E.length:=by simp only at hgE;rw[hgE];exact List.length_filter_le _ _
 have hat:=fun R=>bk_at b len R e E.length he.1 z.h (z.B.map (·.1)) (by simp[hl]) hp.1
 rw[hk] at hat
 have hm:(z.B.map (·.1))[k]? = some h0h:=by simp[h0]
 have hall:=bk_due_all len E hz e (h0h,E0) (by rw[hk];exact h0)
 simp only at hall
 have M:=M.perms (permsA:Perms _ (arrA bkF z.B::pt b [sl z.h,.int .i64 E.length] 220::ownT 321 shL 1 (sl z.h) (z.B.map (·.1))::(R++G)))
 rw[show arrA bkF z.B=arrA bkF (z.B.take k++(h0h,E0)::z.B.drop (k+1)) by rw[← hB]] at M
 have M:=arr_open M
 have M:=M.own_nil 3 1
 have hdel:∀ (b3 b5:Nat) (R:List Asn),Spec 313 [sl h0h,.func (.func 314) #[] #[ptr b3,ptr b5]] (bkF (h0h,E0)::pt b3 [.int .i64 e] 3::pt b5 [.slice none 0 0] 44::own 3 1 (.slice none 0 0) 0 []::R) fun u L'=>∃ h' ho,u=sl h'∧L'=bkF (h',E0.filter fun x=>decide (x.1≠e))::pt b3 [.int .i64 e] 3::pt b5 [sl ho] 44::ownT 3 natL 1 (sl ho) ((E.filter fun x=>decide (x.1=e)).map (·.2))::R:=by
  intro b3 b5 R G w M
  have M:=Mem.exc (f:=fun ho:SlH=>[pt b3 [.int .i64 e] 3,pt b5 [sl ho] 44,ownT 3 natL 1 (sl ho) ((([]:List En).filter fun x=>decide (x.1=e)).map (·.2))]) nilH (M.perms (permsA:Perms _ ([pt b3 [.int .i64 e] 3,pt b5 [.slice none 0 0] 44,own 3 1 (.slice none 0 0) 0 []]++(bkF (h0h,E0)::(R++G)))))
  refine(del_en_del 314 #[ptr b3,ptr b5] h0h E0 (fun x=>decide (x.1=e)) (dueA b3 b5 e) (fun j x hx R=>?_) (by omega) R G w (M.perms permsA)).mono ?_
  ·have:=due1_spec R b3 b5 e (E0.take j) x (by rw[List.length_take];omega)
   have e2:E0.take (j+1)=E0.take j++[x]:=by rw[List.take_add_one,hx];rfl
   rw[e2];exact this
  ·rintro e' w' ⟨v,L',k1,⟨h',k2,rfl⟩,M'⟩
   obtain ⟨ho,M'⟩:=Mem.exo (show Mem w' (dueA b3 b5 e E0::(ownT 323 enL 2 (sl h') (E0.filter fun x=>!decide (x.1=e))::(R++G))) from M'.perms permsA)
   have e3:(E0.filter fun x=>!decide (x.1=e))=E0.filter fun x=>decide (x.1≠e):=by congr 1;funext x;simp
   rw[e3,hall] at M'
   exact⟨v,_,k1,⟨h',ho,k2,rfl⟩,M'.perms permsA⟩
 have hdl:((E.filter fun x=>decide (x.1=e)).map (·.2)).length≤E.length:=by simp;exact List.length_filter_le _ _
 (refine zGe Tryz.func264 ?_;intro a F;(try simp only[zc,zn] at M))
 (try refine zI zk264 F M ?_;clear F M a;try clear w);(repeat'(first|refine zA ?_;repeat intro nb|refine zC ?_;(first|refine kpW (k:=200) (bk_valid b _ e he) ?_|refine kp (k:=201) (hat _) ?_|refine acK (k:=313) (hdel _ _ _) ?_;rintro u L' ⟨h',ho,rfl,rfl⟩|refine ac_storeE (f:=shL) (v:=sl z.h) (j:=k) (k:=1) (i:=0) (xs:=z.B.map (·.1)) rfl rfl inferInstance rfl rfl hm inferInstance rfl h' rfl (by(focus ((repeat (first|exact Rep.here|apply Rep.there));done))) ?_)|refine zB ?_ ?_<;>intro hc<;>try exact no hc|refine zH ?_ ?_<;>(intro hg;rw[hg];try exact no hg)));all_goals try refine zO fun a w F M=>?_
 all_goals refine zE F M ?_
 have hok:=bk_due_ok len E hz e h' (h0h,E0) (by rw[hk];exact h0)
 rw[hk] at hok
 have hls:=len_split e E
 have e1:(E.length:Int) - (((E.filter fun x=>decide (x.1=e)).map (·.2)).length:Nat)=(((E.filter fun x=>decide (x.1≠e)).length:Nat):Int):=by rw[List.length_map];omega
 have e2:(z.B.map (·.1)).set k h'=(z.B.take k++(h',E0.filter fun x=>decide (x.1≠e))::z.B.drop (k+1)).map (·.1):=by
  have:z.B.take k++(h',E0.filter fun x=>decide (x.1≠e))::z.B.drop (k+1)=z.B.set k (h',E0.filter fun x=>decide (x.1≠e)):=by rw[List.set_eq_take_append_cons_drop,if_pos hkl]
  rw[this,List.map_set]
 rw[e1,e2] at M
 have M:=arr_close (f:=bkF) (l1:=z.B.take k) (l2:=z.B.drop (k+1)) (x:=(h',E0.filter fun x=>decide (x.1≠e))) (M.perms (permsA:Perms _ (bkF (h',E0.filter fun x=>decide (x.1≠e))::arrA bkF (z.B.take k++z.B.drop (k+1))::ownT 3 natL 1 (sl ho) ((E.filter fun x=>decide (x.1=e)).map (·.2))::bkQ b _ z.h _ (R++G))))
 have M:=bk_close (L:=ownT 3 natL 1 (sl ho) ((E.filter fun x=>decide (x.1=e)).map (·.2))::(R++G)) hok (M.perms permsA)
 exact⟨_,_,rfl,⟨ho,rfl,rfl⟩,M.perms permsA⟩
end
end
section
open Go.RowKit
def prL (p:Nat × Nat):List Value:=[.int .i64 (p.1:Int),.int .i64 (p.2:Int)]
instance:EL prL 2:=⟨fun _=>rfl,fun x u h=>by simp[prL] at h;rcases h with rfl|rfl<;>rfl⟩
abbrev prV (p:Nat × Nat):Value:=.agg (prL p).toArray
def rqL (p:Nat × Int):List Value:=[.int .i64 (p.1:Int),.int .u64 p.2]
instance:EL rqL 2:=⟨fun _=>rfl,fun x u h=>by simp[rqL] at h;rcases h with rfl|rfl<;>rfl⟩
abbrev rqV (p:Nat × Int):Value:=.agg (rqL p).toArray
structure rgpH where
 h:SlH
 S:List (Nat × Nat)
 f:Nat
structure rgpOk (size:Nat) (q:List (Nat × Nat)) (z:rgpH):Prop where
 n:q.length≤z.S.length
 s:z.S.length≤size
 p:1≤size∧size≤4096
 f:z.f<z.S.length∨(z.f=0∧z.S=[])
 g:∀ i,i<q.length→z.S[(z.f+i) % z.S.length]? = q[i]?
abbrev rgpP (b size:Nat) (q:List (Nat × Nat)) (z:rgpH):List Asn:=[pt b [sl z.h,.int .i64 size,.int .i64 z.f,.int .i64 q.length] 230,ownT 77 prL 2 (sl z.h) z.S]
def rgpA (b size:Nat) (q:List (Nat × Nat)):Asn:=exA fun z:rgpH=>factA (rgpOk size q z)::rgpP b size q z
theorem rgp_open {w:World} {L:List Asn} {b size:Nat} {q:List (Nat × Nat)} (M:Mem w (rgpA b size q::L)):∃ z,rgpOk size q z∧Mem w (rgpP b size q z++L):=by
 obtain ⟨z,M⟩:=M.exo
 obtain ⟨h,M⟩:=Mem.factO M
 exact⟨z,h,M⟩
theorem rgp_close {w:World} {L:List Asn} {b size:Nat} {q:List (Nat × Nat)} {z:rgpH} (h:rgpOk size q z) (M:Mem w (rgpP b size q z++L)):Mem w (rgpA b size q::L):=Mem.exc z (Mem.fact h M)
theorem rgp_len (b size:Nat) (q:List (Nat × Nat)) (R:List Asn):Spec 113 [ptr b] (rgpA b size q::R) fun u L'=>u=.int .i64 q.length∧L'=rgpA b size q::R:=by
 (intro G w M;obtain ⟨z,hz,M2⟩:=rgp_open (L:=R++G) M;clear M;have M:=M2;clear M2;have h1:=hz.n;have h2:=hz.s;have h3:=hz.p;simp only[zc,zn] at M)
 (refine zGe Tryz.func113 ?_;intro a F;(try simp only[zc,zn] at M))
 (try refine zI zk113 F M ?_;clear F M a;try clear w);(repeat'(first|refine zA ?_;repeat intro nb|refine zB ?_ ?_<;>intro hc<;>try exact no hc|refine zH ?_ ?_<;>(intro hg;rw[hg];try exact no hg)));all_goals try refine zO fun a w F M=>?_
 (all_goals(refine zE F M ?_;exact⟨_,_,rfl,⟨rfl,rfl⟩,rgp_close hz (M.perms permsA)⟩))
theorem rgp_len0 (b:Nat) (v0 v1 v2:Value) (n:Int) (R:List Asn):Spec 113 [ptr b] (pt b [v0,v1,v2,.int .i64 n] 230::R) fun u L'=>u=.int .i64 n∧L'=pt b [v0,v1,v2,.int .i64 n] 230::R:=by
 refine zGz zk113 Tryz.func113 ?_;intro G;(repeat'(first|refine zA ?_;repeat intro nb|refine zB ?_ ?_<;>intro hc<;>try exact no hc|refine zH ?_ ?_<;>(intro hg;rw[hg];try exact no hg)));all_goals exact zXz
theorem rgp_free (b size:Nat) (q:List (Nat × Nat)) (R:List Asn):Spec 203 [ptr b] (rgpA b size q::R) fun u L'=>u=.int .i64 ((size:Int) - q.length)∧L'=rgpA b size q::R:=by
 (intro G w M;obtain ⟨z,hz,M2⟩:=rgp_open (L:=R++G) M;clear M;have M:=M2;clear M2;have h1:=hz.n;have h2:=hz.s;have h3:=hz.p;simp only[zc,zn] at M)
 (refine zGe Tryz.func203 ?_;intro a F;(try simp only[zc,zn] at M))
 (try refine zI zk203 F M ?_;clear F M a;try clear w);(repeat'(first|refine zA ?_;repeat intro nb|refine zB ?_ ?_<;>intro hc<;>try exact no hc|refine zH ?_ ?_<;>(intro hg;rw[hg];try exact no hg)));all_goals try refine zO fun a w F M=>?_
 (all_goals(refine zE F M ?_;exact⟨_,_,rfl,⟨rfl,rfl⟩,rgp_close hz (M.perms permsA)⟩))
theorem rgp_peekO (b size:Nat) (q:List (Nat × Nat)) (z:rgpH) (hz:rgpOk size q z) (i:Nat) (x:Nat × Nat) (hx:q[i]? = some x) (R:List Asn):Spec 114 [ptr b,.int .i64 i] (rgpP b size q z++R) fun u L'=>u=.tuple [prV x,.bool true].toArray∧L'=rgpP b size q z++R:=by
 intro G w M
 have h1:=hz.n
 have h2:=hz.s
 have h3:=hz.p
 have hi:i<q.length:=(List.getElem?_eq_some_iff.1 hx).1
 have hg:=hz.g i hi
 rw[hx] at hg
 have hzf:z.f<z.S.length:=by rcases hz.f with h|⟨_,h⟩;(· exact h);(exfalso;rw[h,List.length_nil] at h1;omega)
 have hmod:(((z.f:Int)+(i:Int)) % (z.S.length:Int)).toNat=(z.f+i) % z.S.length:=by
  rw[show(z.f:Int)+(i:Int)=((z.f+i:Nat):Int) by omega,← Int.natCast_emod,Int.toNat_natCast]
 have hg':z.S[(((z.f:Int)+(i:Int)) % (z.S.length:Int)).toNat]? = some x:=by rw[hmod];exact hg
 have hm0:0≤((z.f:Int)+(i:Int)) % (z.S.length:Int):=Int.emod_nonneg _ (by omega)
 have hm1:((z.f:Int)+(i:Int)) % (z.S.length:Int)<(z.S.length:Int):=Int.emod_lt_of_pos _ (by omega)
 simp only[zc,zn] at M
 (refine zGe Tryz.func114 ?_;intro a F;(try simp only[zc,zn] at M))
 (try refine zI zk114 F M ?_;clear F M a;try clear w);(repeat'(first|refine zA ?_;repeat intro nb|refine zC ?_;refine kp (k:=113) (rgp_len0 _ _ _ _ _ _) ?_|refine zB ?_ ?_<;>intro hc<;>try exact no hc|refine zH ?_ ?_<;>(intro hg;rw[hg];try exact no hg)));all_goals exact zXz
theorem rgp_peek (b size:Nat) (q:List (Nat × Nat)) (i:Nat) (x:Nat × Nat) (hx:q[i]? = some x) (R:List Asn):Spec 114 [ptr b,.int .i64 i] (rgpA b size q::R) fun u L'=>u=.tuple [prV x,.bool true].toArray∧L'=rgpA b size q::R:=by
 intro G w M
 obtain ⟨z,hz,M⟩:=rgp_open M
 refine(rgp_peekO b size q z hz i x hx R G w (by simpa using M)).mono ?_
 rintro e w' ⟨u,L',k1,⟨k2,rfl⟩,k3⟩
 exact⟨u,_,k1,⟨k2,rfl⟩,rgp_close hz (by simpa using k3)⟩
theorem rgp_all (b size:Nat) (q:List (Nat × Nat)) (hq:q.length≤4096) (R:List Asn):Spec 48 [ptr b] (rgpA b size q::R) fun u L'=>∃ h,u=sl h∧L'=ownT 77 prL 2 (sl h) q::rgpA b size q::R:=by
 refine zGo Tryz.func48 ?_;intro G w M a F
 replace M:=M.own_nil 77 2
 (try refine zI zk48 F M ?_;clear F M a;try clear w);(repeat'(first|refine zA ?_;repeat intro nb|refine zC ?_;refine kp (k:=113) (rgp_len b size q _) ?_|refine zB ?_ ?_<;>intro hc<;>try exact no hc|refine zH ?_ ?_<;>(intro hg;rw[hg];try exact no hg)));all_goals try refine zO fun a w F M=>?_
 refine svLoop F M ((0,⟨none,0,0⟩):Nat × SlH) (fun z=>[(9,.int .i64 z.1),(3,sl z.2)]) (fun z=>[ownT 77 prL 2 (sl z.2) (q.take z.1)]) (fun z=>z.1≤q.length) (fun z=>q.length - z.1) [4,5,6] (by simp) ?_
 (rintro⟨k,v⟩ q1 a w F M;(try simp only[zc,zn] at F M q1 ⊢))
 try simp only at q1
 by_cases hlt:k<q.length
 ·obtain ⟨x,hx⟩:∃ x,q[k]? = some x:=⟨q[k],by simp[hlt]⟩
  have htk:q.take (k+1)=q.take k++[x]:=by rw[List.take_add_one,hx];rfl
  (try refine zI zk48 F M ?_;clear F M a;try clear w);(repeat'(first|refine zA ?_;repeat intro nb|refine zC ?_;(first|refine kp (k:=114) (rgp_peek b size q k x hx _) ?_|refine ac_appendH (f:=prL) (xs:=q.take k) (ys:=[x]) rfl rfl inferInstance rfl rfl (by(focus ((repeat (first|exact Pull.here|apply Pull.there));done))) inferInstance (gs_own (by(focus ((repeat (first|exact Pull.here|apply Pull.there));done)))) rfl rfl (by simp;omega) ?_;intro v3)|refine zB ?_ ?_<;>intro hc<;>try exact no hc|refine zH ?_ ?_<;>(intro hg;rw[hg];try exact no hg)));all_goals try refine zO fun a w F M=>?_
  exact sv_again F M (k+1,v3) kpA (by simp only;rw[htk];exact permsA) (by simp only;omega) (by simp only;omega)
 ·rw[List.take_of_length_le (by omega)] at M
  (try refine zI zk48 F M ?_;clear F M a;try clear w);(repeat'(first|refine zA ?_;repeat intro nb|refine zB ?_ ?_<;>intro hc<;>try exact no hc|refine zH ?_ ?_<;>(intro hg;rw[hg];try exact no hg)));all_goals try refine zO fun a w F M=>?_
  (all_goals(refine zE F M ?_;exact⟨_,_,rfl,⟨v,rfl,rfl⟩,M.perms permsA⟩))
theorem rgp_new (size:Nat) (h:1≤size∧size≤4096) (R:List Asn):Spec 75 [.int .i64 size] R fun u L'=>∃ b,u=ptr b∧L'=rgpA b size []::R:=by
 obtain ⟨h1,h2⟩:=h
 refine zGz zk75 Tryz.func75 ?_;intro G;(repeat'(first|refine zA ?_;repeat intro nb|refine zB ?_ ?_<;>intro hc<;>try exact no hc|refine zH ?_ ?_<;>(intro hg;rw[hg];try exact no hg)));all_goals try refine zO fun a w F M=>?_
 all_goals refine zE F M ?_
 refine⟨_,_,rfl,⟨nb,rfl,rfl⟩,?_⟩
 replace M:=M.own_nil 77 2
 exact rgp_close (z:=⟨⟨none,0,0⟩,[],0⟩) ⟨by simp,by simp,⟨h1,h2⟩,.inr ⟨rfl,rfl⟩,fun i hi=>by simp at hi⟩ (M.perms permsA)
theorem rgp_pop_ok {size:Nat} {x:Nat × Nat} {r:List (Nat × Nat)} {z:rgpH} (h:rgpOk size (x::r) z):rgpOk size r ⟨z.h,z.S.set z.f (0,0),(z.f+1) % z.S.length⟩:=by
 have h1:=h.n
 simp only[List.length_cons] at h1
 have hf:z.f<z.S.length:=by rcases h.f with h|⟨_,h⟩;(· exact h);(exfalso;rw[h,List.length_nil] at h1;omega)
 refine⟨by simp only[List.length_set];omega,by simpa using h.s,h.p,.inl (by simp only[List.length_set];exact Nat.mod_lt _ (by omega)),fun i hi=>?_⟩
 have hg:=h.g (i+1) (by simp;omega)
 simp only[List.length_set,List.getElem?_cons_succ] at hg ⊢
 have e:((z.f+1) % z.S.length+i) % z.S.length=(z.f+(i+1)) % z.S.length:=by rw[Nat.mod_add_mod];congr 1;omega
 rw[e,List.getElem?_set_ne,hg]
 intro hh
 have:(z.f+(i+1)) % z.S.length=z.f:=hh.symm
 by_cases hlt:z.f+(i+1)<z.S.length
 ·rw[Nat.mod_eq_of_lt hlt] at this;omega
 ·rw[Nat.mod_eq_sub_mod (by omega),Nat.mod_eq_of_lt (by omega)] at this;omega
theorem rgp_pop (b size:Nat) (x:Nat × Nat) (r:List (Nat × Nat)) (R:List Asn):Spec 270 [ptr b] (rgpA b size (x::r)::R) fun u L'=>u=.tuple [prV x,.bool true].toArray∧L'=rgpA b size r::R:=by
 (intro G w M;obtain ⟨z,hz,M2⟩:=rgp_open (L:=R++G) M;clear M;have M:=M2;clear M2;have h1:=hz.n;have h2:=hz.s;have h3:=hz.p;simp only[zc,zn] at M)
 have hpk:=rgp_peekO b size (x::r) z hz 0 x rfl
 have hok:=rgp_pop_ok hz
 have hsl:(z.S.set z.f ((0,0))).length=z.S.length:=List.length_set
 simp only[List.length_cons] at h1
 have hf:z.f<z.S.length:=by rcases hz.f with h|⟨_,h⟩;(· exact h);(exfalso;rw[h,List.length_nil] at h1;omega)
 obtain ⟨u0,hu0⟩:∃ u0,z.S[z.f]? = some u0:=⟨z.S[z.f],by simp[hf]⟩
 have e1:((z.f:Int)+1) % (z.S.length:Int)=(((z.f+1) % z.S.length:Nat):Int):=by rw[Int.natCast_emod];rfl
 have e2:(((x::r).length:Nat):Int) - 1=(r.length:Int):=by simp
 have e3:(((x::r).length:Nat):Int)=(r.length:Int)+1:=by simp
 (refine zGe Tryz.func270 ?_;intro a F;(try simp only[zc,zn] at M))
 (try refine zI zk270 F M ?_;clear F M a;try clear w);(repeat'(first|refine zA ?_;repeat intro nb|refine zC ?_;(first|refine kp (k:=114) (hpk _) ?_|refine ac_storeEA (f:=prL) (v:=sl z.h) (j:=z.f) (k:=2) rfl rfl inferInstance ((0,0)) rfl hu0 inferInstance (by(focus ((repeat (first|exact Rep.here|apply Rep.there));done))) ?_|refine ac_storeE (f:=prL) (v:=sl z.h) (j:=z.f) (k:=2) (i:=0) (xs:=z.S) rfl rfl inferInstance rfl rfl hu0 inferInstance rfl ((0,0)) rfl (by(focus ((repeat (first|exact Rep.here|apply Rep.there));done))) ?_)|refine zB ?_ ?_<;>intro hc<;>try exact no hc|refine zH ?_ ?_<;>(intro hg;rw[hg];try exact no hg)));all_goals try refine zO fun a w F M=>?_
 all_goals refine zE F M ?_
 simp only[List.length_set] at M
 rw[e1,e2] at M
 exact⟨_,_,rfl,⟨rfl,rfl⟩,rgp_close hok (M.perms permsA)⟩
structure rgqH where
 h:SlH
 S:List (Nat × Int)
 f:Nat
structure rgqOk (size:Nat) (q:List (Nat × Int)) (z:rgqH):Prop where
 n:q.length≤z.S.length
 s:z.S.length≤size
 p:1≤size∧size≤4096
 f:z.f<z.S.length∨(z.f=0∧z.S=[])
 g:∀ i,i<q.length→z.S[(z.f+i) % z.S.length]? = q[i]?
abbrev rgqP (b size:Nat) (q:List (Nat × Int)) (z:rgqH):List Asn:=[pt b [sl z.h,.int .i64 size,.int .i64 z.f,.int .i64 q.length] 232,ownT 79 rqL 2 (sl z.h) z.S]
def rgqA (b size:Nat) (q:List (Nat × Int)):Asn:=exA fun z:rgqH=>factA (rgqOk size q z)::rgqP b size q z
theorem rgq_open {w:World} {L:List Asn} {b size:Nat} {q:List (Nat × Int)} (M:Mem w (rgqA b size q::L)):∃ z,rgqOk size q z∧Mem w (rgqP b size q z++L):=by
 obtain ⟨z,M⟩:=M.exo
 obtain ⟨h,M⟩:=Mem.factO M
 exact⟨z,h,M⟩
theorem rgq_close {w:World} {L:List Asn} {b size:Nat} {q:List (Nat × Int)} {z:rgqH} (h:rgqOk size q z) (M:Mem w (rgqP b size q z++L)):Mem w (rgqA b size q::L):=Mem.exc z (Mem.fact h M)
theorem rgq_len (b size:Nat) (q:List (Nat × Int)) (R:List Asn):Spec 115 [ptr b] (rgqA b size q::R) fun u L'=>u=.int .i64 q.length∧L'=rgqA b size q::R:=by
 (intro G w M;obtain ⟨z,hz,M2⟩:=rgq_open (L:=R++G) M;clear M;have M:=M2;clear M2;have h1:=hz.n;have h2:=hz.s;have h3:=hz.p;simp only[zc,zn] at M)
 (refine zGe Tryz.func115 ?_;intro a F;(try simp only[zc,zn] at M))
 (try refine zI zk115 F M ?_;clear F M a;try clear w);(repeat'(first|refine zA ?_;repeat intro nb|refine zC ?_;(first|refine kp (k:=114) (hpk _) ?_|refine ac_storeEA (f:=prL) (v:=sl z.h) (j:=z.f) (k:=2) rfl rfl inferInstance ((0,0)) rfl hu0 inferInstance (by(focus ((repeat (first|exact Rep.here|apply Rep.there));done))) ?_|refine ac_storeE (f:=prL) (v:=sl z.h) (j:=z.f) (k:=2) (i:=0) (xs:=z.S) rfl rfl inferInstance rfl rfl hu0 inferInstance rfl ((0,0)) rfl (by(focus ((repeat (first|exact Rep.here|apply Rep.there));done))) ?_)|refine zB ?_ ?_<;>intro hc<;>try exact no hc|refine zH ?_ ?_<;>(intro hg;rw[hg];try exact no hg)));all_goals try refine zO fun a w F M=>?_
 (all_goals(refine zE F M ?_;exact⟨_,_,rfl,⟨rfl,rfl⟩,rgq_close hz (M.perms permsA)⟩))
theorem rgq_len0 (b:Nat) (v0 v1 v2:Value) (n:Int) (R:List Asn):Spec 115 [ptr b] (pt b [v0,v1,v2,.int .i64 n] 232::R) fun u L'=>u=.int .i64 n∧L'=pt b [v0,v1,v2,.int .i64 n] 232::R:=by
 refine zGz zk115 Tryz.func115 ?_;intro G;(repeat'(first|refine zA ?_;repeat intro nb|refine zC ?_;(first|refine kp (k:=114) (hpk _) ?_|refine ac_storeEA (f:=prL) (v:=sl z.h) (j:=z.f) (k:=2) rfl rfl inferInstance ((0,0)) rfl hu0 inferInstance (by(focus ((repeat (first|exact Rep.here|apply Rep.there));done))) ?_|refine ac_storeE (f:=prL) (v:=sl z.h) (j:=z.f) (k:=2) (i:=0) (xs:=z.S) rfl rfl inferInstance rfl rfl hu0 inferInstance rfl ((0,0)) rfl (by(focus ((repeat (first|exact Rep.here|apply Rep.there));done))) ?_)|refine zB ?_ ?_<;>intro hc<;>try exact no hc|refine zH ?_ ?_<;>(intro hg;rw[hg];try exact no hg)));all_goals exact zXz
theorem rgq_free (b size:Nat) (q:List (Nat × Int)) (R:List Asn):Spec 205 [ptr b] (rgqA b size q::R) fun u L'=>u=.int .i64 ((size:Int) - q.length)∧L'=rgqA b size q::R:=by
 (intro G w M;obtain ⟨z,hz,M2⟩:=rgq_open (L:=R++G) M;clear M;have M:=M2;clear M2;have h1:=hz.n;have h2:=hz.s;have h3:=hz.p;simp only[zc,zn] at M)
 (refine zGe Tryz.func205 ?_;intro a F;(try simp only[zc,zn] at M))
 (try refine zI zk205 F M ?_;clear F M a;try clear w);(repeat'(first|refine zA ?_;repeat intro nb|refine zC ?_;(first|refine kp (k:=114) (hpk _) ?_|refine ac_storeEA (f:=prL) (v:=sl z.h) (j:=z.f) (k:=2) rfl rfl inferInstance ((0,0)) rfl hu0 inferInstance (by(focus ((repeat (first|exact Rep.here|apply Rep.there));done))) ?_|refine ac_storeE (f:=prL) (v:=sl z.h) (j:=z.f) (k:=2) (i:=0) (xs:=z.S) rfl rfl inferInstance rfl rfl hu0 inferInstance rfl ((0,0)) rfl (by(focus ((repeat (first|exact Rep.here|apply Rep.there));done))) ?_)|refine zB ?_ ?_<;>intro hc<;>try exact no hc|refine zH ?_ ?_<;>(intro hg;rw[hg];try exact no hg)));all_goals try refine zO fun a w F M=>?_
 (all_goals(refine zE F M ?_;exact⟨_,_,rfl,⟨rfl,rfl⟩,rgq_close hz (M.perms permsA)⟩))
theorem rgq_peekO (b size:Nat) (q:List (Nat × Int)) (z:rgqH) (hz:rgqOk size q z) (i:Nat) (x:Nat × Int) (hx:q[i]? = some x) (R:List Asn):Spec 116 [ptr b,.int .i64 i] (rgqP b size q z++R) fun u L'=>u=.tuple [rqV x,.bool true].toArray∧L'=rgqP b size q z++R:=by
 intro G w M
 have h1:=hz.n
 have h2:=hz.s
 have h3:=hz.p
 have hi:i<q.length:=(List.getElem?_eq_some_iff.1 hx).1
 have hg:=hz.g i hi
 rw[hx] at hg
 have hzf:z.f<z.S.length:=by rcases hz.f with h|⟨_,h⟩;(· exact h);(exfalso;rw[h,List.length_nil] at h1;omega)
 have hmod:(((z.f:Int)+(i:Int)) % (z.S.length:Int)).toNat=(z.f+i) % z.S.length:=by
  rw[show(z.f:Int)+(i:Int)=((z.f+i:Nat):Int) by omega,← Int.natCast_emod,Int.toNat_natCast]
 have hg':z.S[(((z.f:Int)+(i:Int)) % (z.S.length:Int)).toNat]? = some x:=by rw[hmod];exact hg
 have hm0:0≤((z.f:Int)+(i:Int)) % (z.S.length:Int):=Int.emod_nonneg _ (by omega)
 have hm1:((z.f:Int)+(i:Int)) % (z.S.length:Int)<(z.S.length:Int):=Int.emod_lt_of_pos _ (by omega)
 simp only[zc,zn] at M
 (refine zGe Tryz.func116 ?_;intro a F;(try simp only[zc,zn] at M))
 (try refine zI zk116 F M ?_;clear F M a;try clear w);(repeat'(first|refine zA ?_;repeat intro nb|refine zC ?_;refine kp (k:=115) (rgq_len0 _ _ _ _ _ _) ?_|refine zB ?_ ?_<;>intro hc<;>try exact no hc|refine zH ?_ ?_<;>(intro hg;rw[hg];try exact no hg)));all_goals exact zXz
theorem rgq_peek (b size:Nat) (q:List (Nat × Int)) (i:Nat) (x:Nat × Int) (hx:q[i]? = some x) (R:List Asn):Spec 116 [ptr b,.int .i64 i] (rgqA b size q::R) fun u L'=>u=.tuple [rqV x,.bool true].toArray∧L'=rgqA b size q::R:=by
 intro G w M
 obtain ⟨z,hz,M⟩:=rgq_open M
 refine(rgq_peekO b size q z hz i x hx R G w (by simpa using M)).mono ?_
 rintro e w' ⟨u,L',k1,⟨k2,rfl⟩,k3⟩
 exact⟨u,_,k1,⟨k2,rfl⟩,rgq_close hz (by simpa using k3)⟩
theorem rgq_all (b size:Nat) (q:List (Nat × Int)) (hq:q.length≤4096) (R:List Asn):Spec 49 [ptr b] (rgqA b size q::R) fun u L'=>∃ h,u=sl h∧L'=ownT 79 rqL 2 (sl h) q::rgqA b size q::R:=by
 refine zGo Tryz.func49 ?_;intro G w M a F
 replace M:=M.own_nil 79 2
 (try refine zI zk49 F M ?_;clear F M a;try clear w);(repeat'(first|refine zA ?_;repeat intro nb|refine zC ?_;refine kp (k:=115) (rgq_len b size q _) ?_|refine zB ?_ ?_<;>intro hc<;>try exact no hc|refine zH ?_ ?_<;>(intro hg;rw[hg];try exact no hg)));all_goals try refine zO fun a w F M=>?_
 refine svLoop F M ((0,⟨none,0,0⟩):Nat × SlH) (fun z=>[(9,.int .i64 z.1),(3,sl z.2)]) (fun z=>[ownT 79 rqL 2 (sl z.2) (q.take z.1)]) (fun z=>z.1≤q.length) (fun z=>q.length - z.1) [4,5,6] (by simp) ?_
 (rintro⟨k,v⟩ q1 a w F M;(try simp only[zc,zn] at F M q1 ⊢))
 try simp only at q1
 by_cases hlt:k<q.length
 ·obtain ⟨x,hx⟩:∃ x,q[k]? = some x:=⟨q[k],by simp[hlt]⟩
  have htk:q.take (k+1)=q.take k++[x]:=by rw[List.take_add_one,hx];rfl
  (try refine zI zk49 F M ?_;clear F M a;try clear w);(repeat'(first|refine zA ?_;repeat intro nb|refine zC ?_;(first|refine kp (k:=116) (rgq_peek b size q k x hx _) ?_|refine ac_appendH (f:=rqL) (xs:=q.take k) (ys:=[x]) rfl rfl inferInstance rfl rfl (by(focus ((repeat (first|exact Pull.here|apply Pull.there));done))) inferInstance (gs_own (by(focus ((repeat (first|exact Pull.here|apply Pull.there));done)))) rfl rfl (by simp;omega) ?_;intro v3)|refine zB ?_ ?_<;>intro hc<;>try exact no hc|refine zH ?_ ?_<;>(intro hg;rw[hg];try exact no hg)));all_goals try refine zO fun a w F M=>?_
  exact sv_again F M (k+1,v3) kpA (by simp only;rw[htk];exact permsA) (by simp only;omega) (by simp only;omega)
 ·rw[List.take_of_length_le (by omega)] at M
  (try refine zI zk49 F M ?_;clear F M a;try clear w);(repeat'(first|refine zA ?_;repeat intro nb|refine zB ?_ ?_<;>intro hc<;>try exact no hc|refine zH ?_ ?_<;>(intro hg;rw[hg];try exact no hg)));all_goals try refine zO fun a w F M=>?_
  (all_goals(refine zE F M ?_;exact⟨_,_,rfl,⟨v,rfl,rfl⟩,M.perms permsA⟩))
theorem rgq_new (size:Nat) (h:1≤size∧size≤4096) (R:List Asn):Spec 76 [.int .i64 size] R fun u L'=>∃ b,u=ptr b∧L'=rgqA b size []::R:=by
 obtain ⟨h1,h2⟩:=h
 refine zGz zk76 Tryz.func76 ?_;intro G;(repeat'(first|refine zA ?_;repeat intro nb|refine zB ?_ ?_<;>intro hc<;>try exact no hc|refine zH ?_ ?_<;>(intro hg;rw[hg];try exact no hg)));all_goals try refine zO fun a w F M=>?_
 all_goals refine zE F M ?_
 refine⟨_,_,rfl,⟨nb,rfl,rfl⟩,?_⟩
 replace M:=M.own_nil 79 2
 exact rgq_close (z:=⟨⟨none,0,0⟩,[],0⟩) ⟨by simp,by simp,⟨h1,h2⟩,.inr ⟨rfl,rfl⟩,fun i hi=>by simp at hi⟩ (M.perms permsA)
theorem rgq_pop_ok {size:Nat} {x:Nat × Int} {r:List (Nat × Int)} {z:rgqH} (h:rgqOk size (x::r) z):rgqOk size r ⟨z.h,z.S.set z.f (0,0),(z.f+1) % z.S.length⟩:=by
 have h1:=h.n
 simp only[List.length_cons] at h1
 have hf:z.f<z.S.length:=by rcases h.f with h|⟨_,h⟩;(· exact h);(exfalso;rw[h,List.length_nil] at h1;omega)
 refine⟨by simp only[List.length_set];omega,by simpa using h.s,h.p,.inl (by simp only[List.length_set];exact Nat.mod_lt _ (by omega)),fun i hi=>?_⟩
 have hg:=h.g (i+1) (by simp;omega)
 simp only[List.length_set,List.getElem?_cons_succ] at hg ⊢
 have e:((z.f+1) % z.S.length+i) % z.S.length=(z.f+(i+1)) % z.S.length:=by rw[Nat.mod_add_mod];congr 1;omega
 rw[e,List.getElem?_set_ne,hg]
 intro hh
 have:(z.f+(i+1)) % z.S.length=z.f:=hh.symm
 by_cases hlt:z.f+(i+1)<z.S.length
 ·rw[Nat.mod_eq_of_lt hlt] at this;omega
 ·rw[Nat.mod_eq_sub_mod (by omega),Nat.mod_eq_of_lt (by omega)] at this;omega
theorem rgq_pop (b size:Nat) (x:Nat × Int) (r:List (Nat × Int)) (R:List Asn):Spec 274 [ptr b] (rgqA b size (x::r)::R) fun u L'=>u=.tuple [rqV x,.bool true].toArray∧L'=rgqA b size r::R:=by
 (intro G w M;obtain ⟨z,hz,M2⟩:=rgq_open (L:=R++G) M;clear M;have M:=M2;clear M2;have h1:=hz.n;have h2:=hz.s;have h3:=hz.p;simp only[zc,zn] at M)
 have hpk:=rgq_peekO b size (x::r) z hz 0 x rfl
 have hok:=rgq_pop_ok hz
 have hsl:(z.S.set z.f ((0,0))).length=z.S.length:=List.length_set
 simp only[List.length_cons] at h1
 have hf:z.f<z.S.length:=by rcases hz.f with h|⟨_,h⟩;(· exact h);(exfalso;rw[h,List.length_nil] at h1;omega)
 obtain ⟨u0,hu0⟩:∃ u0,z.S[z.f]? = some u0:=⟨z.S[z.f],by simp[hf]⟩
 have e1:((z.f:Int)+1) % (z.S.length:Int)=(((z.f+1) % z.S.length:Nat):Int):=by rw[Int.natCast_emod];rfl
 have e2:(((x::r).length:Nat):Int) - 1=(r.length:Int):=by simp
 have e3:(((x::r).length:Nat):Int)=(r.length:Int)+1:=by simp
 (refine zGe Tryz.func274 ?_;intro a F;(try simp only[zc,zn] at M))
 (try refine zI zk274 F M ?_;clear F M a;try clear w);(repeat'(first|refine zA ?_;repeat intro nb|refine zC ?_;(first|refine kp (k:=116) (hpk _) ?_|refine ac_storeEA (f:=rqL) (v:=sl z.h) (j:=z.f) (k:=2) rfl rfl inferInstance ((0,0)) rfl hu0 inferInstance (by(focus ((repeat (first|exact Rep.here|apply Rep.there));done))) ?_|refine ac_storeE (f:=rqL) (v:=sl z.h) (j:=z.f) (k:=2) (i:=0) (xs:=z.S) rfl rfl inferInstance rfl rfl hu0 inferInstance rfl ((0,0)) rfl (by(focus ((repeat (first|exact Rep.here|apply Rep.there));done))) ?_)|refine zB ?_ ?_<;>intro hc<;>try exact no hc|refine zH ?_ ?_<;>(intro hg;rw[hg];try exact no hg)));all_goals try refine zO fun a w F M=>?_
 all_goals refine zE F M ?_
 simp only[List.length_set] at M
 rw[e1,e2] at M
 exact⟨_,_,rfl,⟨rfl,rfl⟩,rgq_close hok (M.perms permsA)⟩
end
end Go.Proofs.YtjbfcacmdahnhaaGreat
