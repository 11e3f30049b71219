import Derived.Test.YtjbfcacmdahnhaaGreatZrj
set_option linter.unusedVariables false
set_option linter.unusedSimpArgs false
set_option linter.unusedSectionVars false
set_option maxRecDepth 100000
set_option maxHeartbeats 8000000
namespace Go.Proofs.YtjbfcacmdahnhaaGreat
section
open Go.RowKit
def natL (z:Nat):List Value:=[.int .i64 (z:Int)]
instance:EL natL 1:=⟨fun _=>rfl,fun x u h=>by simp[natL] at h;subst h;rfl⟩
abbrev natV (z:Nat):Value:=.int .i64 (z:Int)
structure rgnH where
 h:SlH
 S:List (Nat)
 f:Nat
structure rgnOk (size:Nat) (q:List (Nat)) (z:rgnH):Prop where
 n:q.length≤z.S.length
 s:z.S.length≤size
 p:1≤size∧size≤4096
 f:z.f<z.S.length∨(z.f=0∧z.S=[])
 g:∀ i,i<q.length→z.S[(z.f+i) % z.S.length]? = q[i]?
abbrev rgnP (b size:Nat) (q:List (Nat)) (z:rgnH):List Asn:=[pt b [sl z.h,.int .i64 size,.int .i64 z.f,.int .i64 q.length] 228,ownT 3 natL 1 (sl z.h) z.S]
def rgnA (b size:Nat) (q:List (Nat)):Asn:=exA fun z:rgnH=>factA (rgnOk size q z)::rgnP b size q z
theorem rgn_open {w:World} {L:List Asn} {b size:Nat} {q:List (Nat)} (M:Mem w (rgnA b size q::L)):∃ z,rgnOk size q z∧Mem w (rgnP b size q z++L):=by
 obtain ⟨z,M⟩:=M.exo
 obtain ⟨h,M⟩:=Mem.factO M
 exact⟨z,h,M⟩
theorem rgn_close {w:World} {L:List Asn} {b size:Nat} {q:List (Nat)} {z:rgnH} (h:rgnOk size q z) (M:Mem w (rgnP b size q z++L)):Mem w (rgnA b size q::L):=Mem.exc z (Mem.fact h M)
theorem rgn_len (b size:Nat) (q:List (Nat)) (R:List Asn):Spec 110 [ptr b] (rgnA b size q::R) fun u L'=>u=.int .i64 q.length∧L'=rgnA b size q::R:=by
 (intro G w M;obtain ⟨z,hz,M2⟩:=rgn_open (L:=R++G) M;clear M;have M:=M2;clear M2;have h1:=hz.n;have h2:=hz.s;have h3:=hz.p;simp only[zc,zn] at M)
 (refine zGe Tryz.func110 ?_;intro a F;(try simp only[zc,zn] at M))
 (try refine zI zk110 F M ?_;clear F M a;try clear w);(repeat'(first|refine zA ?_;repeat intro nb|refine zB ?_ ?_<;>intro hc<;>try exact no hc|refine zH ?_ ?_<;>(intro hg;rw[hg];try exact no hg)));all_goals try refine zO fun a w F M=>?_
 (all_goals(refine zE F M ?_;exact⟨_,_,rfl,⟨rfl,rfl⟩,rgn_close hz (M.perms permsA)⟩))
theorem rgn_len0 (b:Nat) (v0 v1 v2:Value) (n:Int) (R:List Asn):Spec 110 [ptr b] (pt b [v0,v1,v2,.int .i64 n] 228::R) fun u L'=>u=.int .i64 n∧L'=pt b [v0,v1,v2,.int .i64 n] 228::R:=by
 refine zGz zk110 Tryz.func110 ?_;intro G;(repeat'(first|refine zA ?_;repeat intro nb|refine zB ?_ ?_<;>intro hc<;>try exact no hc|refine zH ?_ ?_<;>(intro hg;rw[hg];try exact no hg)));all_goals exact zXz
theorem rgn_free (b size:Nat) (q:List (Nat)) (R:List Asn):Spec 125 [ptr b] (rgnA b size q::R) fun u L'=>u=.int .i64 ((size:Int) - q.length)∧L'=rgnA b size q::R:=by
 (intro G w M;obtain ⟨z,hz,M2⟩:=rgn_open (L:=R++G) M;clear M;have M:=M2;clear M2;have h1:=hz.n;have h2:=hz.s;have h3:=hz.p;simp only[zc,zn] at M)
 (refine zGe Tryz.func125 ?_;intro a F;(try simp only[zc,zn] at M))
 (try refine zI zk125 F M ?_;clear F M a;try clear w);(repeat'(first|refine zA ?_;repeat intro nb|refine zB ?_ ?_<;>intro hc<;>try exact no hc|refine zH ?_ ?_<;>(intro hg;rw[hg];try exact no hg)));all_goals try refine zO fun a w F M=>?_
 (all_goals(refine zE F M ?_;exact⟨_,_,rfl,⟨rfl,rfl⟩,rgn_close hz (M.perms permsA)⟩))
theorem rgn_peekO (b size:Nat) (q:List (Nat)) (z:rgnH) (hz:rgnOk size q z) (i:Nat) (x:Nat) (hx:q[i]? = some x) (R:List Asn):Spec 111 [ptr b,.int .i64 i] (rgnP b size q z++R) fun u L'=>u=.tuple [natV x,.bool true].toArray∧L'=rgnP b size q z++R:=by
 intro G w M
 have h1:=hz.n
 have h2:=hz.s
 have h3:=hz.p
 have hi:i<q.length:=(List.getElem?_eq_some_iff.1 hx).1
 have hg:=hz.g i hi
 rw[hx] at hg
 have hzf:z.f<z.S.length:=by rcases hz.f with h|⟨_,h⟩;(· exact h);(exfalso;rw[h,List.length_nil] at h1;omega)
 have hmod:(((z.f:Int)+(i:Int)) % (z.S.length:Int)).toNat=(z.f+i) % z.S.length:=by
  rw[show(z.f:Int)+(i:Int)=((z.f+i:Nat):Int) by omega,← Int.natCast_emod,Int.toNat_natCast]
 have hg':z.S[(((z.f:Int)+(i:Int)) % (z.S.length:Int)).toNat]? = some x:=by rw[hmod];exact hg
 have hm0:0≤((z.f:Int)+(i:Int)) % (z.S.length:Int):=Int.emod_nonneg _ (by omega)
 have hm1:((z.f:Int)+(i:Int)) % (z.S.length:Int)<(z.S.length:Int):=Int.emod_lt_of_pos _ (by omega)
 simp only[zc,zn] at M
 (refine zGe Tryz.func111 ?_;intro a F;(try simp only[zc,zn] at M))
 (try refine zI zk111 F M ?_;clear F M a;try clear w);(repeat'(first|refine zA ?_;repeat intro nb|refine zC ?_;refine kp (k:=110) (rgn_len0 _ _ _ _ _ _) ?_|refine zB ?_ ?_<;>intro hc<;>try exact no hc|refine zH ?_ ?_<;>(intro hg;rw[hg];try exact no hg)));all_goals exact zXz
theorem rgn_peek (b size:Nat) (q:List (Nat)) (i:Nat) (x:Nat) (hx:q[i]? = some x) (R:List Asn):Spec 111 [ptr b,.int .i64 i] (rgnA b size q::R) fun u L'=>u=.tuple [natV x,.bool true].toArray∧L'=rgnA b size q::R:=by
 intro G w M
 obtain ⟨z,hz,M⟩:=rgn_open M
 refine(rgn_peekO b size q z hz i x hx R G w (by simpa using M)).mono ?_
 rintro e w' ⟨u,L',k1,⟨k2,rfl⟩,k3⟩
 exact⟨u,_,k1,⟨k2,rfl⟩,rgn_close hz (by simpa using k3)⟩
theorem rgn_peek0 (b size:Nat) (q:List (Nat)) (i:Nat) (hi:q.length≤i) (hi2:i≤2000000) (R:List Asn):Spec 111 [ptr b,.int .i64 i] (rgnA b size q::R) fun u L'=>u=.tuple [natV 0,.bool false].toArray∧L'=rgnA b size q::R:=by
 refine zGz zk111 Tryz.func111 ?_;intro G;(repeat'(first|refine zA ?_;repeat intro nb|refine zC ?_;refine kp (k:=110) (rgn_len b size q _) ?_|refine zB ?_ ?_<;>intro hc<;>try exact no hc|refine zH ?_ ?_<;>(intro hg;rw[hg];try exact no hg)));all_goals exact zXz
theorem rgn_all (b size:Nat) (q:List (Nat)) (hq:q.length≤4096) (R:List Asn):Spec 46 [ptr b] (rgnA b size q::R) fun u L'=>∃ h,u=sl h∧L'=ownT 3 natL 1 (sl h) q::rgnA b size q::R:=by
 refine zGo Tryz.func46 ?_;intro G w M a F
 replace M:=M.own_nil 3 1
 (try refine zI zk46 F M ?_;clear F M a;try clear w);(repeat'(first|refine zA ?_;repeat intro nb|refine zC ?_;refine kp (k:=110) (rgn_len b size q _) ?_|refine zB ?_ ?_<;>intro hc<;>try exact no hc|refine zH ?_ ?_<;>(intro hg;rw[hg];try exact no hg)));all_goals try refine zO fun a w F M=>?_
 refine svLoop F M ((0,⟨none,0,0⟩):Nat × SlH) (fun z=>[(9,.int .i64 z.1),(3,sl z.2)]) (fun z=>[ownT 3 natL 1 (sl z.2) (q.take z.1)]) (fun z=>z.1≤q.length) (fun z=>q.length - z.1) [4,5,6] (by simp) ?_
 (rintro⟨k,v⟩ q1 a w F M;(try simp only[zc,zn] at F M q1 ⊢))
 try simp only at q1
 by_cases hlt:k<q.length
 ·obtain ⟨x,hx⟩:∃ x,q[k]? = some x:=⟨q[k],by simp[hlt]⟩
  have htk:q.take (k+1)=q.take k++[x]:=by rw[List.take_add_one,hx];rfl
  (try refine zI zk46 F M ?_;clear F M a;try clear w);(repeat'(first|refine zA ?_;repeat intro nb|refine zC ?_;(first|refine kp (k:=111) (rgn_peek b size q k x hx _) ?_|refine ac_appendH (f:=natL) (xs:=q.take k) (ys:=[x]) rfl rfl inferInstance rfl rfl (by(focus ((repeat (first|exact Pull.here|apply Pull.there));done))) inferInstance (gs_own (by(focus ((repeat (first|exact Pull.here|apply Pull.there));done)))) rfl rfl (by simp;omega) ?_;intro v3)|refine zB ?_ ?_<;>intro hc<;>try exact no hc|refine zH ?_ ?_<;>(intro hg;rw[hg];try exact no hg)));all_goals try refine zO fun a w F M=>?_
  exact sv_again F M (k+1,v3) kpA (by simp only;rw[htk];exact permsA) (by simp only;omega) (by simp only;omega)
 ·rw[List.take_of_length_le (by omega)] at M
  (try refine zI zk46 F M ?_;clear F M a;try clear w);(repeat'(first|refine zA ?_;repeat intro nb|refine zB ?_ ?_<;>intro hc<;>try exact no hc|refine zH ?_ ?_<;>(intro hg;rw[hg];try exact no hg)));all_goals try refine zO fun a w F M=>?_
  (all_goals(refine zE F M ?_;exact⟨_,_,rfl,⟨v,rfl,rfl⟩,M.perms permsA⟩))
theorem rgn_new (size:Nat) (h:1≤size∧size≤4096) (R:List Asn):Spec 74 [.int .i64 size] R fun u L'=>∃ b,u=ptr b∧L'=rgnA b size []::R:=by
 obtain ⟨h1,h2⟩:=h
 refine zGz zk74 Tryz.func74 ?_;intro G;(repeat'(first|refine zA ?_;repeat intro nb|refine zB ?_ ?_<;>intro hc<;>try exact no hc|refine zH ?_ ?_<;>(intro hg;rw[hg];try exact no hg)));all_goals try refine zO fun a w F M=>?_
 all_goals refine zE F M ?_
 refine⟨_,_,rfl,⟨nb,rfl,rfl⟩,?_⟩
 replace M:=M.own_nil 3 1
 exact rgn_close (z:=⟨⟨none,0,0⟩,[],0⟩) ⟨by simp,by simp,⟨h1,h2⟩,.inr ⟨rfl,rfl⟩,fun i hi=>by simp at hi⟩ (M.perms permsA)
theorem rgn_lenN (R:List Asn):Spec 110 [.pointer none] R fun u L'=>u=.int .i64 0∧L'=R:=by
 refine zGz zk110 Tryz.func110 ?_;intro G;(repeat'(first|refine zA ?_;repeat intro nb|refine zB ?_ ?_<;>intro hc<;>try exact no hc|refine zH ?_ ?_<;>(intro hg;rw[hg];try exact no hg)));all_goals exact zXz
theorem rgn_peekN (i:Nat) (hi:i≤2000000) (R:List Asn):Spec 111 [.pointer none,.int .i64 i] R fun u L'=>u=.tuple [natV 0,.bool false].toArray∧L'=R:=by
 refine zGz zk111 Tryz.func111 ?_;intro G;(repeat'(first|refine zA ?_;repeat intro nb|refine zC ?_;refine kpW (k:=110) (rgn_lenN _) ?_|refine zB ?_ ?_<;>intro hc<;>try exact no hc|refine zH ?_ ?_<;>(intro hg;rw[hg];try exact no hg)));all_goals exact zXz
theorem rgn_pop_ok {size:Nat} {x:Nat} {r:List (Nat)} {z:rgnH} (h:rgnOk size (x::r) z):rgnOk size r ⟨z.h,z.S.set z.f 0,(z.f+1) % z.S.length⟩:=by
 have h1:=h.n
 simp only[List.length_cons] at h1
 have hf:z.f<z.S.length:=by rcases h.f with h|⟨_,h⟩;(· exact h);(exfalso;rw[h,List.length_nil] at h1;omega)
 refine⟨by simp only[List.length_set];omega,by simpa using h.s,h.p,.inl (by simp only[List.length_set];exact Nat.mod_lt _ (by omega)),fun i hi=>?_⟩
 have hg:=h.g (i+1) (by simp;omega)
 simp only[List.length_set,List.getElem?_cons_succ] at hg ⊢
 have e:((z.f+1) % z.S.length+i) % z.S.length=(z.f+(i+1)) % z.S.length:=by rw[Nat.mod_add_mod];congr 1;omega
 rw[e,List.getElem?_set_ne,hg]
 intro hh
 have:(z.f+(i+1)) % z.S.length=z.f:=hh.symm
 by_cases hlt:z.f+(i+1)<z.S.length
 ·rw[Nat.mod_eq_of_lt hlt] at this;omega
 ·rw[Nat.mod_eq_sub_mod (by omega),Nat.mod_eq_of_lt (by omega)] at this;omega
theorem rgn_pop (b size:Nat) (x:Nat) (r:List (Nat)) (R:List Asn):Spec 268 [ptr b] (rgnA b size (x::r)::R) fun u L'=>u=.tuple [natV x,.bool true].toArray∧L'=rgnA b size r::R:=by
 (intro G w M;obtain ⟨z,hz,M2⟩:=rgn_open (L:=R++G) M;clear M;have M:=M2;clear M2;have h1:=hz.n;have h2:=hz.s;have h3:=hz.p;simp only[zc,zn] at M)
 have hpk:=rgn_peekO b size (x::r) z hz 0 x rfl
 have hok:=rgn_pop_ok hz
 have hsl:(z.S.set z.f (0)).length=z.S.length:=List.length_set
 simp only[List.length_cons] at h1
 have hf:z.f<z.S.length:=by rcases hz.f with h|⟨_,h⟩;(· exact h);(exfalso;rw[h,List.length_nil] at h1;omega)
 obtain ⟨u0,hu0⟩:∃ u0,z.S[z.f]? = some u0:=⟨z.S[z.f],by simp[hf]⟩
 have e1:((z.f:Int)+1) % (z.S.length:Int)=(((z.f+1) % z.S.length:Nat):Int):=by rw[Int.natCast_emod];rfl
 have e2:(((x::r).length:Nat):Int) - 1=(r.length:Int):=by simp
 have e3:(((x::r).length:Nat):Int)=(r.length:Int)+1:=by simp
 (refine zGe Tryz.func268 ?_;intro a F;(try simp only[zc,zn] at M))
 (try refine zI zk268 F M ?_;clear F M a;try clear w);(repeat'(first|refine zA ?_;repeat intro nb|refine zC ?_;(first|refine kp (k:=111) (hpk _) ?_|refine ac_storeEA (f:=natL) (v:=sl z.h) (j:=z.f) (k:=1) rfl rfl inferInstance (0) rfl hu0 inferInstance (by(focus ((repeat (first|exact Rep.here|apply Rep.there));done))) ?_|refine ac_storeE (f:=natL) (v:=sl z.h) (j:=z.f) (k:=1) (i:=0) (xs:=z.S) rfl rfl inferInstance rfl rfl hu0 inferInstance rfl (0) rfl (by(focus ((repeat (first|exact Rep.here|apply Rep.there));done))) ?_)|refine zB ?_ ?_<;>intro hc<;>try exact no hc|refine zH ?_ ?_<;>(intro hg;rw[hg];try exact no hg)));all_goals try refine zO fun a w F M=>?_
 all_goals refine zE F M ?_
 simp only[List.length_set] at M
 rw[e1,e2] at M
 exact⟨_,_,rfl,⟨rfl,rfl⟩,rgn_close hok (M.perms permsA)⟩
end
def zkl3:List Nat:=[0,2,4]
section
open Go.RowKit
theorem clone_val (h:SlH) (xs:List Val) {L:List Asn} (hu:GS L 7 (sl h) xs.length (xs.flatMap valL)) (hb:xs.length≤5000000) :
  Spec 109 [sl h] L fun u L'=>∃ h',u=sl h'∧L'=ownT 62 valL 7 (sl h') xs::L:=by
 (intro G w M;refine sx_enter (vs:=[sl h]) Tryz.func109 (n:=8) rfl rfl rfl rfl ?_;intro a F;(try simp only[zc,zn] at M))
 have hu':GS (L++G) 7 (sl h) xs.length (xs.flatMap valL):=hu.imp fun w M=>M.drop_app
 have hlv:=hu'.len_le M
 obtain ⟨ha,hn,hc⟩:=h
 cases ha with
 | none =>
  have hx:xs=[]:=by
   have:=(hu' w M).nil_len
   exact List.eq_nil_of_length_eq_zero this
  subst hx
  (repeat'(first|(first|(refine sx_nil ?_;(try(replace F:=F.filt zkl3 rfl)))|(refine sv1 F M (h:=?_) (hr:=by fail);clear F a;intro a F)|(refine sv1 F M (h:=?_);clear F a;intro a F)|(refine sv3 F M (h:=?_);clear M;intro w M)|(refine sv2 F M (h:=?_);clear F M a;intro b a w F M)|(refine svC F M (h:=?_);fail;(clear F M a;intro a w F M))|(refine svC0 F M (h:=?_);fail;(clear M;intro w M))|(refine sv1 F M (h:=?_) (hr:=by(apply rt_nils;(exact rfl);(exact rfl);(exact rfl);(exact inferInstance)));clear F a;intro a F)|(refine svK F (h:=?_);clear F a;intro a F)|(refine svK0 F (h:=?_))|((refine sx_guardb F rfl (fun hg=>?_) (fun hg=>?_))<;>(rw[hg] at F;(try(exact no hg)))))|(first|(refine pv1 (h:=?_) (hr:=by fail))|(refine pv1 (h:=?_))|(refine pv3 (h:=?_))|(refine pv2 (h:=?_);intro b)|(refine pvC (h:=?_);fail;(refine⟨?_,?_⟩;(exact rvsA)))|(refine pvC0 (h:=?_);fail;(refine⟨?_,?_⟩;(exact rvsA)))|(refine pv1 (h:=?_) (hr:=by(apply rt_nils;(exact rfl);(exact rfl);(exact rfl);(exact inferInstance))))|(refine pvF (h:=?_);intro b)|(refine pvK (h:=?_))|(refine pvK0 (h:=?_))|(refine pv_nil ?_;intro a w F M;refine ql_open ?_)|(refine pv_nil ?_;intro a w F M;(try(replace F:=F.filt zkl3 rfl))))|((fail_if_success(with_reducible show wpList _ _ _ _ _ _));(fail_if_success(with_reducible show PW _ _ _ _ _ _ _ _ _ _));(fail_if_success(with_reducible show Code.wp _ (Code.loop _) _ _ _));(first|((with_reducible show Code.wp _ (Code.region _ _ false) _ _ _);(refine sx_region ?_))|((with_reducible show Code.wp _ (Code.cond _ _ _) _ _ _);(first|(refine svT F (h:=?_))|(refine svF F (h:=?_))|((refine svB F (fun hc=>?_) (fun hc=>?_))<;>(try(exact no hc)))))|((with_reducible show Code.wp _ (Code.region _ _ true) _ _ _);fail)|go_step))))
  all_goals(first|(refine svEnd F M ?_)|(refine svRet F M ?_))
  all_goals refine⟨_,_,rfl,⟨⟨none,0,0⟩,rfl,rfl⟩,?_⟩
  all_goals exact M.own_nil _ _
 | some ad =>
  (repeat'(first|(first|(refine sx_nil ?_;(try(replace F:=F.filt zkl3 rfl)))|(refine sv1 F M (h:=?_) (hr:=by fail);clear F a;intro a F)|(refine sv1 F M (h:=?_);clear F a;intro a F)|(refine sv3 F M (h:=?_);clear M;intro w M)|(refine sv2 F M (h:=?_);clear F M a;intro b a w F M)|(refine svC F M (h:=?_);(first|(apply ac_appendH (xs:=([]:List Val)) (ys:=xs) (f:=valL);(exact rfl);(exact rfl);(exact inferInstance);(exact rfl);(exact rfl);(focus ((repeat (first|exact Pull.here|apply Pull.there));done));(exact inferInstance);(exact hu'.tail);(exact rfl);(exact rfl);(simp;omega);intro v'));(clear F M a;intro a w F M))|(refine svC0 F M (h:=?_);(first|(apply ac_appendH (xs:=([]:List Val)) (ys:=xs) (f:=valL);(exact rfl);(exact rfl);(exact inferInstance);(exact rfl);(exact rfl);(focus ((repeat (first|exact Pull.here|apply Pull.there));done));(exact inferInstance);(exact hu'.tail);(exact rfl);(exact rfl);(simp;omega);intro v'));(clear M;intro w M))|(refine sv1 F M (h:=?_) (hr:=by(apply rt_nils;(exact rfl);(exact rfl);(exact rfl);(exact inferInstance)));clear F a;intro a F)|(refine svK F (h:=?_);clear F a;intro a F)|(refine svK0 F (h:=?_))|((refine sx_guardb F rfl (fun hg=>?_) (fun hg=>?_))<;>(rw[hg] at F;(try(exact no hg)))))|(first|(refine pv1 (h:=?_) (hr:=by fail))|(refine pv1 (h:=?_))|(refine pv3 (h:=?_))|(refine pv2 (h:=?_);intro b)|(refine pvC (h:=?_);(first|(apply ac_appendH (xs:=([]:List Val)) (ys:=xs) (f:=valL);(exact rfl);(exact rfl);(exact inferInstance);(exact rfl);(exact rfl);(focus ((repeat (first|exact Pull.here|apply Pull.there));done));(exact inferInstance);(exact hu'.tail);(exact rfl);(exact rfl);(simp;omega);intro v'));(refine⟨?_,?_⟩;(exact rvsA)))|(refine pvC0 (h:=?_);(first|(apply ac_appendH (xs:=([]:List Val)) (ys:=xs) (f:=valL);(exact rfl);(exact rfl);(exact inferInstance);(exact rfl);(exact rfl);(focus ((repeat (first|exact Pull.here|apply Pull.there));done));(exact inferInstance);(exact hu'.tail);(exact rfl);(exact rfl);(simp;omega);intro v'));(refine⟨?_,?_⟩;(exact rvsA)))|(refine pv1 (h:=?_) (hr:=by(apply rt_nils;(exact rfl);(exact rfl);(exact rfl);(exact inferInstance))))|(refine pvF (h:=?_);intro b)|(refine pvK (h:=?_))|(refine pvK0 (h:=?_))|(refine pv_nil ?_;intro a w F M;refine ql_open ?_)|(refine pv_nil ?_;intro a w F M;(try(replace F:=F.filt zkl3 rfl))))|((fail_if_success(with_reducible show wpList _ _ _ _ _ _));(fail_if_success(with_reducible show PW _ _ _ _ _ _ _ _ _ _));(fail_if_success(with_reducible show Code.wp _ (Code.loop _) _ _ _));(first|((with_reducible show Code.wp _ (Code.region _ _ false) _ _ _);(refine sx_region ?_))|((with_reducible show Code.wp _ (Code.cond _ _ _) _ _ _);(first|(refine svT F (h:=?_))|(refine svF F (h:=?_))|((refine svB F (fun hc=>?_) (fun hc=>?_))<;>(try(exact no hc)))))|((with_reducible show Code.wp _ (Code.region _ _ true) _ _ _);fail)|go_step))))
  all_goals refine svC F M (h:=?_)
  all_goals(refine ac_appendH (f:=valL) (xs:=[]) (ys:=xs) rfl rfl inferInstance rfl rfl (by(focus ((repeat (first|exact Pull.here|apply Pull.there));done))) inferInstance hu'.tail rfl rfl (by simp;omega) ?_)
  all_goals(intro v' a w F M)
  all_goals(repeat'(first|(first|(refine sx_nil ?_;(try(replace F:=F.filt zkl3 rfl)))|(refine sv1 F M (h:=?_) (hr:=by fail);clear F a;intro a F)|(refine sv1 F M (h:=?_);clear F a;intro a F)|(refine sv3 F M (h:=?_);clear M;intro w M)|(refine sv2 F M (h:=?_);clear F M a;intro b a w F M)|(refine svC F M (h:=?_);(first|(apply ac_appendH (xs:=([]:List Val)) (ys:=xs) (f:=valL);(exact rfl);(exact rfl);(exact inferInstance);(exact rfl);(exact rfl);(focus ((repeat (first|exact Pull.here|apply Pull.there));done));(exact inferInstance);(exact hu'.tail);(exact rfl);(exact rfl);(simp;omega);intro v'));(clear F M a;intro a w F M))|(refine svC0 F M (h:=?_);(first|(apply ac_appendH (xs:=([]:List Val)) (ys:=xs) (f:=valL);(exact rfl);(exact rfl);(exact inferInstance);(exact rfl);(exact rfl);(focus ((repeat (first|exact Pull.here|apply Pull.there));done));(exact inferInstance);(exact hu'.tail);(exact rfl);(exact rfl);(simp;omega);intro v'));(clear M;intro w M))|(refine sv1 F M (h:=?_) (hr:=by(apply rt_nils;(exact rfl);(exact rfl);(exact rfl);(exact inferInstance)));clear F a;intro a F)|(refine svK F (h:=?_);clear F a;intro a F)|(refine svK0 F (h:=?_))|((refine sx_guardb F rfl (fun hg=>?_) (fun hg=>?_))<;>(rw[hg] at F;(try(exact no hg)))))|(first|(refine pv1 (h:=?_) (hr:=by fail))|(refine pv1 (h:=?_))|(refine pv3 (h:=?_))|(refine pv2 (h:=?_);intro b)|(refine pvC (h:=?_);(first|(apply ac_appendH (xs:=([]:List Val)) (ys:=xs) (f:=valL);(exact rfl);(exact rfl);(exact inferInstance);(exact rfl);(exact rfl);(focus ((repeat (first|exact Pull.here|apply Pull.there));done));(exact inferInstance);(exact hu'.tail);(exact rfl);(exact rfl);(simp;omega);intro v'));(refine⟨?_,?_⟩;(exact rvsA)))|(refine pvC0 (h:=?_);(first|(apply ac_appendH (xs:=([]:List Val)) (ys:=xs) (f:=valL);(exact rfl);(exact rfl);(exact inferInstance);(exact rfl);(exact rfl);(focus ((repeat (first|exact Pull.here|apply Pull.there));done));(exact inferInstance);(exact hu'.tail);(exact rfl);(exact rfl);(simp;omega);intro v'));(refine⟨?_,?_⟩;(exact rvsA)))|(refine pv1 (h:=?_) (hr:=by(apply rt_nils;(exact rfl);(exact rfl);(exact rfl);(exact inferInstance))))|(refine pvF (h:=?_);intro b)|(refine pvK (h:=?_))|(refine pvK0 (h:=?_))|(refine pv_nil ?_;intro a w F M;refine ql_open ?_)|(refine pv_nil ?_;intro a w F M;(try(replace F:=F.filt zkl3 rfl))))|((fail_if_success(with_reducible show wpList _ _ _ _ _ _));(fail_if_success(with_reducible show PW _ _ _ _ _ _ _ _ _ _));(fail_if_success(with_reducible show Code.wp _ (Code.loop _) _ _ _));(first|((with_reducible show Code.wp _ (Code.region _ _ false) _ _ _);(refine sx_region ?_))|((with_reducible show Code.wp _ (Code.cond _ _ _) _ _ _);(first|(refine svT F (h:=?_))|(refine svF F (h:=?_))|((refine svB F (fun hc=>?_) (fun hc=>?_))<;>(try(exact no hc)))))|((with_reducible show Code.wp _ (Code.region _ _ true) _ _ _);fail)|go_step))))
  all_goals(first|(refine svEnd F M ?_)|(refine svRet F M ?_))
  all_goals(refine⟨_,_,rfl,⟨v',rfl,rfl⟩,?_⟩;(try simp only[zc,zn]);exact M.perms permsA)
theorem reg_all (b:Nat) (cap:Int) (V:List Val) (hl:V.length≤4096) (R:List Asn):Spec 44 [ptr b] (regA b cap V::R) fun u L'=>∃ h,u=sl h∧L'=ownT 62 valL 7 (sl h) V::regA b cap V::R:=by
 intro G w M
 obtain ⟨h,m,M2⟩:=reg_open (L:=R++G) M
 clear M;have M:=M2;clear M2
 (refine zGe Tryz.func44 ?_;intro a F;(try simp only[zc,zn] at M))
 (try refine zI zk44 F M ?_;clear F M a;try clear w);(repeat'(first|refine zA ?_;repeat intro nb|refine zC ?_;refine acW (k:=109) (clone_val h V (gs_own pullA) (by omega)) ?_;rintro u L' ⟨h',rfl,rfl⟩|refine zB ?_ ?_<;>intro hc<;>try exact no hc|refine zH ?_ ?_<;>(intro hg;rw[hg];try exact no hg)));all_goals try refine zO fun a w F M=>?_
 all_goals refine zE F M ?_
 exact⟨_,_,rfl,⟨h',rfl,rfl⟩,(reg_close (M.perms (permsA:Perms _ (rgC b cap h _ _ m::cntA m::ownT 62 valL 7 (sl h) V::ownT 62 valL 7 (sl h') V::(R++G))))).perms permsA⟩
end
section
open Go.RowKit
instance fnCi [IL 2]:FN 242 Tryz.f242 zk242:=⟨Tryz.func242,inferInstance⟩
instance fnCu [IL 2]:FN 247 Tryz.f247 zk247:=⟨Tryz.func247,inferInstance⟩
variable (c:Cfg)
def condIds:List Nat:=[241,243,244,245,246,248,249,250,251,252,253,254,255,256,257,258,259,260,261,262]
def fnV (f:Nat):Value:=.func (.func f) #[] #[]
theorem conditions_spec (R:List Asn):Spec 168 [] R fun u L'=>u=.agg (condIds.map fnV).toArray∧L'=R:=by
 refine zGz zk168 Tryz.func168 ?_;intro G;(repeat'(first|refine zA ?_;repeat intro nb|refine zB ?_ ?_<;>intro hc<;>try exact no hc|refine zH ?_ ?_<;>(intro hg;rw[hg];try exact no hg)));all_goals try refine zO fun a w F M=>?_
 all_goals refine zE F M ?_
 all_goals exact⟨_,_,rfl,⟨rfl,rfl⟩,M.perms permsA⟩
theorem cond_at (k:Nat) (hk:k<20) (hc:∀ i,1≤i→i≤k→fieldB c i=true):∃ f,FK f∧((condIds.map fnV).drop ((k:Int).toNat*1)).take 1=[.func (.func f) #[] #[]]∧∀ R,Spec f [cfgV c] R fun u L'=>u=.bool (fieldB c (k+1))∧L'=R:=by
 have h11:11≤k→c.unbonding≤1048576∧1≤c.unbonding:=fun h=>by have:=hc 11 (by omega) h;simp[fieldB,bt] at this;omega
 have h15:15≤k→1≤c.visits∧c.visits≤4096:=fun h=>by have:=hc 15 (by omega) h;simp[fieldB,bt] at this;omega
 have h16:16≤k→1≤c.payments∧c.payments≤4096:=fun h=>by have:=hc 16 (by omega) h;simp[fieldB,bt] at this;omega
 have il:IL 2:=⟨trivial⟩
 rcases (by omega:k=0∨k=1∨k=2∨k=3∨k=4∨k=5∨k=6∨k=7∨k=8∨k=9∨k=10∨k=11∨k=12∨k=13∨k=14∨k=15∨k=16∨k=17∨k=18∨k=19) with rfl|rfl|rfl|rfl|rfl|rfl|rfl|rfl|rfl|rfl|rfl|rfl|rfl|rfl|rfl|rfl|rfl|rfl|rfl|rfl
 ·refine⟨_,inferInstance,rfl,fun R=>?_⟩;(intro G w M;refine sx_enter Tryz.func241 (n:=6) rfl rfl rfl rfl ?_;intro a F;(try simp only[zc,zn] at M));((try refine zI zk241 F M ?_;clear F M a;try clear w);(repeat'(first|refine zA ?_;repeat intro nb|refine zB ?_ ?_<;>intro hc<;>try exact no hc|refine zH ?_ ?_<;>(intro hg;rw[hg];try exact no hg)));all_goals try refine zO fun a w F M=>?_);((all_goals refine zE F M ?_);(all_goals exact⟨_,_,rfl,⟨by first|rfl|(simp_all [fieldB,bt,tupOf];done)|(simp_all [fieldB,bt,tupOf];omega)|(simp only[decide_eq_true_eq,decide_eq_false_iff_not] at *;simp only[fieldB,bt,tupOf];congr 1;rw[Bool.eq_iff_iff];simp only[Bool.and_eq_true,decide_eq_true_eq,Bool.false_eq_true,false_iff];first|omega|(split<;>omega)),rfl⟩,M.perms permsA⟩))
 ·refine⟨_,inferInstance,rfl,fun R=>?_⟩;(intro G w M;refine sx_enter Tryz.func243 (n:=6) rfl rfl rfl rfl ?_;intro a F;(try simp only[zc,zn] at M));((try refine zI zk243 F M ?_;clear F M a;try clear w);(repeat'(first|refine zA ?_;repeat intro nb|refine zB ?_ ?_<;>intro hc<;>try exact no hc|refine zH ?_ ?_<;>(intro hg;rw[hg];try exact no hg)));all_goals try refine zO fun a w F M=>?_);((all_goals refine zE F M ?_);(all_goals exact⟨_,_,rfl,⟨by first|rfl|(simp_all [fieldB,bt,tupOf];done)|(simp_all [fieldB,bt,tupOf];omega)|(simp only[decide_eq_true_eq,decide_eq_false_iff_not] at *;simp only[fieldB,bt,tupOf];congr 1;rw[Bool.eq_iff_iff];simp only[Bool.and_eq_true,decide_eq_true_eq,Bool.false_eq_true,false_iff];first|omega|(split<;>omega)),rfl⟩,M.perms permsA⟩))
 ·refine⟨_,inferInstance,rfl,fun R=>?_⟩;(intro G w M;refine sx_enter Tryz.func244 (n:=6) rfl rfl rfl rfl ?_;intro a F;(try simp only[zc,zn] at M));((try refine zI zk244 F M ?_;clear F M a;try clear w);(repeat'(first|refine zA ?_;repeat intro nb|refine zB ?_ ?_<;>intro hc<;>try exact no hc|refine zH ?_ ?_<;>(intro hg;rw[hg];try exact no hg)));all_goals try refine zO fun a w F M=>?_);((all_goals refine zE F M ?_);(all_goals exact⟨_,_,rfl,⟨by first|rfl|(simp_all [fieldB,bt,tupOf];done)|(simp_all [fieldB,bt,tupOf];omega)|(simp only[decide_eq_true_eq,decide_eq_false_iff_not] at *;simp only[fieldB,bt,tupOf];congr 1;rw[Bool.eq_iff_iff];simp only[Bool.and_eq_true,decide_eq_true_eq,Bool.false_eq_true,false_iff];first|omega|(split<;>omega)),rfl⟩,M.perms permsA⟩))
 ·refine⟨_,inferInstance,rfl,fun R=>?_⟩;(intro G w M;refine sx_enter Tryz.func245 (n:=8) rfl rfl rfl rfl ?_;intro a F;(try simp only[zc,zn] at M));((try refine zI zk245 F M ?_;clear F M a;try clear w);(repeat'(first|refine zA ?_;repeat intro nb|refine zB ?_ ?_<;>intro hc<;>try exact no hc|refine zH ?_ ?_<;>(intro hg;rw[hg];try exact no hg)));all_goals try refine zO fun a w F M=>?_);((all_goals refine zE F M ?_);(all_goals exact⟨_,_,rfl,⟨by first|rfl|(simp_all [fieldB,bt,tupOf];done)|(simp_all [fieldB,bt,tupOf];omega)|(simp only[decide_eq_true_eq,decide_eq_false_iff_not] at *;simp only[fieldB,bt,tupOf];congr 1;rw[Bool.eq_iff_iff];simp only[Bool.and_eq_true,decide_eq_true_eq,Bool.false_eq_true,false_iff];first|omega|(split<;>omega)),rfl⟩,M.perms permsA⟩))
 ·refine⟨_,inferInstance,rfl,fun R=>?_⟩;(intro G w M;refine sx_enter Tryz.func246 (n:=8) rfl rfl rfl rfl ?_;intro a F;(try simp only[zc,zn] at M));((try refine zI zk246 F M ?_;clear F M a;try clear w);(repeat'(first|refine zA ?_;repeat intro nb|refine zB ?_ ?_<;>intro hc<;>try exact no hc|refine zH ?_ ?_<;>(intro hg;rw[hg];try exact no hg)));all_goals try refine zO fun a w F M=>?_);((all_goals refine zE F M ?_);(all_goals exact⟨_,_,rfl,⟨by first|rfl|(simp_all [fieldB,bt,tupOf];done)|(simp_all [fieldB,bt,tupOf];omega)|(simp only[decide_eq_true_eq,decide_eq_false_iff_not] at *;simp only[fieldB,bt,tupOf];congr 1;rw[Bool.eq_iff_iff];simp only[Bool.and_eq_true,decide_eq_true_eq,Bool.false_eq_true,false_iff];first|omega|(split<;>omega)),rfl⟩,M.perms permsA⟩))
 ·refine⟨_,inferInstance,rfl,fun R=>?_⟩;(intro G w M;refine sx_enter Tryz.func248 (n:=8) rfl rfl rfl rfl ?_;intro a F;(try simp only[zc,zn] at M));((try refine zI zk248 F M ?_;clear F M a;try clear w);(repeat'(first|refine zA ?_;repeat intro nb|refine zB ?_ ?_<;>intro hc<;>try exact no hc|refine zH ?_ ?_<;>(intro hg;rw[hg];try exact no hg)));all_goals try refine zO fun a w F M=>?_);((all_goals refine zE F M ?_);(all_goals exact⟨_,_,rfl,⟨by first|rfl|(simp_all [fieldB,bt,tupOf];done)|(simp_all [fieldB,bt,tupOf];omega)|(simp only[decide_eq_true_eq,decide_eq_false_iff_not] at *;simp only[fieldB,bt,tupOf];congr 1;rw[Bool.eq_iff_iff];simp only[Bool.and_eq_true,decide_eq_true_eq,Bool.false_eq_true,false_iff];first|omega|(split<;>omega)),rfl⟩,M.perms permsA⟩))
 ·refine⟨_,inferInstance,rfl,fun R=>?_⟩;(intro G w M;refine sx_enter Tryz.func249 (n:=10) rfl rfl rfl rfl ?_;intro a F;(try simp only[zc,zn] at M));((try refine zI zk249 F M ?_;clear F M a;try clear w);(repeat'(first|refine zA ?_;repeat intro nb|refine zB ?_ ?_<;>intro hc<;>try exact no hc|refine zH ?_ ?_<;>(intro hg;rw[hg];try exact no hg)));all_goals try refine zO fun a w F M=>?_);((all_goals refine zE F M ?_);(all_goals exact⟨_,_,rfl,⟨by first|rfl|(simp_all [fieldB,bt,tupOf];done)|(simp_all [fieldB,bt,tupOf];omega)|(simp only[decide_eq_true_eq,decide_eq_false_iff_not] at *;simp only[fieldB,bt,tupOf];congr 1;rw[Bool.eq_iff_iff];simp only[Bool.and_eq_true,decide_eq_true_eq,Bool.false_eq_true,false_iff];first|omega|(split<;>omega)),rfl⟩,M.perms permsA⟩))
 ·refine⟨_,inferInstance,rfl,fun R=>?_⟩;(intro G w M;refine sx_enter Tryz.func250 (n:=6) rfl rfl rfl rfl ?_;intro a F;(try simp only[zc,zn] at M));((try refine zI zk250 F M ?_;clear F M a;try clear w);(repeat'(first|refine zA ?_;repeat intro nb|refine zB ?_ ?_<;>intro hc<;>try exact no hc|refine zH ?_ ?_<;>(intro hg;rw[hg];try exact no hg)));all_goals try refine zO fun a w F M=>?_);((all_goals refine zE F M ?_);(all_goals exact⟨_,_,rfl,⟨by first|rfl|(simp_all [fieldB,bt,tupOf];done)|(simp_all [fieldB,bt,tupOf];omega)|(simp only[decide_eq_true_eq,decide_eq_false_iff_not] at *;simp only[fieldB,bt,tupOf];congr 1;rw[Bool.eq_iff_iff];simp only[Bool.and_eq_true,decide_eq_true_eq,Bool.false_eq_true,false_iff];first|omega|(split<;>omega)),rfl⟩,M.perms permsA⟩))
 ·refine⟨_,inferInstance,rfl,fun R=>?_⟩;(intro G w M;refine sx_enter Tryz.func251 (n:=6) rfl rfl rfl rfl ?_;intro a F;(try simp only[zc,zn] at M));((try refine zI zk251 F M ?_;clear F M a;try clear w);(repeat'(first|refine zA ?_;repeat intro nb|refine zB ?_ ?_<;>intro hc<;>try exact no hc|refine zH ?_ ?_<;>(intro hg;rw[hg];try exact no hg)));all_goals try refine zO fun a w F M=>?_);((all_goals refine zE F M ?_);(all_goals exact⟨_,_,rfl,⟨by first|rfl|(simp_all [fieldB,bt,tupOf];done)|(simp_all [fieldB,bt,tupOf];omega)|(simp only[decide_eq_true_eq,decide_eq_false_iff_not] at *;simp only[fieldB,bt,tupOf];congr 1;rw[Bool.eq_iff_iff];simp only[Bool.and_eq_true,decide_eq_true_eq,Bool.false_eq_true,false_iff];first|omega|(split<;>omega)),rfl⟩,M.perms permsA⟩))
 ·refine⟨_,inferInstance,rfl,fun R=>?_⟩;(intro G w M;refine sx_enter Tryz.func252 (n:=6) rfl rfl rfl rfl ?_;intro a F;(try simp only[zc,zn] at M));((try refine zI zk252 F M ?_;clear F M a;try clear w);(repeat'(first|refine zA ?_;repeat intro nb|refine zB ?_ ?_<;>intro hc<;>try exact no hc|refine zH ?_ ?_<;>(intro hg;rw[hg];try exact no hg)));all_goals try refine zO fun a w F M=>?_);((all_goals refine zE F M ?_);(all_goals exact⟨_,_,rfl,⟨by first|rfl|(simp_all [fieldB,bt,tupOf];done)|(simp_all [fieldB,bt,tupOf];omega)|(simp only[decide_eq_true_eq,decide_eq_false_iff_not] at *;simp only[fieldB,bt,tupOf];congr 1;rw[Bool.eq_iff_iff];simp only[Bool.and_eq_true,decide_eq_true_eq,Bool.false_eq_true,false_iff];first|omega|(split<;>omega)),rfl⟩,M.perms permsA⟩))
 ·refine⟨_,inferInstance,rfl,fun R=>?_⟩;(intro G w M;refine sx_enter Tryz.func253 (n:=6) rfl rfl rfl rfl ?_;intro a F;(try simp only[zc,zn] at M));((try refine zI zk253 F M ?_;clear F M a;try clear w);(repeat'(first|refine zA ?_;repeat intro nb|refine zB ?_ ?_<;>intro hc<;>try exact no hc|refine zH ?_ ?_<;>(intro hg;rw[hg];try exact no hg)));all_goals try refine zO fun a w F M=>?_);((all_goals refine zE F M ?_);(all_goals exact⟨_,_,rfl,⟨by first|rfl|(simp_all [fieldB,bt,tupOf];done)|(simp_all [fieldB,bt,tupOf];omega)|(simp only[decide_eq_true_eq,decide_eq_false_iff_not] at *;simp only[fieldB,bt,tupOf];congr 1;rw[Bool.eq_iff_iff];simp only[Bool.and_eq_true,decide_eq_true_eq,Bool.false_eq_true,false_iff];first|omega|(split<;>omega)),rfl⟩,M.perms permsA⟩))
 ·have h12:=h11 (by omega);refine⟨_,inferInstance,rfl,fun R=>?_⟩;(intro G w M;refine sx_enter Tryz.func254 (n:=9) rfl rfl rfl rfl ?_;intro a F;(try simp only[zc,zn] at M));((try refine zI zk254 F M ?_;clear F M a;try clear w);(repeat'(first|refine zA ?_;repeat intro nb|refine zB ?_ ?_<;>intro hc<;>try exact no hc|refine zH ?_ ?_<;>(intro hg;rw[hg];try exact no hg)));all_goals try refine zO fun a w F M=>?_);((all_goals refine zE F M ?_);(all_goals exact⟨_,_,rfl,⟨by first|rfl|(simp_all [fieldB,bt,tupOf];done)|(simp_all [fieldB,bt,tupOf];omega)|(simp only[decide_eq_true_eq,decide_eq_false_iff_not] at *;simp only[fieldB,bt,tupOf];congr 1;rw[Bool.eq_iff_iff];simp only[Bool.and_eq_true,decide_eq_true_eq,Bool.false_eq_true,false_iff];first|omega|(split<;>omega)),rfl⟩,M.perms permsA⟩))
 ·refine⟨_,inferInstance,rfl,fun R=>?_⟩;(intro G w M;refine sx_enter Tryz.func255 (n:=6) rfl rfl rfl rfl ?_;intro a F;(try simp only[zc,zn] at M));((try refine zI zk255 F M ?_;clear F M a;try clear w);(repeat'(first|refine zA ?_;repeat intro nb|refine zB ?_ ?_<;>intro hc<;>try exact no hc|refine zH ?_ ?_<;>(intro hg;rw[hg];try exact no hg)));all_goals try refine zO fun a w F M=>?_);((all_goals refine zE F M ?_);(all_goals exact⟨_,_,rfl,⟨by first|rfl|(simp_all [fieldB,bt,tupOf];done)|(simp_all [fieldB,bt,tupOf];omega)|(simp only[decide_eq_true_eq,decide_eq_false_iff_not] at *;simp only[fieldB,bt,tupOf];congr 1;rw[Bool.eq_iff_iff];simp only[Bool.and_eq_true,decide_eq_true_eq,Bool.false_eq_true,false_iff];first|omega|(split<;>omega)),rfl⟩,M.perms permsA⟩))
 ·refine⟨_,inferInstance,rfl,fun R=>?_⟩;(intro G w M;refine sx_enter Tryz.func256 (n:=6) rfl rfl rfl rfl ?_;intro a F;(try simp only[zc,zn] at M));((try refine zI zk256 F M ?_;clear F M a;try clear w);(repeat'(first|refine zA ?_;repeat intro nb|refine zB ?_ ?_<;>intro hc<;>try exact no hc|refine zH ?_ ?_<;>(intro hg;rw[hg];try exact no hg)));all_goals try refine zO fun a w F M=>?_);((all_goals refine zE F M ?_);(all_goals exact⟨_,_,rfl,⟨by first|rfl|(simp_all [fieldB,bt,tupOf];done)|(simp_all [fieldB,bt,tupOf];omega)|(simp only[decide_eq_true_eq,decide_eq_false_iff_not] at *;simp only[fieldB,bt,tupOf];congr 1;rw[Bool.eq_iff_iff];simp only[Bool.and_eq_true,decide_eq_true_eq,Bool.false_eq_true,false_iff];first|omega|(split<;>omega)),rfl⟩,M.perms permsA⟩))
 ·refine⟨_,inferInstance,rfl,fun R=>?_⟩;(intro G w M;refine sx_enter Tryz.func257 (n:=6) rfl rfl rfl rfl ?_;intro a F;(try simp only[zc,zn] at M));((try refine zI zk257 F M ?_;clear F M a;try clear w);(repeat'(first|refine zA ?_;repeat intro nb|refine zB ?_ ?_<;>intro hc<;>try exact no hc|refine zH ?_ ?_<;>(intro hg;rw[hg];try exact no hg)));all_goals try refine zO fun a w F M=>?_);((all_goals refine zE F M ?_);(all_goals exact⟨_,_,rfl,⟨by first|rfl|(simp_all [fieldB,bt,tupOf];done)|(simp_all [fieldB,bt,tupOf];omega)|(simp only[decide_eq_true_eq,decide_eq_false_iff_not] at *;simp only[fieldB,bt,tupOf];congr 1;rw[Bool.eq_iff_iff];simp only[Bool.and_eq_true,decide_eq_true_eq,Bool.false_eq_true,false_iff];first|omega|(split<;>omega)),rfl⟩,M.perms permsA⟩))
 ·refine⟨_,inferInstance,rfl,fun R=>?_⟩;(intro G w M;refine sx_enter Tryz.func258 (n:=6) rfl rfl rfl rfl ?_;intro a F;(try simp only[zc,zn] at M));((try refine zI zk258 F M ?_;clear F M a;try clear w);(repeat'(first|refine zA ?_;repeat intro nb|refine zB ?_ ?_<;>intro hc<;>try exact no hc|refine zH ?_ ?_<;>(intro hg;rw[hg];try exact no hg)));all_goals try refine zO fun a w F M=>?_);((all_goals refine zE F M ?_);(all_goals exact⟨_,_,rfl,⟨by first|rfl|(simp_all [fieldB,bt,tupOf];done)|(simp_all [fieldB,bt,tupOf];omega)|(simp only[decide_eq_true_eq,decide_eq_false_iff_not] at *;simp only[fieldB,bt,tupOf];congr 1;rw[Bool.eq_iff_iff];simp only[Bool.and_eq_true,decide_eq_true_eq,Bool.false_eq_true,false_iff];first|omega|(split<;>omega)),rfl⟩,M.perms permsA⟩))
 ·have h17:=h15 (by omega);have h18:=h16 (by omega);refine⟨_,inferInstance,rfl,fun R=>?_⟩;(intro G w M;refine sx_enter Tryz.func259 (n:=12) rfl rfl rfl rfl ?_;intro a F;(try simp only[zc,zn] at M));((try refine zI zk259 F M ?_;clear F M a;try clear w);(repeat'(first|refine zA ?_;repeat intro nb|refine zB ?_ ?_<;>intro hc<;>try exact no hc|refine zH ?_ ?_<;>(intro hg;rw[hg];try exact no hg)));all_goals try refine zO fun a w F M=>?_);((all_goals refine zE F M ?_);(all_goals exact⟨_,_,rfl,⟨by first|rfl|(simp_all [fieldB,bt,tupOf];done)|(simp_all [fieldB,bt,tupOf];omega)|(simp only[decide_eq_true_eq,decide_eq_false_iff_not] at *;simp only[fieldB,bt,tupOf];congr 1;rw[Bool.eq_iff_iff];simp only[Bool.and_eq_true,decide_eq_true_eq,Bool.false_eq_true,false_iff];first|omega|(split<;>omega)),rfl⟩,M.perms permsA⟩))
 ·refine⟨_,inferInstance,rfl,fun R=>?_⟩;(intro G w M;refine sx_enter Tryz.func260 (n:=6) rfl rfl rfl rfl ?_;intro a F;(try simp only[zc,zn] at M));((try refine zI zk260 F M ?_;clear F M a;try clear w);(repeat'(first|refine zA ?_;repeat intro nb|refine zB ?_ ?_<;>intro hc<;>try exact no hc|refine zH ?_ ?_<;>(intro hg;rw[hg];try exact no hg)));all_goals try refine zO fun a w F M=>?_);((all_goals refine zE F M ?_);(all_goals exact⟨_,_,rfl,⟨by first|rfl|(simp_all [fieldB,bt,tupOf];done)|(simp_all [fieldB,bt,tupOf];omega)|(simp only[decide_eq_true_eq,decide_eq_false_iff_not] at *;simp only[fieldB,bt,tupOf];congr 1;rw[Bool.eq_iff_iff];simp only[Bool.and_eq_true,decide_eq_true_eq,Bool.false_eq_true,false_iff];first|omega|(split<;>omega)),rfl⟩,M.perms permsA⟩))
 ·refine⟨_,inferInstance,rfl,fun R=>?_⟩;(intro G w M;refine sx_enter Tryz.func261 (n:=8) rfl rfl rfl rfl ?_;intro a F;(try simp only[zc,zn] at M));((try refine zI zk261 F M ?_;clear F M a;try clear w);(repeat'(first|refine zA ?_;repeat intro nb|refine zB ?_ ?_<;>intro hc<;>try exact no hc|refine zH ?_ ?_<;>(intro hg;rw[hg];try exact no hg)));all_goals try refine zO fun a w F M=>?_);((all_goals refine zE F M ?_);(all_goals exact⟨_,_,rfl,⟨by first|rfl|(simp_all [fieldB,bt,tupOf];done)|(simp_all [fieldB,bt,tupOf];omega)|(simp only[decide_eq_true_eq,decide_eq_false_iff_not] at *;simp only[fieldB,bt,tupOf];congr 1;rw[Bool.eq_iff_iff];simp only[Bool.and_eq_true,decide_eq_true_eq,Bool.false_eq_true,false_iff];first|omega|(split<;>omega)),rfl⟩,M.perms permsA⟩))
 ·refine⟨_,inferInstance,rfl,fun R=>?_⟩;(intro G w M;refine sx_enter Tryz.func262 (n:=6) rfl rfl rfl rfl ?_;intro a F;(try simp only[zc,zn] at M));((try refine zI zk262 F M ?_;clear F M a;try clear w);(repeat'(first|refine zA ?_;repeat intro nb|refine zB ?_ ?_<;>intro hc<;>try exact no hc|refine zH ?_ ?_<;>(intro hg;rw[hg];try exact no hg)));all_goals try refine zO fun a w F M=>?_);((all_goals refine zE F M ?_);(all_goals exact⟨_,_,rfl,⟨by first|rfl|(simp_all [fieldB,bt,tupOf];done)|(simp_all [fieldB,bt,tupOf];omega)|(simp only[decide_eq_true_eq,decide_eq_false_iff_not] at *;simp only[fieldB,bt,tupOf];congr 1;rw[Bool.eq_iff_iff];simp only[Bool.and_eq_true,decide_eq_true_eq,Bool.false_eq_true,false_iff];first|omega|(split<;>omega)),rfl⟩,M.perms permsA⟩))
theorem check_spec (R:List Asn):Spec 121 [cfgV c] R fun u L'=>u=.int .i64 (checkF c)∧L'=R:=by
 generalize hR:checkF c=r
 refine zGz zk121 Tryz.func121 ?_;intro G;(repeat'(first|refine zA ?_;repeat intro nb|refine zC ?_;refine kpW (k:=168) (conditions_spec _) ?_|refine zB ?_ ?_<;>intro hc<;>try exact no hc|refine zH ?_ ?_<;>(intro hg;rw[hg];try exact no hg)));all_goals try refine zO fun a w F M=>?_
 refine svLoop F M (0:Nat) (fun k=>[(6,.int .i64 k)]) (fun _=>[]) (fun k=>k≤20∧checkGo c (20 - k) (k+1)=r∧∀ i,1≤i→i≤k→fieldB c i=true) (fun k=>20 - k) [] ⟨by omega,hR,by omega⟩ ?_
 (rintro k ⟨q1,q2,q3⟩ a w F M;(try simp only[zc,zn] at F M q1 q2 q3 ⊢))
 by_cases hk:k<20
 ·obtain ⟨f,hf,hd,hs⟩:=cond_at c k hk q3
  have hk2:20 - k=(20 - (k+1))+1:=by omega
  rw[hk2,checkGo] at q2
  cases hb:fieldB c (k+1) with
  | true =>
   rw[hb] at q2 hs
   (try refine zI zk121 F M ?_;clear F M a;try clear w);(repeat'(first|refine zV (h:=⟨_,by((apply rt_idxA;(exact rfl);(exact rfl);(exact rfl);(exact inferInstance);(exact inferInstance);omega;omega;(exact hd))),?_⟩)|refine zA1 ?_;repeat intro(nb:Nat)|refine zC ?_;refine kpW (k:=f) (hs _) ?_|refine zB ?_ ?_<;>intro hc<;>try exact no hc|refine zH ?_ ?_<;>(intro hg;rw[hg];try exact no hg)));all_goals try refine zO fun a w F M=>?_
   refine sv_again F M (k+1) kpA permsA ⟨by omega,by simpa using q2,fun i h1 h2=>?_⟩ (by omega)
   rcases (by omega:i≤k∨i=k+1) with h|rfl
   ·exact q3 i h1 h
   ·exact hb
  | false =>
   rw[hb] at q2 hs
   (try refine zI zk121 F M ?_;clear F M a;try clear w);(repeat'(first|refine zV (h:=⟨_,by((apply rt_idxA;(exact rfl);(exact rfl);(exact rfl);(exact inferInstance);(exact inferInstance);omega;omega;(exact hd))),?_⟩)|refine zA1 ?_;repeat intro(nb:Nat)|refine zC ?_;refine kpW (k:=f) (hs _) ?_|refine zB ?_ ?_<;>intro hc<;>try exact no hc|refine zH ?_ ?_<;>(intro hg;rw[hg];try exact no hg)));all_goals try refine zO fun a w F M=>?_
   (all_goals(refine zE F M ?_;exact⟨_,_,rfl,⟨by rw[← q2];simp[tupOf],rfl⟩,M.perms permsA⟩))
 ·obtain rfl:k=20:=by omega
  (try refine zI zk121 F M ?_;clear F M a;try clear w);(repeat'(first|refine zA ?_;repeat intro nb|refine zB ?_ ?_<;>intro hc<;>try exact no hc|refine zH ?_ ?_<;>(intro hg;rw[hg];try exact no hg)));all_goals try refine zO fun a w F M=>?_
  (all_goals(refine zE F M ?_;exact⟨_,_,rfl,⟨by rw[← q2];rfl,rfl⟩,M.perms permsA⟩))
theorem valid_spec (R:List Asn):Spec 66 [cfgV c] R fun u L'=>u=.bool (decide (checkF c=0))∧L'=R:=by
 refine zGz zk66 Tryz.func66 ?_;intro G;(repeat'(first|refine zA ?_;repeat intro nb|refine zC ?_;refine kpW (k:=121) (check_spec c _) ?_|refine zB ?_ ?_<;>intro hc<;>try exact no hc|refine zH ?_ ?_<;>(intro hg;rw[hg];try exact no hg)));all_goals try refine zO fun a w F M=>?_
 (all_goals(refine zE F M ?_;exact⟨_,_,rfl,⟨by simp[tupOf],rfl⟩,M.perms permsA⟩))
end
section
open Go.RowKit
section
variable {o:Oper} {n:Nat} {l:List (Nat × Value)} {L:List Asn} {C:Value→List Asn→Prop}
theorem ac_makeSlice {t:TypeId} {x y:Operand} (ho:o.op=.makeSlice t x y) {e:TypeId} {z:Value} {size bytes:Nat} (ht:ST t e z size bytes) {kl kc:IntKind} {m:Nat} (hx:evl l x=some (.int kl (m:Int))) (hy:evl l y=some (.int kc (m:Int))) (hb:bytes*m≤281474976710656) (hm:m≤140737488355328)
  (h:∀ b,C (sl ⟨some ⟨b,0,none⟩,m,m⟩) (own e size (sl ⟨some ⟨b,0,none⟩,m,m⟩) m (madeCells z.cells (m*size)).toList::L)):AC o l L n C:=fun G a w F M=>by
 obtain ⟨i,hu,hi,hzi,hsz,hby,hzs,hpos⟩:=st_info ht
 have hb':(i.bytes:Int)*(m:Int)≤281474976710656:=by
  rw[hby]
  have h:((bytes*m:Nat):Int)≤281474976710656:=by omega
  rwa [Int.natCast_mul] at h
 have hr:=run_make (P:=Tryz.prog) w t e i z hu hi hzi kl kc m m (by omega) (by omega) hb' (by omega)
 simp only[Int.toNat_natCast,hsz] at hr
 have:(execOp a.eval o).run Tryz.prog w=.ok (.value (sl ⟨some ⟨w.heap.size,0,none⟩,m,m⟩)) (w.alloc (.cells (madeCells z.cells (m*size)) e)):=by
  unfold execOp
  rw[ho]
  simp[F.eval hx,F.eval hy,hr,sl]
 rw[this]
 refine⟨_,h w.heap.size,?_⟩
 have M1:=M.alloc (madeCells z.cells (m*size)).toList e
 simp only[Array.toArray_toList] at M1
 exact Mem.own_pt M1 (by rw[Array.length_toList,size_madeCells]) (by simp only[maxLen];omega)
theorem ac_copy {x y:Operand} {ats:Array TypeId} {t u:TypeId} (ho:o.op=.call {callee:=.builtin .copy,args:=#[x,y],argTypes:=ats}) (hat:ats = #[t,u]) {e:TypeId} {z:Value} {size bytes:Nat} (ht:ST t e z size bytes) {b j dl dc:Nat} (hx:evl l x=some (.slice (some ⟨b,j*size,none⟩) dl dc))
  {v:Value} (hy:evl l y=some v) {k:Nat} {cs:List Value} (hg:GS L size v k cs) (hone:∀ c∈cs,c.oneCell'=true) {m cap:Nat} {xs:List Value} {L':List Asn} (hp:Pull L (own e size (sl ⟨some ⟨b,0,none⟩,m,cap⟩) m xs) L') (hj:j+dl≤m) (hk:k≤dl)
  (h:C (.int .i64 k) (own e size (sl ⟨some ⟨b,0,none⟩,m,cap⟩) m (xs.take (j*size)++cs++xs.drop (j*size+cs.length))::L')):AC o l L n C:=fun G a w F M=>by
 subst hat
 obtain ⟨i,hu,hi,hzi,hsz,hby,hzs,hpos⟩:=st_info ht
 have hs:=hg w M.drop_app
 have M1:=M.pull (hp.app G)
 obtain ⟨s,ho1,hlt⟩:=M1.head
 obtain ⟨hlen,h8|⟨g,cap',cur,h8,_,h3,h4,h5,h6,h7⟩⟩:=ho1
 ·simp[sl] at h8
 simp only[sl,Value.slice.injEq,Option.some.injEq,Addr.mk.injEq] at h8
 obtain ⟨⟨rfl,_⟩,_,rfl⟩:=h8
 have hcl:cs.length=k*size:=hs.1
 have hle:j*size+k*size≤m*size:=by rw[← Nat.add_mul];exact Nat.mul_le_mul_right _ (by omega)
 have hle2:m*size≤cap*size:=Nat.mul_le_mul_right _ h4
 have hmin:Nat.min k dl=k:=Nat.min_eq_left hk
 have hst:=run_storeCells_at (P:=Tryz.prog) b (j*size) e cs 0 cur w h3 (by rw[hcl];omega) hone
 simp only[Nat.add_zero] at hst
 have hr:(Builtin.copy_ #[t,u] o.type #[.slice (some ⟨b,j*size,none⟩) dl dc,v]).run Tryz.prog w=.ok (.int .i64 k) (w.setRow b (cur.toList.take (j*size)++cs++cur.toList.drop (j*size+cs.length)).toArray):=by
  rcases hs.2 with⟨⟨a0,cp,rfl⟩,rfl⟩|⟨b2,off,cp,rfl,_,_,hc⟩
  ·have hcs:cs=[]:=List.eq_nil_of_length_eq_zero (by rw[hcl];simp)
   subst hcs
   cases a0 with
   | none=>simp[Builtin.copy_,run_underlying hu,Builtin.lenOf,Builtin.firstCells,sizeOf,typeInfo,hi,hst,goInt]
   | some a0 =>
    have hl:=run_loadCells_list (P:=Tryz.prog) w a0 [] (by simp)
    simp at hl
    simp[Builtin.copy_,run_underlying hu,Builtin.lenOf,Builtin.firstCells,sizeOf,typeInfo,hi,hst,goInt,hl]
  ·have hl:=run_loadCells_list (P:=Tryz.prog) w ⟨b2,off,none⟩ cs (fun q c hq=>by rw[add0];exact hc q c hq)
   rw[hcl] at hl
   simp[Builtin.copy_,run_underlying hu,Builtin.lenOf,Builtin.firstCells,sizeOf,typeInfo,hi,hsz,hmin,hst,goInt,hl]
 have:(execOp a.eval o).run Tryz.prog w=.ok (.value (.int .i64 k)) (w.setRow b (cur.toList.take (j*size)++cs++cur.toList.drop (j*size+cs.length)).toArray):=by
  unfold execOp
  rw[ho]
  simp[resolve,invoke,builtin,F.eval hx,F.eval hy,hr]
 rw[this]
 refine⟨_,h,M1.change fun s' hs'=>?_⟩
 obtain ⟨_,h8|⟨g2,cap2,cur2,h8,rfl,_⟩⟩:=hs'.now
 ·simp[sl] at h8
 simp only[sl,Value.slice.injEq,Option.some.injEq,Addr.mk.injEq] at h8
 obtain ⟨⟨rfl,_⟩,_⟩:=h8
 have lc:cur.toList.length=cap*size:=by rw[Array.length_toList];exact h6
 refine⟨chg_setRow,[b],ok_own ?_ (setRow_heap w b cur _ e _ h3) h4 h5 ?_ ?_,fun x hx=>.inl hx⟩
 ·simp only[List.length_append,List.length_take,List.length_drop,hcl,hlen];omega
 ·simp only[List.size_toArray,List.length_append,List.length_take,List.length_drop,hcl,lc];omega
 ·simp only[List.toList_toArray]
  generalize hA:j*size=A at *
  generalize hB:k*size=B at *
  generalize hN:m*size=N at *
  generalize hD:cap*size=D at *
  rw[← h7,List.take_take,Nat.min_eq_left (by omega),hcl,List.drop_take,List.take_append,List.take_append]
  have l1:(cur.toList.take A).length=A:=by rw[List.length_take];omega
  rw[List.take_of_length_le (l:=cur.toList.take A) (by omega),l1,List.take_of_length_le (l:=cs) (by omega),List.length_append,l1,hcl]
end
end
section
open Go.RowKit
theorem SlR.from {w:World} {size:Nat} {h:SlH} {m:Nat} {xs:List Value} (hs:SlR w size (sl h) m xs) {j:Nat} (hj:j≤m) (hc:m≤h.c):SlR w size (sl (fromH h j size)) (m - j) (xs.drop (j*size)):=by
 obtain ⟨hl,h2⟩:=hs
 obtain ⟨a,n,c⟩:=h
 refine⟨by rw[List.length_drop,hl,Nat.mul_sub_right_distrib],?_⟩
 rcases h2 with⟨⟨p,q,h3⟩,h4⟩|⟨b,off,cap,h3,hb,hm,hcell⟩
 ·simp only[sl,Value.slice.injEq] at h3
  obtain ⟨rfl,rfl,rfl⟩:=h3
  subst h4
  obtain rfl:j=0:=by omega
  exact .inl ⟨⟨_,_,rfl⟩,rfl⟩
 ·simp only[sl,Value.slice.injEq] at h3
  obtain ⟨rfl,rfl,rfl⟩:=h3
  by_cases hjm:j=n
  ·subst hjm
   simp only[fromH,Nat.sub_self]
   exact .inl ⟨⟨_,_,rfl⟩,trivial⟩
  ·have hcj:¬c=j:=by simp only at hc;omega
   refine .inr ⟨b,off+j*size,c - j,?_,hb,by omega,fun i u hu=>?_⟩
   ·simp only[fromH,if_neg hcj,Option.map_some,add0]
   ·rw[List.getElem?_drop] at hu
    have:=hcell (j*size+i) u hu
    rw[Nat.add_assoc];exact this
theorem SlR.to {w:World} {size:Nat} {h:SlH} {m:Nat} {xs:List Value} (hs:SlR w size (sl h) m xs) {j:Nat} (hj:j≤m):SlR w size (sl ⟨h.a,j,h.c⟩) j (xs.take (j*size)):=by
 obtain ⟨hl,h2⟩:=hs
 obtain ⟨a,n,c⟩:=h
 have hle:j*size≤m*size:=Nat.mul_le_mul_right _ hj
 refine⟨by rw[List.length_take];omega,?_⟩
 rcases h2 with⟨⟨p,q,h3⟩,h4⟩|⟨b,off,cap,h3,hb,hm,hcell⟩
 ·subst h4
  obtain rfl:j=0:=by omega
  exact .inl ⟨⟨_,_,rfl⟩,rfl⟩
 ·simp only[sl,Value.slice.injEq] at h3
  obtain ⟨rfl,rfl,rfl⟩:=h3
  refine .inr ⟨b,off,c,rfl,hb,by omega,fun i u hu=>?_⟩
  rw[List.getElem?_take] at hu
  split at hu
  ·exact hcell i u hu
  ·cases hu
section
variable {o:Oper} {n:Nat} {l:List (Nat × Value)} {L:List Asn} {C:Value→List Asn→Prop}
theorem gs_from {L':List Asn} {e:TypeId} {size m:Nat} {h:SlH} {xs:List Value} (hp:Pull L (own e size (sl h) m xs) L') {j:Nat} (hj:j≤m):GS L size (sl (fromH h j size)) (m - j) (xs.drop (j*size)):=fun w M=>by
 have M:=M.pull hp
 obtain ⟨_,h2,_,_⟩:=own_h M
 exact(gs_own (L':=L') .here w M).from hj h2
theorem gs_to {L':List Asn} {e:TypeId} {size m:Nat} {h:SlH} {xs:List Value} (hp:Pull L (own e size (sl h) m xs) L') {j:Nat} (hj:j≤m):GS L size (sl ⟨h.a,j,h.c⟩) j (xs.take (j*size)):=fun w M=>by
 exact(gs_own (L':=L') .here w (M.pull hp)).to hj
theorem madeCells_get (z:Array Value) (n i:Nat) (hi:i<n) (hz:0<z.size):(madeCells z n).toList[i]? = z.toList[i % z.size]?:=by
 have:=Nat.mod_lt i hz
 simp[madeCells,hi,getElem!_pos z (i % z.size) this,this]
theorem made_flat {α:Type} {f:α→List Value} {k:Nat} (he:EL f k) (z0:α) (m:Nat) (hk:0<k):(madeCells (f z0).toArray (m*k)).toList=(List.replicate m z0).flatMap f:=by
 apply List.ext_getElem?
 intro i
 by_cases hi:i<m*k
 ·have hd:i / k<m:=(Nat.div_lt_iff_lt_mul hk).2 hi
  have hm:=Nat.mod_lt i hk
  have e:i=i / k*k+i % k:=by rw[Nat.mul_comm];exact(Nat.div_add_mod i k).symm
  rw[madeCells_get _ _ _ hi (by simp[he.len,hk])]
  have h2:=flat_get he.len (List.replicate m z0) (i / k) (i % k) z0 (by simp[hd]) hm
  rw[← e] at h2
  rw[h2]
  simp[he.len]
 ·have h1:(madeCells (f z0).toArray (m*k)).toList.length=m*k:=by rw[Array.length_toList,size_madeCells]
  have h2:=flat_lenE he (List.replicate m z0)
  rw[List.getElem?_eq_none (by omega),List.getElem?_eq_none (by rw[h2,List.length_replicate];omega)]
theorem rt_fromN {t:TypeId} {x y:Operand} (ho:o.op=.slice t x (some y) none none) {b m c:Nat} (hx:evl l x=some (.slice (some ⟨b,0,none⟩) m c)) {k:IntKind} {j:Nat} (hy:evl l y=some (.int k (j:Int))) {e:TypeId} {z:Value} {size bytes:Nat} (ht:ST t e z size bytes) (h1:j≤m) (h2:j<c):RT o l L n (.slice (some ⟨b,j*size,none⟩) (m - j) (c - j)):=by
 have:=rt_from (L:=L) (n:=n) ho (h:=⟨some ⟨b,0,none⟩,m,c⟩) hx hy ht h1
 have e:sl (fromH ⟨some ⟨b,0,none⟩,m,c⟩ j size)=.slice (some ⟨b,j*size,none⟩) (m - j) (c - j):=by
  simp only[fromH,sl]
  rw[if_neg (by omega)]
  simp[add0]
 rw[e] at this;exact this
theorem ac_makeT {α:Type} {f:α→List Value} {k:Nat} (he:EL f k) (z0:α) (hk:Nat.ble 1 k=true) {t:TypeId} {x y:Operand} (ho:o.op=.makeSlice t x y) {e:TypeId} {z:Value} {bytes:Nat} (ht:ST t e z k bytes) (hz:z.cells=(f z0).toArray) {kl kc:IntKind} {m:Nat} (hx:evl l x=some (.int kl (m:Int))) (hy:evl l y=some (.int kc (m:Int))) (hb:bytes*m≤281474976710656) (hm:m≤140737488355328)
  (h:∀ b,C (sl ⟨some ⟨b,0,none⟩,m,m⟩) (ownT e f k (sl ⟨some ⟨b,0,none⟩,m,m⟩) (List.replicate m z0)::L)):AC o l L n C :=
 ac_makeSlice ho ht hx hy hb hm fun b=>by
  have:=h b
  rw[hz,made_flat he z0 m (Nat.le_of_ble_eq_true hk)]
  unfold ownT at this
  rw[List.length_replicate] at this
  exact this
theorem ac_copyT {α:Type} {f:α→List Value} {x y:Operand} {ats:Array TypeId} {t u:TypeId} (ho:o.op=.call {callee:=.builtin .copy,args:=#[x,y],argTypes:=ats}) (hat:ats = #[t,u]) {e:TypeId} {z:Value} {size bytes:Nat} (ht:ST t e z size bytes) (he:EL f size) {b j dl dc:Nat} (hx:evl l x=some (.slice (some ⟨b,j*size,none⟩) dl dc))
  {v:Value} (hy:evl l y=some v) {k:Nat} {ys:List α} {cs:List Value} (hg:GS L size v k cs) (hcs:cs=ys.flatMap f) (hk:k=ys.length) {cap:Nat} {xs:List α} {hd:SlH} {L':List Asn} (hp:Pull L (ownT e f size (sl hd) xs) L') (hh:hd=⟨some ⟨b,0,none⟩,xs.length,cap⟩) (hj:j+dl≤xs.length) (hkd:ys.length≤dl)
  (h:C (.int .i64 ys.length) (ownT e f size (sl hd) (xs.take j++ys++xs.drop (j+ys.length))::L')):AC o l L n C:=by
 subst hcs;subst hk;subst hh
 refine ac_copy ho hat ht hx hy hg (flat_one ys) (m:=xs.length) (cap:=cap) hp hj hkd ?_
 have hl:(xs.take j++ys++xs.drop (j+ys.length)).length=xs.length:=by simp;omega
 unfold ownT at h
 rw[hl] at h
 have e1:(xs.flatMap f).take (j*size)++ys.flatMap f++(xs.flatMap f).drop (j*size+(ys.flatMap f).length)=(xs.take j++ys++xs.drop (j+ys.length)).flatMap f:=by
  rw[flat_lenE he,← Nat.add_mul,flat_take he.len,flat_drop he.len]
  simp
 rw[e1];exact h
end
end
section
open Go.RowKit
def visN {α:Type} (p:α→Bool):List α→Nat
 | []=>0
 | x::r=>if p x=true then 1 else visN p r+1
theorem visN_all {α:Type} (p:α→Bool):∀ (xs:List α),(∀ x∈xs,p x=false)→visN p xs=xs.length
 | [],_=>rfl
 | x::r,h=>by rw[visN,h x (by simp),visN_all p r fun y hy=>h y (by simp[hy])];simp
theorem visN_at {α:Type} (p:α→Bool):∀ (xs:List α) (i:Nat) (x:α),xs[i]? = some x→(∀ y∈xs.take i,p y=false)→p x=true→visN p xs=i+1
 | [],i,x,h,_,_=>by simp at h
 | y::r,0,x,h,_,hp=>by
  simp at h;subst h
  rw[visN,hp];simp
 | y::r,i+1,x,h,h2,hp=>by
  rw[visN,h2 y (by simp),visN_at p r i x (by simpa using h) (fun z hz=>h2 z (by simp[hz])) hp];simp
section
variable {w:World} {L:List Asn} {α:Type}
def arrA (f:α→Asn) (l:List α):Asn:=exA fun _:Unit=>l.map f
theorem arr_open {f:α→Asn} {l1 l2:List α} {x:α} (M:Mem w (arrA f (l1++x::l2)::L)):Mem w (f x::arrA f (l1++l2)::L):=by
 obtain ⟨_,M⟩:=M.exo
 simp only[List.map_append,List.map_cons,List.append_assoc,zc] at M
 have M:=M.front
 rw[← List.append_assoc,← List.map_append] at M
 exact(Mem.exc (f:=fun _:Unit=>(l1++l2).map f) () (L:=f x::L) M.back).swap
theorem arr_close {f:α→Asn} {l1 l2:List α} {x:α} (M:Mem w (f x::arrA f (l1++l2)::L)):Mem w (arrA f (l1++x::l2)::L):=by
 obtain ⟨_,M⟩:=M.swap.exo
 have M:=M.front
 rw[List.map_append,List.append_assoc] at M
 have M:=M.back
 refine Mem.exc (f:=fun _:Unit=>(l1++x::l2).map f) () ?_
 simp only[List.map_append,List.map_cons,List.append_assoc,zc]
 exact M
theorem arr_nil {f:α→Asn} (M:Mem w L):Mem w (arrA f []::L):=Mem.exc (f:=fun _:Unit=>([]:List α).map f) () M
theorem arr_rep {f:α→Asn} {x:α} (h:∀ {L:List Asn},Mem w L→Mem w (f x::L)) (M:Mem w L):∀ n,Mem w (arrA f (List.replicate n x)::L)
 | 0=>arr_nil M
 | n+1=>by
  have:=arr_close (l1:=[]) (x:=x) (l2:=List.replicate n x) (h (arr_rep h M n))
  simpa[List.replicate_succ] using this
end
def enL (e:Int × Nat):List Value:=[.int .i64 e.1,.int .i64 (e.2:Int)]
instance:EL enL 2:=⟨fun _=>rfl,fun x u h=>by simp[enL] at h;rcases h with rfl|rfl<;>rfl⟩
abbrev enV (e:Int × Nat):Value:=.agg (enL e).toArray
def shL (h:SlH):List Value:=[sl h]
instance:EL shL 1:=⟨fun _=>rfl,fun x u h=>by simp[shL] at h;subst h;rfl⟩
theorem del_en_idx (c:FuncId) [hfk:FK c] (caps:Array Value) (h:SlH) (xs:List (Int × Nat)) (p:(Int × Nat)→Bool) (St:List (Int × Nat)→Asn) (hcl:∀ j x,xs[j]? = some x→∀ R,Spec c (enV x::caps.toList) (St (xs.take j)::R) fun u L'=>u=.bool (p x)∧L'=St (xs.take (j+1))::R) (hmx:xs.length≤1000000) (R:List Asn) :
  Spec 347 [sl h,.func (.func c) #[] caps] (ownT 323 enL 2 (sl h) xs::St []::R) fun u L'=>u=.int .i64 (idxP p xs 0)∧L'=ownT 323 enL 2 (sl h) xs::St (xs.take (visN p xs))::R:=by
 generalize hX:idxP p xs 0=X
 generalize hN:xs.take (visN p xs)=Y
 refine zGz zk347 Tryz.func347 ?_;intro G;(repeat'(first|refine zA ?_;repeat intro nb|refine zB ?_ ?_<;>intro hc<;>try exact no hc|refine zH ?_ ?_<;>(intro hg;rw[hg];try exact no hg)));all_goals try refine zO fun a w F M=>?_
 refine svLoop F M (0:Nat) (fun k=>[(8,.int .i64 k)]) (fun k=>[St (xs.take k)]) (fun k=>k≤xs.length∧idxP p (xs.drop k) k=X∧xs.take (k+visN p (xs.drop k))=Y) (fun k=>xs.length - k) [] ⟨by omega,by simpa using hX,by simpa using hN⟩ ?_ (hR:=by rw[List.take_zero];(repeat (first|exact Pulls.nil|(apply Pulls.cons;(focus ((repeat (first|exact Pull.here|apply Pull.there));done))))))
 (rintro k ⟨q1,q2,q3⟩ a w F M;(try simp only[zc,zn] at F M q1 q2 q3 ⊢))
 by_cases hlt:k<xs.length
 ·obtain ⟨x,hx⟩:∃ x,xs[k]? = some x:=⟨xs[k],by simp[hlt]⟩
  rw[drop_cons hx,idxP] at q2
  rw[drop_cons hx,visN] at q3
  have hs:=hcl k x hx
  cases hp:p x
  all_goals rw[hp] at hs q2 q3
  ·(try refine zI zk347 F M ?_;clear F M a;try clear w);(repeat'(first|refine zA ?_;repeat intro nb|refine zC ?_;refine kp (k:=c) (hs _) ?_|refine zB ?_ ?_<;>intro hc<;>try exact no hc|refine zH ?_ ?_<;>(intro hg;rw[hg];try exact no hg)));all_goals try refine zO fun a w F M=>?_
   refine sv_again F M (k+1) kpA permsA ⟨by omega,by simpa using q2,?_⟩ (by omega)
   rw[← q3];simp only[Bool.false_eq_true,if_false];congr 1;omega
  ·simp only[if_true] at q2 q3
   (try refine zI zk347 F M ?_;clear F M a;try clear w);(repeat'(first|refine zA ?_;repeat intro nb|refine zC ?_;refine kp (k:=c) (hs _) ?_|refine zB ?_ ?_<;>intro hc<;>try exact no hc|refine zH ?_ ?_<;>(intro hg;rw[hg];try exact no hg)));all_goals try refine zO fun a w F M=>?_
   all_goals refine zE F M ?_
   rw[q3] at M
   exact⟨_,_,rfl,⟨by rw[← q2];rfl,rfl⟩,M.perms permsA⟩
 ·rw[List.drop_of_length_le (by omega)] at q2 q3
  simp only[idxP,visN,Nat.add_zero] at q2 q3
  (try refine zI zk347 F M ?_;clear F M a;try clear w);(repeat'(first|refine zA ?_;repeat intro nb|refine zB ?_ ?_<;>intro hc<;>try exact no hc|refine zH ?_ ?_<;>(intro hg;rw[hg];try exact no hg)));all_goals try refine zO fun a w F M=>?_
  all_goals refine zE F M ?_
  rw[q3] at M
  exact⟨_,_,rfl,⟨by rw[← q2];rfl,rfl⟩,M.perms permsA⟩
theorem del_en_del (c:FuncId) [hfk:FK c] (caps:Array Value) (h:SlH) (xs:List (Int × Nat)) (p:(Int × Nat)→Bool) (St:List (Int × Nat)→Asn) (hcl:∀ j x,xs[j]? = some x→∀ R,Spec c (enV x::caps.toList) (St (xs.take j)::R) fun u L'=>u=.bool (p x)∧L'=St (xs.take (j+1))::R) (hmx:xs.length≤1000000) (R:List Asn) :
  Spec 313 [sl h,.func (.func c) #[] caps] (ownT 323 enL 2 (sl h) xs::St []::R) fun u L'=>∃ h',u=sl h'∧L'=ownT 323 enL 2 (sl h') (xs.filter fun x=>!p x)::St xs::R:=by
 intro G w M
 have M:Mem w (ownT 323 enL 2 (sl h) xs::(St []::R++G)):=M
 obtain ⟨hn,hm,hlen,hmax⟩:=own_h M
 simp only[zc] at M
 have hidx:=del_en_idx c caps h xs p St hcl hmx
 (refine zGe Tryz.func313 ?_;intro a F;(try simp only[zc,zn] at M))
 rcases idxP_spec p xs 0 with⟨e1,e2⟩|⟨i0,x0,e1,e2,e3,e4⟩
 ·rw[e1,visN_all p xs e2,List.take_of_length_le (Nat.le_refl _)] at hidx
  (try refine zI zk313 F M ?_;clear F M a;try clear w);(repeat'(first|refine zA ?_;repeat intro nb|refine zC ?_;refine kp (k:=347) (hidx _) ?_|refine zB ?_ ?_<;>intro hc<;>try exact no hc|refine zH ?_ ?_<;>(intro hg;rw[hg];try exact no hg)));all_goals try refine zO fun a w F M=>?_
  all_goals refine zE F M ?_
  refine⟨_,_,rfl,⟨h,rfl,rfl⟩,?_⟩
  rw[filter_all p xs e2]
  exact M.perms permsA
 ·rw[e2,Nat.zero_add,visN_at p xs i0 x0 e1 e3 e4] at hidx
  have hi0:i0<xs.length:=(List.getElem?_eq_some_iff.1 e1).1
  (try refine zI zk313 F M ?_;clear F M a;try clear w);(repeat'(first|refine zA ?_;repeat intro nb|refine zC ?_;refine kp (k:=347) (hidx _) ?_|refine zB ?_ ?_<;>intro hc<;>try exact no hc|refine zH ?_ ?_<;>(intro hg;rw[hg];try exact no hg)));all_goals try refine zO fun a w F M=>?_
  refine svLoop F M ((i0,i0+1,xs):Nat × Nat × List (Int × Nat)) (fun s=>[(5,.int .i64 s.1),(6,.int .i64 s.2.1)]) (fun s=>[ownT 323 enL 2 (sl h) s.2.2,St (xs.take s.2.1)]) (fun s=>s.2.2.length=xs.length∧s.1<s.2.1∧s.2.1≤xs.length∧s.2.2.take s.1=(xs.take s.2.1).filter (fun x=>!p x)∧s.2.2.drop s.2.1=xs.drop s.2.1) (fun s=>xs.length - s.2.1) [7]
   ⟨rfl,by simp only;omega,by simp only;omega,by simp only;rw[List.take_add_one,e1,List.filter_append,filter_all p _ e3];simp[e4],rfl⟩ ?_
  (rintro⟨i,j,ys⟩ ⟨q1,q2,q3,q4,q5⟩ a w F M;(try simp only[zc,zn] at F M q1 q2 q3 q4 q5 ⊢))
  by_cases hlt:j<xs.length
  ·obtain ⟨x,hx⟩:∃ x,xs[j]? = some x:=⟨xs[j],by simp[hlt]⟩
   have hy:ys[j]? = some x:=by
    have:=congrArg (·[0]?) q5
    simpa[hx] using this
   have hj':(j:Int)<ys.length:=by omega
   obtain ⟨u,hu⟩:∃ u,ys[i]? = some u:=⟨ys[i]'(by omega),by rw[List.getElem?_eq_getElem (by omega)]⟩
   have hs:=hcl j x hx
   have ht:(xs.take (j+1)).filter (fun x=>!p x)=(xs.take j).filter (fun x=>!p x)++(if p x=true then [] else [x]):=by
    rw[List.take_add_one,hx,List.filter_append];cases hp:p x<;>simp[hp]
   have hd:ys.drop (j+1)=xs.drop (j+1):=by
    have:=congrArg (List.drop 1) q5
    simpa[List.drop_drop] using this
   cases hp:p x
   all_goals rw[hp] at hs ht
   ·(try refine zI zk313 F M ?_;clear F M a;try clear w);(repeat'(first|refine zA ?_;repeat intro nb|refine zC ?_;(first|refine kp (k:=c) (hs _) ?_|refine ac_storeEA (f:=enL) (v:=sl h) (j:=i) (k:=2) rfl rfl inferInstance x rfl hu inferInstance (by(focus ((repeat (first|exact Rep.here|apply Rep.there));done))) ?_|refine ac_storeE (f:=enL) (v:=sl h) (j:=i) (k:=2) (i:=0) (xs:=ys) rfl rfl inferInstance rfl rfl hu inferInstance rfl x rfl (by(focus ((repeat (first|exact Rep.here|apply Rep.there));done))) ?_)|refine zB ?_ ?_<;>intro hc<;>try exact no hc|refine zH ?_ ?_<;>(intro hg;rw[hg];try exact no hg)));all_goals try refine zO fun a w F M=>?_
    refine sv_again F M (i+1,j+1,ys.set i x) kpA permsA ⟨by simp[q1],by simp only;omega,by simp only;omega,?_,?_⟩ (by simp only;omega)
    ·simp only
     rw[ht,← q4,List.take_add_one,List.take_set,List.set_eq_of_length_le (by rw[List.length_take];omega),List.getElem?_set_self (by omega)]
     simp
    ·simp only
     rw[List.drop_set_of_lt (by omega),hd]
   ·(try refine zI zk313 F M ?_;clear F M a;try clear w);(repeat'(first|refine zA ?_;repeat intro nb|refine zC ?_;(first|refine kp (k:=c) (hs _) ?_|refine ac_storeEA (f:=enL) (v:=sl h) (j:=i) (k:=2) rfl rfl inferInstance x rfl hu inferInstance (by(focus ((repeat (first|exact Rep.here|apply Rep.there));done))) ?_|refine ac_storeE (f:=enL) (v:=sl h) (j:=i) (k:=2) (i:=0) (xs:=ys) rfl rfl inferInstance rfl rfl hu inferInstance rfl x rfl (by(focus ((repeat (first|exact Rep.here|apply Rep.there));done))) ?_)|refine zB ?_ ?_<;>intro hc<;>try exact no hc|refine zH ?_ ?_<;>(intro hg;rw[hg];try exact no hg)));all_goals try refine zO fun a w F M=>?_
    refine sv_again F M (i,j+1,ys) kpA permsA ⟨q1,by simp only;omega,by simp only;omega,by simp only;rw[ht,← q4];simp,hd⟩ (by simp only;omega)
  ·have hjl:j=xs.length:=by omega
   have hin:i≤h.n:=by omega
   have hic:i≤h.c:=by omega
   have hiy:i≤ys.length:=by omega
   rw[hjl,List.take_of_length_le (Nat.le_refl _)] at q4
   have hli:(xs.filter fun x=>!p x).length=i:=by rw[← q4,List.length_take];omega
   have hj':¬((j:Int)<ys.length):=by omega
   rw[show xs.take j=xs by rw[hjl];exact List.take_of_length_le (Nat.le_refl _)] at M
   (try refine zI zk313 F M ?_;clear F M a;try clear w);(repeat'(first|refine zV (h:=⟨_,by((first|(apply rt_from;(exact rfl);(exact rfl);(exact rfl);(exact inferInstance);(exact hin))|(apply rt_to;(exact rfl);(exact rfl);(exact rfl);(exact inferInstance);(exact hic)))),?_⟩)|refine zA1 ?_;repeat intro(nb:Nat)|refine zC ?_;refine ac_clear (h:=h) (j:=i) rfl rfl inferInstance rfl rfl pullA hiy ?_;intro zs hzs|refine zB ?_ ?_<;>intro hc<;>try exact no hc|refine zH ?_ ?_<;>(intro hg;rw[hg];try exact no hg)));all_goals try refine zO fun a w F M=>?_
   all_goals refine zE F M ?_
   refine⟨_,_,rfl,⟨⟨h.a,i,h.c⟩,rfl,rfl⟩,?_⟩
   have M:=own_cut (M.perms (permsA:Perms _ (own _ _ _ _ zs::St xs::(R++G)))) hiy
   rw[hzs,flat_take (f:=enL) (k:=2) (EL.len),q4] at M
   unfold ownT
   rw[hli]
   exact M.perms permsA
end
end Go.Proofs.YtjbfcacmdahnhaaGreat
