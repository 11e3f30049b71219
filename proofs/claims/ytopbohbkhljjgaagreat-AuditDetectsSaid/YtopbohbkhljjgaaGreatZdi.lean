import Derived.Test.YtopbohbkhljjgaaGreatZdh
set_option linter.unusedVariables false
set_option linter.unusedSimpArgs false
set_option maxRecDepth 100000
set_option maxHeartbeats 8000000
namespace Go.Proofs.YtopbohbkhljjgaaGreat
def zd52:List ZR:=[⟨4,[18],[],[],[0,1,2,3,4,5,6,7,8,9,10,11,12,13,14,15,16,17,18,19]⟩]
section
open Go.RowKit
def prL (p:Nat × Nat):List Value:=[.int .i64 (p.1:Int),.int .i64 (p.2:Int)]
instance:EL prL 2:=⟨fun _=>rfl,fun x u h=>by simp[prL] at h;rcases h with rfl|rfl<;>rfl⟩
abbrev prV (p:Nat × Nat):Value:=.agg (prL p).toArray
def rqL (p:Nat × Int):List Value:=[.int .i64 (p.1:Int),.int .u64 p.2]
instance:EL rqL 2:=⟨fun _=>rfl,fun x u h=>by simp[rqL] at h;rcases h with rfl|rfl<;>rfl⟩
abbrev rqV (p:Nat × Int):Value:=.agg (rqL p).toArray
structure rgpH where
 h:SlH
 S:List (Nat × Nat)
 f:Nat
structure rgpOk (size:Nat) (q:List (Nat × Nat)) (z:rgpH):Prop where
 n:q.length≤z.S.length
 s:z.S.length≤size
 p:1≤size∧size≤4096
 f:z.f<z.S.length∨(z.f=0∧z.S=[])
 g:∀ i,i<q.length→z.S[(z.f+i) % z.S.length]? = q[i]?
abbrev rgpP (b size:Nat) (q:List (Nat × Nat)) (z:rgpH):List Asn:=[pt b [sl z.h,.int .i64 size,.int .i64 z.f,.int .i64 q.length] 208,ownT 89 prL 2 (sl z.h) z.S]
def rgpA (b size:Nat) (q:List (Nat × Nat)):Asn:=exA fun z:rgpH=>factA (rgpOk size q z)::rgpP b size q z
theorem rgp_open {w:World} {L:List Asn} {b size:Nat} {q:List (Nat × Nat)} (M:Mem w (rgpA b size q::L)):∃ z,rgpOk size q z∧Mem w (rgpP b size q z++L):=by
 obtain ⟨z,M⟩:=M.exo
 obtain ⟨h,M⟩:=Mem.factO M
 exact⟨z,h,M⟩
theorem rgp_close {w:World} {L:List Asn} {b size:Nat} {q:List (Nat × Nat)} {z:rgpH} (h:rgpOk size q z) (M:Mem w (rgpP b size q z++L)):Mem w (rgpA b size q::L):=Mem.exc z (Mem.fact h M)
theorem rgp_len (b size:Nat) (q:List (Nat × Nat)) (R:List Asn):Spec 162 [ptr b] (rgpA b size q::R) fun u L'=>u=.int .i64 q.length∧L'=rgpA b size q::R:=by
 (intro G w M;obtain ⟨z,hz,M2⟩:=rgp_open (L:=R++G) M;clear M;have M:=M2;clear M2;have h1:=hz.n;have h2:=hz.s;have h3:=hz.p;simp only[zc,zn] at M)
 (refine sx_enter (vs:=([ptr b]:List Value)) Tryz.func162 (n:=9) rfl rfl rfl rfl ?_;intro a F;(try simp only[zc,zn] at M))
 (repeat'(first|(first|refine sx_nil ?_|fail);try replace F:=F.filt zk5 rfl|refine zn1 F M ?_;clear F M a;(try clear w);intro a w F M|refine zT F ?_|refine zY ?_;go_step|fail))
 (all_goals(refine zE F M ?_;exact⟨_,_,rfl,⟨rfl,rfl⟩,rgp_close hz (M.perms permsA)⟩))
theorem rgp_len0 (b:Nat) (v0 v1 v2:Value) (n:Int) (R:List Asn):Spec 162 [ptr b] (pt b [v0,v1,v2,.int .i64 n] 208::R) fun u L'=>u=.int .i64 n∧L'=pt b [v0,v1,v2,.int .i64 n] 208::R:=by
 (intro G w M;refine sx_enter (vs:=([ptr b]:List Value)) Tryz.func162 (n:=9) rfl rfl rfl rfl ?_;intro a F;(try simp only[zc,zn] at M))
 (repeat'(first|(first|refine sx_nil ?_|fail);try replace F:=F.filt zk5 rfl|refine zn1 F M ?_;clear F M a;(try clear w);intro a w F M|refine zT F ?_|refine zY ?_;go_step|fail))
 all_goals exact zX F M
theorem rgp_free (b size:Nat) (q:List (Nat × Nat)) (R:List Asn):Spec 225 [ptr b] (rgpA b size q::R) fun u L'=>u=.int .i64 ((size:Int) - q.length)∧L'=rgpA b size q::R:=by
 (intro G w M;obtain ⟨z,hz,M2⟩:=rgp_open (L:=R++G) M;clear M;have M:=M2;clear M2;have h1:=hz.n;have h2:=hz.s;have h3:=hz.p;simp only[zc,zn] at M)
 (refine sx_enter (vs:=([ptr b]:List Value)) Tryz.func225 (n:=14) rfl rfl rfl rfl ?_;intro a F;(try simp only[zc,zn] at M))
 (repeat'(first|(first|refine sx_nil ?_|refine pv_nil ?_;intro a w F M);try replace F:=F.filt zk5 rfl|refine zn1 F M ?_;clear F M a;(try clear w);intro a w F M|refine zp1 ?_|refine zT F ?_|((with_reducible refine isD ?_);((refine zD zd27 F M ?_;clear F M a w)))|refine zY ?_;go_step|fail))
 (all_goals(refine zE F M ?_;exact⟨_,_,rfl,⟨rfl,rfl⟩,rgp_close hz (M.perms permsA)⟩))
theorem rgp_peekO (b size:Nat) (q:List (Nat × Nat)) (z:rgpH) (hz:rgpOk size q z) (i:Nat) (x:Nat × Nat) (hx:q[i]? = some x) (R:List Asn):Spec 163 [ptr b,.int .i64 i] (rgpP b size q z++R) fun u L'=>u=.tuple [prV x,.bool true].toArray∧L'=rgpP b size q z++R:=by
 intro G w M
 have h1:=hz.n
 have h2:=hz.s
 have h3:=hz.p
 have hi:i<q.length:=(List.getElem?_eq_some_iff.1 hx).1
 have hg:=hz.g i hi
 rw[hx] at hg
 have hzf:z.f<z.S.length:=by rcases hz.f with h|⟨_,h⟩;(· exact h);(exfalso;rw[h,List.length_nil] at h1;omega)
 have hmod:(((z.f:Int)+(i:Int)) % (z.S.length:Int)).toNat=(z.f+i) % z.S.length:=by
  rw[show(z.f:Int)+(i:Int)=((z.f+i:Nat):Int) by omega,← Int.natCast_emod,Int.toNat_natCast]
 have hg':z.S[(((z.f:Int)+(i:Int)) % (z.S.length:Int)).toNat]? = some x:=by rw[hmod];exact hg
 have hm0:0≤((z.f:Int)+(i:Int)) % (z.S.length:Int):=Int.emod_nonneg _ (by omega)
 have hm1:((z.f:Int)+(i:Int)) % (z.S.length:Int)<(z.S.length:Int):=Int.emod_lt_of_pos _ (by omega)
 simp only[zc,zn] at M
 (refine sx_enter (vs:=([ptr b,.int .i64 i]:List Value)) Tryz.func163 (n:=34) rfl rfl rfl rfl ?_;intro a F;(try simp only[zc,zn] at M))
 (repeat'(first|(first|refine sx_nil ?_|refine pv_nil ?_;intro a w F M);try replace F:=F.filt zk28 rfl|refine zn1 F M ?_;clear F M a;(try clear w);intro a w F M|refine sv2 F M ?_;clear F M a;intro nb a w F M|refine zp1 ?_|((first|refine svC F M ?_|fail);(((refine acK (k:=162) (rgp_len0 _ _ _ _ _ _) ?_);rintro u L' ⟨rfl,rfl⟩));(first|clear F M a;intro a w F M|fail))|refine zT F ?_|((with_reducible refine isK ?_);refine svB F ?_ ?_<;>intro hc<;>try exact no hc)|((with_reducible refine isD ?_);((refine zD zd52 F M ?_;clear F M a w)))|refine zY ?_;go_step|fail))
 all_goals exact zX F M
theorem rgp_peek (b size:Nat) (q:List (Nat × Nat)) (i:Nat) (x:Nat × Nat) (hx:q[i]? = some x) (R:List Asn):Spec 163 [ptr b,.int .i64 i] (rgpA b size q::R) fun u L'=>u=.tuple [prV x,.bool true].toArray∧L'=rgpA b size q::R:=by
 intro G w M
 obtain ⟨z,hz,M⟩:=rgp_open M
 refine(rgp_peekO b size q z hz i x hx R G w (by simpa using M)).mono ?_
 rintro e w' ⟨u,L',k1,⟨k2,rfl⟩,k3⟩
 exact⟨u,_,k1,⟨k2,rfl⟩,rgp_close hz (by simpa using k3)⟩
theorem rgp_all (b size:Nat) (q:List (Nat × Nat)) (hq:q.length≤4096) (R:List Asn):Spec 82 [ptr b] (rgpA b size q::R) fun u L'=>∃ h,u=sl h∧L'=ownT 89 prL 2 (sl h) q::rgpA b size q::R:=by
 (intro G w M;refine sx_enter (vs:=([ptr b]:List Value)) Tryz.func82 (n:=24) rfl rfl rfl rfl ?_;intro a F;(try simp only[zc,zn] at M))
 replace M:=M.own_nil 89 2
 (repeat'(first|(first|refine sx_nil ?_|fail);try replace F:=F.filt zk30 rfl|refine zn1 F M ?_;clear F M a;(try clear w);intro a w F M|((first|refine svC F M ?_|fail);(((refine acK (k:=162) (rgp_len b size q _) ?_);rintro u L' ⟨rfl,rfl⟩));(first|clear F M a;intro a w F M|fail))|refine zT F ?_|refine zY ?_;go_step|fail))
 refine svLoop F M ((0,⟨none,0,0⟩):Nat × SlH) (fun z=>[(9,.int .i64 z.1),(3,sl z.2)]) (fun z=>[ownT 89 prL 2 (sl z.2) (q.take z.1)]) (fun z=>z.1≤q.length) (fun z=>q.length - z.1) [4,5,6] (by simp) ?_
 (rintro⟨k,v⟩ q1 a w F M;(try simp only[zc,zn] at F M q1 ⊢))
 try simp only at q1
 by_cases hlt:k<q.length
 ·obtain ⟨x,hx⟩:∃ x,q[k]? = some x:=⟨q[k],by simp[hlt]⟩
  have htk:q.take (k+1)=q.take k++[x]:=by rw[List.take_add_one,hx];rfl
  (repeat'(first|(first|refine sx_nil ?_|fail);try replace F:=F.filt zk30 rfl|refine zn1 F M ?_;clear F M a;(try clear w);intro a w F M|refine sv2 F M ?_;clear F M a;intro nb a w F M|((first|refine svC F M ?_|fail);((first|((refine acK (k:=163) (rgp_peek b size q k x hx _) ?_);rintro u L' ⟨rfl,rfl⟩)|(refine ac_appendH (f:=prL) (xs:=q.take k) (ys:=[x]) rfl rfl inferInstance rfl rfl (by(focus ((repeat (first|exact Pull.here|apply Pull.there));done))) inferInstance (gs_own (by(focus ((repeat (first|exact Pull.here|fail));done)))) rfl rfl (by simp;omega) ?_;intro v3)));(first|clear F M a;intro a w F M|fail))|refine zT F ?_|((with_reducible refine isK ?_);refine svB F ?_ ?_<;>intro hc<;>try exact no hc)|refine zY ?_;go_step|fail))
  exact sv_again F M (k+1,v3) kpA (by simp only;rw[htk];exact permsA) (by simp only;omega) (by simp only;omega)
 ·rw[List.take_of_length_le (by omega)] at M
  (repeat'(first|(first|refine sx_nil ?_|fail);try replace F:=F.filt zk30 rfl|refine zn1 F M ?_;clear F M a;(try clear w);intro a w F M|refine zT F ?_|((with_reducible refine isK ?_);refine svB F ?_ ?_<;>intro hc<;>try exact no hc)|refine zY ?_;go_step|fail))
  (all_goals(refine zE F M ?_;exact⟨_,_,rfl,⟨v,rfl,rfl⟩,M.perms permsA⟩))
theorem rgp_new (size:Nat) (h:1≤size∧size≤4096) (R:List Asn):Spec 61 [.int .i64 size] R fun u L'=>∃ b,u=ptr b∧L'=rgpA b size []::R:=by
 obtain ⟨h1,h2⟩:=h
 (intro G w M;refine sx_enter (vs:=([.int .i64 size]:List Value)) Tryz.func61 (n:=12) rfl rfl rfl rfl ?_;intro a F;(try simp only[zc,zn] at M))
 (repeat'(first|(first|refine sx_nil ?_|fail);try replace F:=F.filt zk21 rfl|refine zn1 F M ?_;clear F M a;(try clear w);intro a w F M|refine sv2 F M ?_;clear F M a;intro nb a w F M|refine zh F ?_ ?_<;>(intro hg;rw[hg] at F;try exact no hg)|refine zT F ?_|((with_reducible refine isK ?_);refine svB F ?_ ?_<;>intro hc<;>try exact no hc)|refine zY ?_;go_step|fail))
 all_goals refine zE F M ?_
 refine⟨_,_,rfl,⟨nb,rfl,rfl⟩,?_⟩
 replace M:=M.own_nil 89 2
 exact rgp_close (z:=⟨⟨none,0,0⟩,[],0⟩) ⟨by simp,by simp,⟨h1,h2⟩,.inr ⟨rfl,rfl⟩,fun i hi=>by simp at hi⟩ (M.perms permsA)
theorem rgp_pop_ok {size:Nat} {x:Nat × Nat} {r:List (Nat × Nat)} {z:rgpH} (h:rgpOk size (x::r) z):rgpOk size r ⟨z.h,z.S.set z.f (0,0),(z.f+1) % z.S.length⟩:=by
 have h1:=h.n
 simp only[List.length_cons] at h1
 have hf:z.f<z.S.length:=by rcases h.f with h|⟨_,h⟩;(· exact h);(exfalso;rw[h,List.length_nil] at h1;omega)
 refine⟨by simp only[List.length_set];omega,by simpa using h.s,h.p,.inl (by simp only[List.length_set];exact Nat.mod_lt _ (by omega)),fun i hi=>?_⟩
 have hg:=h.g (i+1) (by simp;omega)
 simp only[List.length_set,List.getElem?_cons_succ] at hg ⊢
 have e:((z.f+1) % z.S.length+i) % z.S.length=(z.f+(i+1)) % z.S.length:=by rw[Nat.mod_add_mod];congr 1;omega
 rw[e,List.getElem?_set_ne,hg]
 intro hh
 have:(z.f+(i+1)) % z.S.length=z.f:=hh.symm
 by_cases hlt:z.f+(i+1)<z.S.length
 ·rw[Nat.mod_eq_of_lt hlt] at this;omega
 ·rw[Nat.mod_eq_sub_mod (by omega),Nat.mod_eq_of_lt (by omega)] at this;omega
theorem rgp_pop (b size:Nat) (x:Nat × Nat) (r:List (Nat × Nat)) (R:List Asn):Spec 278 [ptr b] (rgpA b size (x::r)::R) fun u L'=>u=.tuple [prV x,.bool true].toArray∧L'=rgpA b size r::R:=by
 (intro G w M;obtain ⟨z,hz,M2⟩:=rgp_open (L:=R++G) M;clear M;have M:=M2;clear M2;have h1:=hz.n;have h2:=hz.s;have h3:=hz.p;simp only[zc,zn] at M)
 have hpk:=rgp_peekO b size (x::r) z hz 0 x rfl
 have hok:=rgp_pop_ok hz
 have hsl:(z.S.set z.f ((0,0))).length=z.S.length:=List.length_set
 simp only[List.length_cons] at h1
 have hf:z.f<z.S.length:=by rcases hz.f with h|⟨_,h⟩;(· exact h);(exfalso;rw[h,List.length_nil] at h1;omega)
 obtain ⟨u0,hu0⟩:∃ u0,z.S[z.f]? = some u0:=⟨z.S[z.f],by simp[hf]⟩
 have e1:((z.f:Int)+1) % (z.S.length:Int)=(((z.f+1) % z.S.length:Nat):Int):=by rw[Int.natCast_emod];rfl
 have e2:(((x::r).length:Nat):Int) - 1=(r.length:Int):=by simp
 have e3:(((x::r).length:Nat):Int)=(r.length:Int)+1:=by simp
 (refine sx_enter (vs:=([ptr b]:List Value)) Tryz.func278 (n:=46) rfl rfl rfl rfl ?_;intro a F;(try simp only[zc,zn] at M))
 (repeat'(first|(first|refine sx_nil ?_|refine pv_nil ?_;intro a w F M);try replace F:=F.filt zk31 rfl|refine zn1 F M ?_;clear F M a;(try clear w);intro a w F M|refine sv2 F M ?_;clear F M a;intro nb a w F M|refine zp1 ?_|((first|refine svC F M ?_|refine pvC0 ?_);((first|((refine acK (k:=163) (hpk _) ?_);rintro u L' ⟨rfl,rfl⟩)|(refine ac_storeEA (f:=prL) (v:=sl z.h) (j:=z.f) (k:=2) rfl rfl inferInstance ((0,0)) rfl hu0 inferInstance (by(focus ((repeat (first|exact Rep.here|apply Rep.there));done))) ?_)|fail));(first|refine⟨rvsA,?_⟩|clear F M a;intro a w F M|fail))|refine zT F ?_|((with_reducible refine isD ?_);((refine zD zd32 F M ?_;clear F M a w)))|refine zY ?_;go_step|fail))
 all_goals refine zE F M ?_
 simp only[List.length_set] at M
 rw[e1,e2] at M
 exact⟨_,_,rfl,⟨rfl,rfl⟩,rgp_close hok (M.perms permsA)⟩
structure rgqH where
 h:SlH
 S:List (Nat × Int)
 f:Nat
structure rgqOk (size:Nat) (q:List (Nat × Int)) (z:rgqH):Prop where
 n:q.length≤z.S.length
 s:z.S.length≤size
 p:1≤size∧size≤4096
 f:z.f<z.S.length∨(z.f=0∧z.S=[])
 g:∀ i,i<q.length→z.S[(z.f+i) % z.S.length]? = q[i]?
abbrev rgqP (b size:Nat) (q:List (Nat × Int)) (z:rgqH):List Asn:=[pt b [sl z.h,.int .i64 size,.int .i64 z.f,.int .i64 q.length] 210,ownT 91 rqL 2 (sl z.h) z.S]
def rgqA (b size:Nat) (q:List (Nat × Int)):Asn:=exA fun z:rgqH=>factA (rgqOk size q z)::rgqP b size q z
theorem rgq_open {w:World} {L:List Asn} {b size:Nat} {q:List (Nat × Int)} (M:Mem w (rgqA b size q::L)):∃ z,rgqOk size q z∧Mem w (rgqP b size q z++L):=by
 obtain ⟨z,M⟩:=M.exo
 obtain ⟨h,M⟩:=Mem.factO M
 exact⟨z,h,M⟩
theorem rgq_close {w:World} {L:List Asn} {b size:Nat} {q:List (Nat × Int)} {z:rgqH} (h:rgqOk size q z) (M:Mem w (rgqP b size q z++L)):Mem w (rgqA b size q::L):=Mem.exc z (Mem.fact h M)
theorem rgq_len (b size:Nat) (q:List (Nat × Int)) (R:List Asn):Spec 164 [ptr b] (rgqA b size q::R) fun u L'=>u=.int .i64 q.length∧L'=rgqA b size q::R:=by
 (intro G w M;obtain ⟨z,hz,M2⟩:=rgq_open (L:=R++G) M;clear M;have M:=M2;clear M2;have h1:=hz.n;have h2:=hz.s;have h3:=hz.p;simp only[zc,zn] at M)
 (refine sx_enter (vs:=([ptr b]:List Value)) Tryz.func164 (n:=9) rfl rfl rfl rfl ?_;intro a F;(try simp only[zc,zn] at M))
 (repeat'(first|(first|refine sx_nil ?_|fail);try replace F:=F.filt zk5 rfl|refine zn1 F M ?_;clear F M a;(try clear w);intro a w F M|refine zT F ?_|refine zY ?_;go_step|fail))
 (all_goals(refine zE F M ?_;exact⟨_,_,rfl,⟨rfl,rfl⟩,rgq_close hz (M.perms permsA)⟩))
theorem rgq_len0 (b:Nat) (v0 v1 v2:Value) (n:Int) (R:List Asn):Spec 164 [ptr b] (pt b [v0,v1,v2,.int .i64 n] 210::R) fun u L'=>u=.int .i64 n∧L'=pt b [v0,v1,v2,.int .i64 n] 210::R:=by
 (intro G w M;refine sx_enter (vs:=([ptr b]:List Value)) Tryz.func164 (n:=9) rfl rfl rfl rfl ?_;intro a F;(try simp only[zc,zn] at M))
 (repeat'(first|(first|refine sx_nil ?_|fail);try replace F:=F.filt zk5 rfl|refine zn1 F M ?_;clear F M a;(try clear w);intro a w F M|refine zT F ?_|refine zY ?_;go_step|fail))
 all_goals exact zX F M
theorem rgq_free (b size:Nat) (q:List (Nat × Int)) (R:List Asn):Spec 227 [ptr b] (rgqA b size q::R) fun u L'=>u=.int .i64 ((size:Int) - q.length)∧L'=rgqA b size q::R:=by
 (intro G w M;obtain ⟨z,hz,M2⟩:=rgq_open (L:=R++G) M;clear M;have M:=M2;clear M2;have h1:=hz.n;have h2:=hz.s;have h3:=hz.p;simp only[zc,zn] at M)
 (refine sx_enter (vs:=([ptr b]:List Value)) Tryz.func227 (n:=14) rfl rfl rfl rfl ?_;intro a F;(try simp only[zc,zn] at M))
 (repeat'(first|(first|refine sx_nil ?_|refine pv_nil ?_;intro a w F M);try replace F:=F.filt zk5 rfl|refine zn1 F M ?_;clear F M a;(try clear w);intro a w F M|refine zp1 ?_|refine zT F ?_|((with_reducible refine isD ?_);((refine zD zd27 F M ?_;clear F M a w)))|refine zY ?_;go_step|fail))
 (all_goals(refine zE F M ?_;exact⟨_,_,rfl,⟨rfl,rfl⟩,rgq_close hz (M.perms permsA)⟩))
theorem rgq_peekO (b size:Nat) (q:List (Nat × Int)) (z:rgqH) (hz:rgqOk size q z) (i:Nat) (x:Nat × Int) (hx:q[i]? = some x) (R:List Asn):Spec 165 [ptr b,.int .i64 i] (rgqP b size q z++R) fun u L'=>u=.tuple [rqV x,.bool true].toArray∧L'=rgqP b size q z++R:=by
 intro G w M
 have h1:=hz.n
 have h2:=hz.s
 have h3:=hz.p
 have hi:i<q.length:=(List.getElem?_eq_some_iff.1 hx).1
 have hg:=hz.g i hi
 rw[hx] at hg
 have hzf:z.f<z.S.length:=by rcases hz.f with h|⟨_,h⟩;(· exact h);(exfalso;rw[h,List.length_nil] at h1;omega)
 have hmod:(((z.f:Int)+(i:Int)) % (z.S.length:Int)).toNat=(z.f+i) % z.S.length:=by
  rw[show(z.f:Int)+(i:Int)=((z.f+i:Nat):Int) by omega,← Int.natCast_emod,Int.toNat_natCast]
 have hg':z.S[(((z.f:Int)+(i:Int)) % (z.S.length:Int)).toNat]? = some x:=by rw[hmod];exact hg
 have hm0:0≤((z.f:Int)+(i:Int)) % (z.S.length:Int):=Int.emod_nonneg _ (by omega)
 have hm1:((z.f:Int)+(i:Int)) % (z.S.length:Int)<(z.S.length:Int):=Int.emod_lt_of_pos _ (by omega)
 simp only[zc,zn] at M
 (refine sx_enter (vs:=([ptr b,.int .i64 i]:List Value)) Tryz.func165 (n:=34) rfl rfl rfl rfl ?_;intro a F;(try simp only[zc,zn] at M))
 (repeat'(first|(first|refine sx_nil ?_|refine pv_nil ?_;intro a w F M);try replace F:=F.filt zk28 rfl|refine zn1 F M ?_;clear F M a;(try clear w);intro a w F M|refine sv2 F M ?_;clear F M a;intro nb a w F M|refine zp1 ?_|((first|refine svC F M ?_|fail);(((refine acK (k:=164) (rgq_len0 _ _ _ _ _ _) ?_);rintro u L' ⟨rfl,rfl⟩));(first|clear F M a;intro a w F M|fail))|refine zT F ?_|((with_reducible refine isK ?_);refine svB F ?_ ?_<;>intro hc<;>try exact no hc)|((with_reducible refine isD ?_);((refine zD zd52 F M ?_;clear F M a w)))|refine zY ?_;go_step|fail))
 all_goals exact zX F M
theorem rgq_peek (b size:Nat) (q:List (Nat × Int)) (i:Nat) (x:Nat × Int) (hx:q[i]? = some x) (R:List Asn):Spec 165 [ptr b,.int .i64 i] (rgqA b size q::R) fun u L'=>u=.tuple [rqV x,.bool true].toArray∧L'=rgqA b size q::R:=by
 intro G w M
 obtain ⟨z,hz,M⟩:=rgq_open M
 refine(rgq_peekO b size q z hz i x hx R G w (by simpa using M)).mono ?_
 rintro e w' ⟨u,L',k1,⟨k2,rfl⟩,k3⟩
 exact⟨u,_,k1,⟨k2,rfl⟩,rgq_close hz (by simpa using k3)⟩
theorem rgq_all (b size:Nat) (q:List (Nat × Int)) (hq:q.length≤4096) (R:List Asn):Spec 83 [ptr b] (rgqA b size q::R) fun u L'=>∃ h,u=sl h∧L'=ownT 91 rqL 2 (sl h) q::rgqA b size q::R:=by
 (intro G w M;refine sx_enter (vs:=([ptr b]:List Value)) Tryz.func83 (n:=24) rfl rfl rfl rfl ?_;intro a F;(try simp only[zc,zn] at M))
 replace M:=M.own_nil 91 2
 (repeat'(first|(first|refine sx_nil ?_|fail);try replace F:=F.filt zk30 rfl|refine zn1 F M ?_;clear F M a;(try clear w);intro a w F M|((first|refine svC F M ?_|fail);(((refine acK (k:=164) (rgq_len b size q _) ?_);rintro u L' ⟨rfl,rfl⟩));(first|clear F M a;intro a w F M|fail))|refine zT F ?_|refine zY ?_;go_step|fail))
 refine svLoop F M ((0,⟨none,0,0⟩):Nat × SlH) (fun z=>[(9,.int .i64 z.1),(3,sl z.2)]) (fun z=>[ownT 91 rqL 2 (sl z.2) (q.take z.1)]) (fun z=>z.1≤q.length) (fun z=>q.length - z.1) [4,5,6] (by simp) ?_
 (rintro⟨k,v⟩ q1 a w F M;(try simp only[zc,zn] at F M q1 ⊢))
 try simp only at q1
 by_cases hlt:k<q.length
 ·obtain ⟨x,hx⟩:∃ x,q[k]? = some x:=⟨q[k],by simp[hlt]⟩
  have htk:q.take (k+1)=q.take k++[x]:=by rw[List.take_add_one,hx];rfl
  (repeat'(first|(first|refine sx_nil ?_|fail);try replace F:=F.filt zk30 rfl|refine zn1 F M ?_;clear F M a;(try clear w);intro a w F M|refine sv2 F M ?_;clear F M a;intro nb a w F M|((first|refine svC F M ?_|fail);((first|((refine acK (k:=165) (rgq_peek b size q k x hx _) ?_);rintro u L' ⟨rfl,rfl⟩)|(refine ac_appendH (f:=rqL) (xs:=q.take k) (ys:=[x]) rfl rfl inferInstance rfl rfl (by(focus ((repeat (first|exact Pull.here|apply Pull.there));done))) inferInstance (gs_own (by(focus ((repeat (first|exact Pull.here|fail));done)))) rfl rfl (by simp;omega) ?_;intro v3)));(first|clear F M a;intro a w F M|fail))|refine zT F ?_|((with_reducible refine isK ?_);refine svB F ?_ ?_<;>intro hc<;>try exact no hc)|refine zY ?_;go_step|fail))
  exact sv_again F M (k+1,v3) kpA (by simp only;rw[htk];exact permsA) (by simp only;omega) (by simp only;omega)
 ·rw[List.take_of_length_le (by omega)] at M
  (repeat'(first|(first|refine sx_nil ?_|fail);try replace F:=F.filt zk30 rfl|refine zn1 F M ?_;clear F M a;(try clear w);intro a w F M|refine zT F ?_|((with_reducible refine isK ?_);refine svB F ?_ ?_<;>intro hc<;>try exact no hc)|refine zY ?_;go_step|fail))
  (all_goals(refine zE F M ?_;exact⟨_,_,rfl,⟨v,rfl,rfl⟩,M.perms permsA⟩))
theorem rgq_new (size:Nat) (h:1≤size∧size≤4096) (R:List Asn):Spec 62 [.int .i64 size] R fun u L'=>∃ b,u=ptr b∧L'=rgqA b size []::R:=by
 obtain ⟨h1,h2⟩:=h
 (intro G w M;refine sx_enter (vs:=([.int .i64 size]:List Value)) Tryz.func62 (n:=12) rfl rfl rfl rfl ?_;intro a F;(try simp only[zc,zn] at M))
 (repeat'(first|(first|refine sx_nil ?_|fail);try replace F:=F.filt zk21 rfl|refine zn1 F M ?_;clear F M a;(try clear w);intro a w F M|refine sv2 F M ?_;clear F M a;intro nb a w F M|refine zh F ?_ ?_<;>(intro hg;rw[hg] at F;try exact no hg)|refine zT F ?_|((with_reducible refine isK ?_);refine svB F ?_ ?_<;>intro hc<;>try exact no hc)|refine zY ?_;go_step|fail))
 all_goals refine zE F M ?_
 refine⟨_,_,rfl,⟨nb,rfl,rfl⟩,?_⟩
 replace M:=M.own_nil 91 2
 exact rgq_close (z:=⟨⟨none,0,0⟩,[],0⟩) ⟨by simp,by simp,⟨h1,h2⟩,.inr ⟨rfl,rfl⟩,fun i hi=>by simp at hi⟩ (M.perms permsA)
theorem rgq_pop_ok {size:Nat} {x:Nat × Int} {r:List (Nat × Int)} {z:rgqH} (h:rgqOk size (x::r) z):rgqOk size r ⟨z.h,z.S.set z.f (0,0),(z.f+1) % z.S.length⟩:=by
 have h1:=h.n
 simp only[List.length_cons] at h1
 have hf:z.f<z.S.length:=by rcases h.f with h|⟨_,h⟩;(· exact h);(exfalso;rw[h,List.length_nil] at h1;omega)
 refine⟨by simp only[List.length_set];omega,by simpa using h.s,h.p,.inl (by simp only[List.length_set];exact Nat.mod_lt _ (by omega)),fun i hi=>?_⟩
 have hg:=h.g (i+1) (by simp;omega)
 simp only[List.length_set,List.getElem?_cons_succ] at hg ⊢
 have e:((z.f+1) % z.S.length+i) % z.S.length=(z.f+(i+1)) % z.S.length:=by rw[Nat.mod_add_mod];congr 1;omega
 rw[e,List.getElem?_set_ne,hg]
 intro hh
 have:(z.f+(i+1)) % z.S.length=z.f:=hh.symm
 by_cases hlt:z.f+(i+1)<z.S.length
 ·rw[Nat.mod_eq_of_lt hlt] at this;omega
 ·rw[Nat.mod_eq_sub_mod (by omega),Nat.mod_eq_of_lt (by omega)] at this;omega
theorem rgq_pop (b size:Nat) (x:Nat × Int) (r:List (Nat × Int)) (R:List Asn):Spec 282 [ptr b] (rgqA b size (x::r)::R) fun u L'=>u=.tuple [rqV x,.bool true].toArray∧L'=rgqA b size r::R:=by
 (intro G w M;obtain ⟨z,hz,M2⟩:=rgq_open (L:=R++G) M;clear M;have M:=M2;clear M2;have h1:=hz.n;have h2:=hz.s;have h3:=hz.p;simp only[zc,zn] at M)
 have hpk:=rgq_peekO b size (x::r) z hz 0 x rfl
 have hok:=rgq_pop_ok hz
 have hsl:(z.S.set z.f ((0,0))).length=z.S.length:=List.length_set
 simp only[List.length_cons] at h1
 have hf:z.f<z.S.length:=by rcases hz.f with h|⟨_,h⟩;(· exact h);(exfalso;rw[h,List.length_nil] at h1;omega)
 obtain ⟨u0,hu0⟩:∃ u0,z.S[z.f]? = some u0:=⟨z.S[z.f],by simp[hf]⟩
 have e1:((z.f:Int)+1) % (z.S.length:Int)=(((z.f+1) % z.S.length:Nat):Int):=by rw[Int.natCast_emod];rfl
 have e2:(((x::r).length:Nat):Int) - 1=(r.length:Int):=by simp
 have e3:(((x::r).length:Nat):Int)=(r.length:Int)+1:=by simp
 (refine sx_enter (vs:=([ptr b]:List Value)) Tryz.func282 (n:=46) rfl rfl rfl rfl ?_;intro a F;(try simp only[zc,zn] at M))
 (repeat'(first|(first|refine sx_nil ?_|refine pv_nil ?_;intro a w F M);try replace F:=F.filt zk31 rfl|refine zn1 F M ?_;clear F M a;(try clear w);intro a w F M|refine sv2 F M ?_;clear F M a;intro nb a w F M|refine zp1 ?_|((first|refine svC F M ?_|refine pvC0 ?_);((first|((refine acK (k:=165) (hpk _) ?_);rintro u L' ⟨rfl,rfl⟩)|(refine ac_storeEA (f:=rqL) (v:=sl z.h) (j:=z.f) (k:=2) rfl rfl inferInstance ((0,0)) rfl hu0 inferInstance (by(focus ((repeat (first|exact Rep.here|apply Rep.there));done))) ?_)|fail));(first|refine⟨rvsA,?_⟩|clear F M a;intro a w F M|fail))|refine zT F ?_|((with_reducible refine isD ?_);((refine zD zd32 F M ?_;clear F M a w)))|refine zY ?_;go_step|fail))
 all_goals refine zE F M ?_
 simp only[List.length_set] at M
 rw[e1,e2] at M
 exact⟨_,_,rfl,⟨rfl,rfl⟩,rgq_close hok (M.perms permsA)⟩
end
section
open Go.RowKit
theorem rgp_grow (b size:Nat) (q:List (Nat × Nat)) (z:rgpH) (hz:rgpOk size q z) (hq:q.length<size) (R:List Asn):Spec 226 [ptr b] (rgpP b size q z++R) fun u L'=>∃ z',rgpOk size q z'∧q.length<z'.S.length∧u=.tuple #[]∧L'=rgpP b size q z'++R:=by
 intro G w M
 have h1:=hz.n
 have h2:=hz.s
 have h3:=hz.p
 simp only[zc,zn] at M
 by_cases hlt:q.length<z.S.length
 ·(refine sx_enter (vs:=([ptr b]:List Value)) Tryz.func226 (n:=58) rfl rfl rfl rfl ?_;intro a F;(try simp only[zc,zn] at M))
  (repeat'(first|(refine pv_nil ?_;intro a w F M);try replace F:=F.filt zk38 rfl|refine zp1 ?_|((with_reducible refine isK ?_);refine svB F ?_ ?_<;>intro hc<;>try exact no hc)|((with_reducible refine isD ?_);((refine zD zd39 F M ?_;clear F M a w)))|refine zY ?_;go_step|fail))
  (all_goals(refine zE F M ?_;exact⟨_,_,rfl,⟨z,hz,hlt,rfl,rfl⟩,M.perms permsA⟩))
 ·have hm:q.length=z.S.length:=by omega
  obtain ⟨m,hmm⟩:∃ m:Nat,m=min size (2*z.S.length+1):=⟨_,rfl⟩
  have hmin:(if (2*(z.S.length:Int)+1)<(size:Int) then (2*(z.S.length:Int)+1) else (size:Int))=(m:Int):=by split<;>omega
  have hf:z.f≤z.S.length:=by rcases hz.f with h|⟨h,h'⟩<;>omega
  have ed:z.S.length - z.f=(z.S.drop z.f).length:=by simp
  have et:z.f=(z.S.take z.f).length:=by simp;omega
  obtain ⟨hzn,hzc,_⟩:=own_h (M.pull (by(focus ((repeat (first|exact Pull.here|apply Pull.there));done))))
  obtain ⟨X1,hX1⟩:∃ X1,z.S.drop z.f++List.replicate (m - (z.S.drop z.f).length) ((0,0))=X1:=⟨_,rfl⟩
  obtain ⟨X2,hX2⟩:∃ X2,z.S.drop z.f++z.S.take z.f++List.replicate (m - z.S.length) ((0,0))=X2:=⟨_,rfl⟩
  have l1:X1.length=m:=by rw[← hX1];simp;omega
  have l2:X2.length=m:=by rw[← hX2];simp;omega
  have x1:(List.replicate m ((0,0))).take 0++z.S.drop z.f++(List.replicate m ((0,0))).drop (0+(z.S.drop z.f).length)=X1:=by rw[← hX1];simp
  have x2:X1.take (z.S.drop z.f).length++z.S.take z.f++X1.drop ((z.S.drop z.f).length+(z.S.take z.f).length)=X2:=by
   rw[← hX1,← hX2,List.take_left' rfl,← List.drop_drop,List.drop_left' rfl,List.drop_replicate,← ed,← et]
   congr 2;omega
  (refine sx_enter (vs:=([ptr b]:List Value)) Tryz.func226 (n:=58) rfl rfl rfl rfl ?_;intro a F;(try simp only[zc,zn] at M))
  (repeat'(first|((refine pv1 (h:=?_) (hr:=by((first|(apply rt_min2;(exact rfl);(exact rfl);(exact hmin))|(apply rt_fromN;(exact rfl);(exact rfl);(exact rfl);(exact inferInstance);(try dsimp only);omega;(try dsimp only);omega)|(apply rt_from;(exact rfl);(exact rfl);(exact rfl);(exact inferInstance);omega)|(apply rt_to;(exact rfl);(exact rfl);(exact rfl);(exact inferInstance);omega)))));(try(clear F a;intro a F)))|(first|refine sx_nil ?_|refine pv_nil ?_;intro a w F M);try replace F:=F.filt zk38 rfl|refine zn1 F M ?_;clear F M a;(try clear w);intro a w F M|refine zp1 ?_|((first|refine pvC ?_|fail);((first|(refine ac_makeT (f:=prL) inferInstance ((0,0)) rfl rfl inferInstance rfl (m:=m) rfl rfl (by omega) (by omega) ?_;intro nb)|(refine ac_copyT (f:=prL) (j:=0) rfl rfl inferInstance inferInstance rfl rfl (gs_from (by(focus ((repeat (first|exact Pull.here|apply Pull.there));done))) hf) (flat_drop (f:=prL) EL.len _ _) ed (by(focus ((repeat (first|exact Pull.here|fail));done))) (by rw[List.length_replicate]) (by rw[List.length_replicate];dsimp only;omega) (by dsimp only;omega) ?_;rw[x1])|(refine ac_copyT (f:=prL) (j:=(z.S.drop z.f).length) rfl rfl inferInstance inferInstance rfl rfl (gs_to (by(focus ((repeat (first|exact Pull.here|apply Pull.there));done))) hf) (flat_take (f:=prL) EL.len _ _) et (by(focus ((repeat (first|exact Pull.here|fail));done))) (by rw[l1]) (by dsimp only;omega) (by dsimp only;omega) ?_;rw[x2])));(first|refine⟨rvsA,?_⟩|fail))|refine zT F ?_|((with_reducible refine isK ?_);refine svB F ?_ ?_<;>intro hc<;>try exact no hc)|((with_reducible refine isD ?_);((refine zD zd39 F M ?_;clear F M a w)))|refine zY ?_;go_step|fail))
  all_goals refine zE F M ?_
  refine⟨_,_,rfl,⟨⟨⟨some ⟨nb,0,none⟩,m,m⟩,X2,0⟩,⟨by dsimp only;omega,by dsimp only;omega,h3,.inl (by dsimp only;omega),fun i hi=>?_⟩,by dsimp only;omega,rfl,rfl⟩,M.perms permsA⟩
  rw[← hz.g i hi]
  dsimp only
  rw[l2,Nat.zero_add,Nat.mod_eq_of_lt (by omega),← hX2,List.getElem?_append_left (by simp;omega)]
  by_cases hi2:i<z.S.length - z.f
  ·rw[List.getElem?_append_left (by simp;omega),List.getElem?_drop,Nat.mod_eq_of_lt (by omega)]
  ·rw[List.getElem?_append_right (by simp;omega),List.getElem?_take_of_lt (by simp;omega),List.length_drop]
   congr 1
   rw[Nat.mod_eq_sub_mod (by omega),Nat.mod_eq_of_lt (by omega)];omega
theorem rgp_growA (b size:Nat) (q:List (Nat × Nat)) (hq:q.length<size) (R:List Asn):Spec 226 [ptr b] (rgpA b size q::R) fun u L'=>∃ z',rgpOk size q z'∧q.length<z'.S.length∧u=.tuple #[]∧L'=rgpP b size q z'++R:=by
 intro G w M
 obtain ⟨z,hz,M⟩:=rgp_open (L:=R++G) M
 exact rgp_grow b size q z hz hq R G w (by simpa using M)
theorem rgp_push_ok {size:Nat} {x:Nat × Nat} {q:List (Nat × Nat)} {z:rgpH} (h:rgpOk size q z) (hl:q.length<z.S.length):rgpOk size (q++[x]) ⟨z.h,z.S.set ((z.f+q.length) % z.S.length) x,z.f⟩:=by
 have hf:z.f<z.S.length:=by rcases h.f with h|⟨_,h⟩;(· exact h);(exfalso;rw[h,List.length_nil] at hl;omega)
 have hm:=Nat.mod_lt (z.f+q.length) (show 0<z.S.length by omega)
 refine⟨by simp;omega,by simpa using h.s,h.p,.inl (by simpa using hf),fun i hi=>?_⟩
 simp only[List.length_set]
 by_cases hi2:i=q.length
 ·subst hi2
  rw[List.getElem?_set_self hm];simp
 ·simp at hi
  rw[List.getElem?_append_left (by omega),← h.g i (by omega),List.getElem?_set_ne]
  intro he
  by_cases c1:z.f+q.length<z.S.length
  ·rw[Nat.mod_eq_of_lt c1,Nat.mod_eq_of_lt (by omega)] at he;omega
  ·rw[Nat.mod_eq_sub_mod (by omega),Nat.mod_eq_of_lt (by omega)] at he
   by_cases c2:z.f+i<z.S.length
   ·rw[Nat.mod_eq_of_lt c2] at he;omega
   ·rw[Nat.mod_eq_sub_mod (by omega),Nat.mod_eq_of_lt (by omega)] at he;omega
theorem rgp_fl {size:Nat} {q:List (Nat × Nat)} {z:rgpH} (h:rgpOk size q z) (hl:q.length<z.S.length):z.f<z.S.length∧z.S.length≤size∧0≤((z.f:Int)+(q.length:Int)) % (z.S.length:Int)∧((z.f:Int)+(q.length:Int)) % (z.S.length:Int)<(z.S.length:Int):=by
 have hf:z.f<z.S.length:=by rcases h.f with h|⟨_,h⟩;(· exact h);(exfalso;rw[h,List.length_nil] at hl;omega)
 exact⟨hf,h.s,Int.emod_nonneg _ (by omega),Int.emod_lt_of_pos _ (by omega)⟩
theorem rgp_push (b size:Nat) (q:List (Nat × Nat)) (x:Nat × Nat) (v:SlH) (R:List Asn) (hg:GS R 2 (sl v) 1 ([x].flatMap prL)) (hv:v.n=1∧1≤v.c) (hq:q.length<size) (hs:size≤4096):Spec 154 [ptr b,sl v] (rgpA b size q::R) fun u L'=>u=.int .i64 1∧L'=rgpA b size (q++[x])::R:=by
 obtain ⟨hv1,hv2⟩:=hv
 intro G w M
 have hg1:GS (R++G) 2 (sl v) 1 ([x].flatMap prL):=hg.imp fun w M=>M.drop_app
 have hg2:GS (R++G) 2 (sl ⟨v.a,1,v.c⟩) [x].length ([x].flatMap prL):=fun w M=>by have:=(hg1 w M).to (j:=1) (by omega);rwa [List.take_of_length_le (by rw[flat_lenE (f:=prL) inferInstance];simp)] at this
 have hmin:(if ((size:Int) - (q.length:Int))<((1:Nat):Int) then ((size:Int) - (q.length:Int)) else ((1:Nat):Int))=((1:Nat):Int):=by rw[if_neg];omega
 (refine sx_enter (vs:=([ptr b,sl v]:List Value)) Tryz.func154 (n:=53) rfl rfl rfl rfl ?_;intro a F;(try simp only[zc,zn] at M))
 (repeat'(first|((first|refine sv1 F M (h:=?_) (hr:=by((first|(apply rt_min2;(exact rfl);(exact rfl);(exact hmin))|(apply rt_to;(exact rfl);(exact rfl);(exact rfl);(exact inferInstance);omega))))|fail);(try(clear F a;intro a F)))|(first|refine sx_nil ?_|fail);try replace F:=F.filt zk40 rfl|refine zn1 F M ?_;clear F M a;(try clear w);intro a w F M|((first|refine svC F M ?_|fail);(((refine acK (k:=225) (rgp_free b size q _) ?_);rintro u L' ⟨rfl,rfl⟩));(first|clear F M a;intro a w F M|fail))|refine zT F ?_|refine zY ?_;go_step|fail))
 refine svLoop F M (0:Nat) (fun k=>[(17,.int .i64 k)]) (fun k=>[rgpA b size (q++[x].take k)]) (fun k=>k≤1) (fun k=>1 - k) [] (by simp) ?_ (hR:=by rw[List.take_zero,List.append_nil];(repeat (first|exact Pulls.nil|(apply Pulls.cons;(focus ((repeat (first|exact Pull.here|apply Pull.there));done))))))
 (rintro k q1 a w F M;(try simp only[zc,zn] at F M q1 ⊢))
 by_cases hk:k=0
 ·subst hk
  rw[List.take_zero,List.append_nil] at M
  have hx:[x][0]? = some x:=rfl
  (repeat'(first|(first|refine sx_nil ?_|fail);try replace F:=F.filt zk40 rfl|refine zn1 F M ?_;clear F M a;(try clear w);intro a w F M|refine sv2 F M ?_;clear F M a;intro nb a w F M|refine zp1 ?_|((first|refine svC F M ?_|refine pvC0 ?_);(((refine acK (k:=226) (rgp_growA b size q hq _) ?_);rintro u L' ⟨z,hz,hroom,rfl,rfl⟩);obtain ⟨hf,h2,hm0,hm1⟩:=rgp_fl hz hroom;(simp only[zc,zn]));(first|clear F M a;intro a w F M|fail))|refine zT F ?_|((with_reducible refine isD ?_);((refine zD zd41 F M ?_;clear F M a w)))|refine zY ?_;go_step|fail))
  have hmod:(((z.f:Int)+(q.length:Int)) % (z.S.length:Int)).toNat=(z.f+q.length) % z.S.length:=by
   rw[show(z.f:Int)+(q.length:Int)=((z.f+q.length:Nat):Int) by omega,← Int.natCast_emod,Int.toNat_natCast]
  have hok:=rgp_push_ok (x:=x) hz hroom
  rw[← hmod] at hok
  obtain ⟨j,hj⟩:∃ j,(((z.f:Int)+(q.length:Int)) % (z.S.length:Int)).toNat=j:=⟨_,rfl⟩
  rw[hj] at hok
  obtain ⟨u0,hu0⟩:∃ u0,z.S[j]? = some u0:=⟨z.S[j]'(by omega),by simp⟩
  rw[← hj] at hu0
  (repeat'(first|(first|refine sx_nil ?_|refine pv_nil ?_;intro a w F M);try replace F:=F.filt zk40 rfl|refine zn1 F M ?_;clear F M a;(try clear w);intro a w F M|((refine pvC0 ?_);((first|(refine ac_storeEA (f:=prL) (v:=sl z.h) (k:=2) rfl rfl inferInstance x rfl hu0 inferInstance (by(focus ((repeat (first|exact Rep.here|apply Rep.there));done))) ?_;rw[hj])|fail));(first|refine⟨rvsA,?_⟩|fail))|refine zT F ?_|refine zY ?_;go_step|fail))
  have e:(q.length:Int)+1=(((q++[x]).length:Nat):Int):=by simp
  rw[e] at M
  have M:=rgp_close hok (M.perms (permsA:Perms _ (rgpP b size (q++[x]) ⟨z.h,z.S.set j x,z.f⟩++(R++G))))
  exact sv_again F M 1 kpA permsA (by omega) (by omega)
 ·obtain rfl:k=1:=by omega
  (repeat'(first|(first|refine sx_nil ?_|fail);try replace F:=F.filt zk40 rfl|refine zn1 F M ?_;clear F M a;(try clear w);intro a w F M|refine zT F ?_|refine zY ?_;go_step|fail))
  all_goals exact zX F M
theorem rgp_pushF (b size:Nat) (q:List (Nat × Nat)) (x:Nat × Nat) (v:SlH) (R:List Asn) (hg:GS R 2 (sl v) 1 ([x].flatMap prL)) (hv:v.n=1∧1≤v.c) (hq:q.length=size) (hs:size≤4096):Spec 154 [ptr b,sl v] (rgpA b size q::R) fun u L'=>u=.int .i64 0∧L'=rgpA b size q::R:=by
 obtain ⟨hv1,hv2⟩:=hv
 intro G w M
 have hg1:GS (R++G) 2 (sl v) 1 ([x].flatMap prL):=hg.imp fun w M=>M.drop_app
 have hg2:GS (R++G) 2 (sl ⟨v.a,0,v.c⟩) ([]:List (Nat × Nat)).length (([]:List (Nat × Nat)).flatMap prL):=fun w M=>by have:=(hg1 w M).to (j:=0) (by omega);simpa using this
 have hmin:(if ((size:Int) - (q.length:Int))<((1:Nat):Int) then ((size:Int) - (q.length:Int)) else ((1:Nat):Int))=((0:Nat):Int):=by rw[if_pos]<;>omega
 (refine sx_enter (vs:=([ptr b,sl v]:List Value)) Tryz.func154 (n:=53) rfl rfl rfl rfl ?_;intro a F;(try simp only[zc,zn] at M))
 (repeat'(first|((first|refine sv1 F M (h:=?_) (hr:=by((first|(apply rt_min2;(exact rfl);(exact rfl);(exact hmin))|(apply rt_to;(exact rfl);(exact rfl);(exact rfl);(exact inferInstance);omega))))|fail);(try(clear F a;intro a F)))|(first|refine sx_nil ?_|fail);try replace F:=F.filt zk40 rfl|refine zn1 F M ?_;clear F M a;(try clear w);intro a w F M|((first|refine svC F M ?_|fail);(((refine acK (k:=225) (rgp_free b size q _) ?_);rintro u L' ⟨rfl,rfl⟩));(first|clear F M a;intro a w F M|fail))|refine zT F ?_|refine zY ?_;go_step|fail))
 refine svLoop F M (0:Nat) (fun k=>[(17,.int .i64 k)]) (fun _=>[]) (fun k=>k=0) (fun k=>1 - k) [] rfl ?_
 (rintro k q1 a w F M;(try simp only[zc,zn] at F M q1 ⊢))
 subst q1
 (repeat'(first|(first|refine sx_nil ?_|fail);try replace F:=F.filt zk40 rfl|refine zn1 F M ?_;clear F M a;(try clear w);intro a w F M|refine zT F ?_|refine zY ?_;go_step|fail))
 all_goals exact zX F M
theorem rgq_grow (b size:Nat) (q:List (Nat × Int)) (z:rgqH) (hz:rgqOk size q z) (hq:q.length<size) (R:List Asn):Spec 228 [ptr b] (rgqP b size q z++R) fun u L'=>∃ z',rgqOk size q z'∧q.length<z'.S.length∧u=.tuple #[]∧L'=rgqP b size q z'++R:=by
 intro G w M
 have h1:=hz.n
 have h2:=hz.s
 have h3:=hz.p
 simp only[zc,zn] at M
 by_cases hlt:q.length<z.S.length
 ·(refine sx_enter (vs:=([ptr b]:List Value)) Tryz.func228 (n:=58) rfl rfl rfl rfl ?_;intro a F;(try simp only[zc,zn] at M))
  (repeat'(first|(refine pv_nil ?_;intro a w F M);try replace F:=F.filt zk38 rfl|refine zp1 ?_|((with_reducible refine isK ?_);refine svB F ?_ ?_<;>intro hc<;>try exact no hc)|((with_reducible refine isD ?_);((refine zD zd39 F M ?_;clear F M a w)))|refine zY ?_;go_step|fail))
  (all_goals(refine zE F M ?_;exact⟨_,_,rfl,⟨z,hz,hlt,rfl,rfl⟩,M.perms permsA⟩))
 ·have hm:q.length=z.S.length:=by omega
  obtain ⟨m,hmm⟩:∃ m:Nat,m=min size (2*z.S.length+1):=⟨_,rfl⟩
  have hmin:(if (2*(z.S.length:Int)+1)<(size:Int) then (2*(z.S.length:Int)+1) else (size:Int))=(m:Int):=by split<;>omega
  have hf:z.f≤z.S.length:=by rcases hz.f with h|⟨h,h'⟩<;>omega
  have ed:z.S.length - z.f=(z.S.drop z.f).length:=by simp
  have et:z.f=(z.S.take z.f).length:=by simp;omega
  obtain ⟨hzn,hzc,_⟩:=own_h (M.pull (by(focus ((repeat (first|exact Pull.here|apply Pull.there));done))))
  obtain ⟨X1,hX1⟩:∃ X1,z.S.drop z.f++List.replicate (m - (z.S.drop z.f).length) ((0,0))=X1:=⟨_,rfl⟩
  obtain ⟨X2,hX2⟩:∃ X2,z.S.drop z.f++z.S.take z.f++List.replicate (m - z.S.length) ((0,0))=X2:=⟨_,rfl⟩
  have l1:X1.length=m:=by rw[← hX1];simp;omega
  have l2:X2.length=m:=by rw[← hX2];simp;omega
  have x1:(List.replicate m ((0,0))).take 0++z.S.drop z.f++(List.replicate m ((0,0))).drop (0+(z.S.drop z.f).length)=X1:=by rw[← hX1];simp
  have x2:X1.take (z.S.drop z.f).length++z.S.take z.f++X1.drop ((z.S.drop z.f).length+(z.S.take z.f).length)=X2:=by
   rw[← hX1,← hX2,List.take_left' rfl,← List.drop_drop,List.drop_left' rfl,List.drop_replicate,← ed,← et]
   congr 2;omega
  (refine sx_enter (vs:=([ptr b]:List Value)) Tryz.func228 (n:=58) rfl rfl rfl rfl ?_;intro a F;(try simp only[zc,zn] at M))
  (repeat'(first|((refine pv1 (h:=?_) (hr:=by((first|(apply rt_min2;(exact rfl);(exact rfl);(exact hmin))|(apply rt_fromN;(exact rfl);(exact rfl);(exact rfl);(exact inferInstance);(try dsimp only);omega;(try dsimp only);omega)|(apply rt_from;(exact rfl);(exact rfl);(exact rfl);(exact inferInstance);omega)|(apply rt_to;(exact rfl);(exact rfl);(exact rfl);(exact inferInstance);omega)))));(try(clear F a;intro a F)))|(first|refine sx_nil ?_|refine pv_nil ?_;intro a w F M);try replace F:=F.filt zk38 rfl|refine zn1 F M ?_;clear F M a;(try clear w);intro a w F M|refine zp1 ?_|((first|refine pvC ?_|fail);((first|(refine ac_makeT (f:=rqL) inferInstance ((0,0)) rfl rfl inferInstance rfl (m:=m) rfl rfl (by omega) (by omega) ?_;intro nb)|(refine ac_copyT (f:=rqL) (j:=0) rfl rfl inferInstance inferInstance rfl rfl (gs_from (by(focus ((repeat (first|exact Pull.here|apply Pull.there));done))) hf) (flat_drop (f:=rqL) EL.len _ _) ed (by(focus ((repeat (first|exact Pull.here|fail));done))) (by rw[List.length_replicate]) (by rw[List.length_replicate];dsimp only;omega) (by dsimp only;omega) ?_;rw[x1])|(refine ac_copyT (f:=rqL) (j:=(z.S.drop z.f).length) rfl rfl inferInstance inferInstance rfl rfl (gs_to (by(focus ((repeat (first|exact Pull.here|apply Pull.there));done))) hf) (flat_take (f:=rqL) EL.len _ _) et (by(focus ((repeat (first|exact Pull.here|fail));done))) (by rw[l1]) (by dsimp only;omega) (by dsimp only;omega) ?_;rw[x2])));(first|refine⟨rvsA,?_⟩|fail))|refine zT F ?_|((with_reducible refine isK ?_);refine svB F ?_ ?_<;>intro hc<;>try exact no hc)|((with_reducible refine isD ?_);((refine zD zd39 F M ?_;clear F M a w)))|refine zY ?_;go_step|fail))
  all_goals refine zE F M ?_
  refine⟨_,_,rfl,⟨⟨⟨some ⟨nb,0,none⟩,m,m⟩,X2,0⟩,⟨by dsimp only;omega,by dsimp only;omega,h3,.inl (by dsimp only;omega),fun i hi=>?_⟩,by dsimp only;omega,rfl,rfl⟩,M.perms permsA⟩
  rw[← hz.g i hi]
  dsimp only
  rw[l2,Nat.zero_add,Nat.mod_eq_of_lt (by omega),← hX2,List.getElem?_append_left (by simp;omega)]
  by_cases hi2:i<z.S.length - z.f
  ·rw[List.getElem?_append_left (by simp;omega),List.getElem?_drop,Nat.mod_eq_of_lt (by omega)]
  ·rw[List.getElem?_append_right (by simp;omega),List.getElem?_take_of_lt (by simp;omega),List.length_drop]
   congr 1
   rw[Nat.mod_eq_sub_mod (by omega),Nat.mod_eq_of_lt (by omega)];omega
theorem rgq_growA (b size:Nat) (q:List (Nat × Int)) (hq:q.length<size) (R:List Asn):Spec 228 [ptr b] (rgqA b size q::R) fun u L'=>∃ z',rgqOk size q z'∧q.length<z'.S.length∧u=.tuple #[]∧L'=rgqP b size q z'++R:=by
 intro G w M
 obtain ⟨z,hz,M⟩:=rgq_open (L:=R++G) M
 exact rgq_grow b size q z hz hq R G w (by simpa using M)
theorem rgq_push_ok {size:Nat} {x:Nat × Int} {q:List (Nat × Int)} {z:rgqH} (h:rgqOk size q z) (hl:q.length<z.S.length):rgqOk size (q++[x]) ⟨z.h,z.S.set ((z.f+q.length) % z.S.length) x,z.f⟩:=by
 have hf:z.f<z.S.length:=by rcases h.f with h|⟨_,h⟩;(· exact h);(exfalso;rw[h,List.length_nil] at hl;omega)
 have hm:=Nat.mod_lt (z.f+q.length) (show 0<z.S.length by omega)
 refine⟨by simp;omega,by simpa using h.s,h.p,.inl (by simpa using hf),fun i hi=>?_⟩
 simp only[List.length_set]
 by_cases hi2:i=q.length
 ·subst hi2
  rw[List.getElem?_set_self hm];simp
 ·simp at hi
  rw[List.getElem?_append_left (by omega),← h.g i (by omega),List.getElem?_set_ne]
  intro he
  by_cases c1:z.f+q.length<z.S.length
  ·rw[Nat.mod_eq_of_lt c1,Nat.mod_eq_of_lt (by omega)] at he;omega
  ·rw[Nat.mod_eq_sub_mod (by omega),Nat.mod_eq_of_lt (by omega)] at he
   by_cases c2:z.f+i<z.S.length
   ·rw[Nat.mod_eq_of_lt c2] at he;omega
   ·rw[Nat.mod_eq_sub_mod (by omega),Nat.mod_eq_of_lt (by omega)] at he;omega
theorem rgq_fl {size:Nat} {q:List (Nat × Int)} {z:rgqH} (h:rgqOk size q z) (hl:q.length<z.S.length):z.f<z.S.length∧z.S.length≤size∧0≤((z.f:Int)+(q.length:Int)) % (z.S.length:Int)∧((z.f:Int)+(q.length:Int)) % (z.S.length:Int)<(z.S.length:Int):=by
 have hf:z.f<z.S.length:=by rcases h.f with h|⟨_,h⟩;(· exact h);(exfalso;rw[h,List.length_nil] at hl;omega)
 exact⟨hf,h.s,Int.emod_nonneg _ (by omega),Int.emod_lt_of_pos _ (by omega)⟩
theorem rgq_push (b size:Nat) (q:List (Nat × Int)) (x:Nat × Int) (v:SlH) (R:List Asn) (hg:GS R 2 (sl v) 1 ([x].flatMap rqL)) (hv:v.n=1∧1≤v.c) (hq:q.length<size) (hs:size≤4096):Spec 156 [ptr b,sl v] (rgqA b size q::R) fun u L'=>u=.int .i64 1∧L'=rgqA b size (q++[x])::R:=by
 obtain ⟨hv1,hv2⟩:=hv
 intro G w M
 have hg1:GS (R++G) 2 (sl v) 1 ([x].flatMap rqL):=hg.imp fun w M=>M.drop_app
 have hg2:GS (R++G) 2 (sl ⟨v.a,1,v.c⟩) [x].length ([x].flatMap rqL):=fun w M=>by have:=(hg1 w M).to (j:=1) (by omega);rwa [List.take_of_length_le (by rw[flat_lenE (f:=rqL) inferInstance];simp)] at this
 have hmin:(if ((size:Int) - (q.length:Int))<((1:Nat):Int) then ((size:Int) - (q.length:Int)) else ((1:Nat):Int))=((1:Nat):Int):=by rw[if_neg];omega
 (refine sx_enter (vs:=([ptr b,sl v]:List Value)) Tryz.func156 (n:=53) rfl rfl rfl rfl ?_;intro a F;(try simp only[zc,zn] at M))
 (repeat'(first|((first|refine sv1 F M (h:=?_) (hr:=by((first|(apply rt_min2;(exact rfl);(exact rfl);(exact hmin))|(apply rt_to;(exact rfl);(exact rfl);(exact rfl);(exact inferInstance);omega))))|fail);(try(clear F a;intro a F)))|(first|refine sx_nil ?_|fail);try replace F:=F.filt zk40 rfl|refine zn1 F M ?_;clear F M a;(try clear w);intro a w F M|((first|refine svC F M ?_|fail);(((refine acK (k:=227) (rgq_free b size q _) ?_);rintro u L' ⟨rfl,rfl⟩));(first|clear F M a;intro a w F M|fail))|refine zT F ?_|refine zY ?_;go_step|fail))
 refine svLoop F M (0:Nat) (fun k=>[(17,.int .i64 k)]) (fun k=>[rgqA b size (q++[x].take k)]) (fun k=>k≤1) (fun k=>1 - k) [] (by simp) ?_ (hR:=by rw[List.take_zero,List.append_nil];(repeat (first|exact Pulls.nil|(apply Pulls.cons;(focus ((repeat (first|exact Pull.here|apply Pull.there));done))))))
 (rintro k q1 a w F M;(try simp only[zc,zn] at F M q1 ⊢))
 by_cases hk:k=0
 ·subst hk
  rw[List.take_zero,List.append_nil] at M
  have hx:[x][0]? = some x:=rfl
  (repeat'(first|(first|refine sx_nil ?_|fail);try replace F:=F.filt zk40 rfl|refine zn1 F M ?_;clear F M a;(try clear w);intro a w F M|refine sv2 F M ?_;clear F M a;intro nb a w F M|refine zp1 ?_|((first|refine svC F M ?_|refine pvC0 ?_);(((refine acK (k:=228) (rgq_growA b size q hq _) ?_);rintro u L' ⟨z,hz,hroom,rfl,rfl⟩);obtain ⟨hf,h2,hm0,hm1⟩:=rgq_fl hz hroom;(simp only[zc,zn]));(first|clear F M a;intro a w F M|fail))|refine zT F ?_|((with_reducible refine isD ?_);((refine zD zd41 F M ?_;clear F M a w)))|refine zY ?_;go_step|fail))
  have hmod:(((z.f:Int)+(q.length:Int)) % (z.S.length:Int)).toNat=(z.f+q.length) % z.S.length:=by
   rw[show(z.f:Int)+(q.length:Int)=((z.f+q.length:Nat):Int) by omega,← Int.natCast_emod,Int.toNat_natCast]
  have hok:=rgq_push_ok (x:=x) hz hroom
  rw[← hmod] at hok
  obtain ⟨j,hj⟩:∃ j,(((z.f:Int)+(q.length:Int)) % (z.S.length:Int)).toNat=j:=⟨_,rfl⟩
  rw[hj] at hok
  obtain ⟨u0,hu0⟩:∃ u0,z.S[j]? = some u0:=⟨z.S[j]'(by omega),by simp⟩
  rw[← hj] at hu0
  (repeat'(first|(first|refine sx_nil ?_|refine pv_nil ?_;intro a w F M);try replace F:=F.filt zk40 rfl|refine zn1 F M ?_;clear F M a;(try clear w);intro a w F M|((refine pvC0 ?_);((first|(refine ac_storeEA (f:=rqL) (v:=sl z.h) (k:=2) rfl rfl inferInstance x rfl hu0 inferInstance (by(focus ((repeat (first|exact Rep.here|apply Rep.there));done))) ?_;rw[hj])|fail));(first|refine⟨rvsA,?_⟩|fail))|refine zT F ?_|refine zY ?_;go_step|fail))
  have e:(q.length:Int)+1=(((q++[x]).length:Nat):Int):=by simp
  rw[e] at M
  have M:=rgq_close hok (M.perms (permsA:Perms _ (rgqP b size (q++[x]) ⟨z.h,z.S.set j x,z.f⟩++(R++G))))
  exact sv_again F M 1 kpA permsA (by omega) (by omega)
 ·obtain rfl:k=1:=by omega
  (repeat'(first|(first|refine sx_nil ?_|fail);try replace F:=F.filt zk40 rfl|refine zn1 F M ?_;clear F M a;(try clear w);intro a w F M|refine zT F ?_|refine zY ?_;go_step|fail))
  all_goals exact zX F M
theorem rgq_pushF (b size:Nat) (q:List (Nat × Int)) (x:Nat × Int) (v:SlH) (R:List Asn) (hg:GS R 2 (sl v) 1 ([x].flatMap rqL)) (hv:v.n=1∧1≤v.c) (hq:q.length=size) (hs:size≤4096):Spec 156 [ptr b,sl v] (rgqA b size q::R) fun u L'=>u=.int .i64 0∧L'=rgqA b size q::R:=by
 obtain ⟨hv1,hv2⟩:=hv
 intro G w M
 have hg1:GS (R++G) 2 (sl v) 1 ([x].flatMap rqL):=hg.imp fun w M=>M.drop_app
 have hg2:GS (R++G) 2 (sl ⟨v.a,0,v.c⟩) ([]:List (Nat × Int)).length (([]:List (Nat × Int)).flatMap rqL):=fun w M=>by have:=(hg1 w M).to (j:=0) (by omega);simpa using this
 have hmin:(if ((size:Int) - (q.length:Int))<((1:Nat):Int) then ((size:Int) - (q.length:Int)) else ((1:Nat):Int))=((0:Nat):Int):=by rw[if_pos]<;>omega
 (refine sx_enter (vs:=([ptr b,sl v]:List Value)) Tryz.func156 (n:=53) rfl rfl rfl rfl ?_;intro a F;(try simp only[zc,zn] at M))
 (repeat'(first|((first|refine sv1 F M (h:=?_) (hr:=by((first|(apply rt_min2;(exact rfl);(exact rfl);(exact hmin))|(apply rt_to;(exact rfl);(exact rfl);(exact rfl);(exact inferInstance);omega))))|fail);(try(clear F a;intro a F)))|(first|refine sx_nil ?_|fail);try replace F:=F.filt zk40 rfl|refine zn1 F M ?_;clear F M a;(try clear w);intro a w F M|((first|refine svC F M ?_|fail);(((refine acK (k:=227) (rgq_free b size q _) ?_);rintro u L' ⟨rfl,rfl⟩));(first|clear F M a;intro a w F M|fail))|refine zT F ?_|refine zY ?_;go_step|fail))
 refine svLoop F M (0:Nat) (fun k=>[(17,.int .i64 k)]) (fun _=>[]) (fun k=>k=0) (fun k=>1 - k) [] rfl ?_
 (rintro k q1 a w F M;(try simp only[zc,zn] at F M q1 ⊢))
 subst q1
 (repeat'(first|(first|refine sx_nil ?_|fail);try replace F:=F.filt zk40 rfl|refine zn1 F M ?_;clear F M a;(try clear w);intro a w F M|refine zT F ?_|refine zY ?_;go_step|fail))
 all_goals exact zX F M
end
section
open Go.RowKit
structure CfOk (c:Cfg):Prop where
 ca:1≤c.capacity∧c.capacity≤4096
 qs:1≤c.queueSize∧c.queueSize≤4096
 md:1≤c.minDeposit∧c.minDeposit≤c.maxDeposit
 sc:c.maxDeposit≤c.supplyCap∧c.supplyCap≤1152921504606846976
 mb:1≤c.minBalance∧c.minBalance≤c.minDeposit
 xb:c.maxDeposit≤c.maxBalance∧c.maxBalance≤c.supplyCap
 mc:1≤c.minChurn∧c.minChurn≤1152921504606846976
 qu:1≤c.quotient
 fc:0≤c.forcedCap∧c.forcedCap≤1152921504606846976
 un:1≤c.unbonding∧c.unbonding≤1048576
 sd:c.unbonding<c.slashDelay∧c.slashDelay≤1048576
 rl:1≤c.ringLen∧c.ringLen≤4096
 el:1≤c.epochLen∧c.epochLen≤4096
 vi:1≤c.visits∧c.visits≤4096
 py:1≤c.payments∧c.payments≤4096
 pa:0≤c.partials∧c.partials<c.visits∧c.partials<c.payments
 me:0≤c.merges∧c.merges≤4096
 pn:0≤c.penNum∧c.penNum≤c.penDen
 pd:1≤c.penDen∧c.penDen≤4294967296
theorem cfOk_of {c:Cfg} (h:checkF c=0) (h1:0≤c.forcedCap) (h2:0≤c.penNum):CfOk c:=by
 have k:=checkF_zero h
 have k1:=k 1 (by omega) (by omega)
 have k2:=k 2 (by omega) (by omega)
 have k3:=k 3 (by omega) (by omega)
 have k4:=k 4 (by omega) (by omega)
 have k5:=k 5 (by omega) (by omega)
 have k6:=k 6 (by omega) (by omega)
 have k7:=k 7 (by omega) (by omega)
 have k8:=k 8 (by omega) (by omega)
 have k9:=k 9 (by omega) (by omega)
 have k10:=k 10 (by omega) (by omega)
 have k11:=k 11 (by omega) (by omega)
 have k12:=k 12 (by omega) (by omega)
 have k13:=k 13 (by omega) (by omega)
 have k14:=k 14 (by omega) (by omega)
 have k15:=k 15 (by omega) (by omega)
 have k16:=k 16 (by omega) (by omega)
 have k17:=k 17 (by omega) (by omega)
 have k18:=k 18 (by omega) (by omega)
 have k19:=k 19 (by omega) (by omega)
 have k20:=k 20 (by omega) (by omega)
 simp[fieldB,bt] at k1 k2 k3 k4 k5 k6 k7 k8 k9 k10 k11 k12 k13 k14 k15 k16 k17 k18 k19 k20
 constructor<;>omega
structure VOk (c:Cfg) (e:Int) (v:Val):Prop where
 b:0≤v.bal
 st:1≤v.st∧v.st≤7
 fin:v.st=6∨v.st=7→v.bal=0
 mb:v.st=1∨v.st=2→c.minBalance≤v.bal
 ex:v.ex = -1∨0≤v.ex∧v.ex≤e+1∧3≤v.st∧v.st≤6∧v.rq<v.ex∧v.ex+c.unbonding≤v.wd
 e3:v.st=3→v.ex = -1∨v.ex=e+1
 e4:v.st=4∨v.st=5∨v.st=6→0≤v.ex∧v.ex≤e
 w4:v.st=4→e<v.wd
 w5:v.st=5→v.wd≤e
 rq:-1≤v.rq∧v.rq≤e
 wd:-1≤v.wd∧v.wd≤e+2097152
 w1:v.st≤2∨v.st=7→v.wd = -1∧v.ex = -1∧v.rq = -1∧v.dl = -1
 sl:v.sl=true→3≤v.st∧v.st≤6∧v.dl = -1
 dl:-1≤v.dl∧v.dl≤1099511627776
def pend' (v:Val):Prop:=v.st=1
def wait' (v:Val):Prop:=v.st=3∧v.ex = -1
def leave' (v:Val):Prop:=v.st=3∧v.ex≠-1
def bond' (v:Val):Prop:=v.st=4∨v.st=3∧v.ex≠-1
structure Ix (V:List Val) (p:Val→Prop) (l:List Nat):Prop where
 nd:l.Nodup
 mem:∀ i,i∈l↔∃ v,V[i]? = some v∧p v
structure Inv (c:Cfg) (s:St):Prop where
 cap:(s.V.length:Int)≤c.capacity
 val:∀ (i:Nat) v,s.V[i]? = some v→VOk c (epo c s) v
 sum:(bals s.V).sum=s.dep - s.pd - s.bu
 sup:(bals s.V).sum≤c.supplyCap
 tot:0≤s.pd∧0≤s.bu∧s.dep≤18446744073709551615
 pe:Ix s.V pend' s.pe
 ex:Ix s.V wait' (s.fo++s.vo)
 lv:Ix s.V leave' s.lv
 bo:Ix s.V bond' (s.bo.map (·.2))
 bw:∀ x∈s.bo,epo c s<x.1∧∀ v,s.V[x.2]? = some v→x.1≤v.wd
 ql:(s.pe.length:Int)≤c.queueSize∧(s.fo.length:Int)≤c.queueSize∧(s.vo.length:Int)≤c.queueSize∧(s.me.length:Int)≤c.queueSize∧(s.pa.length:Int)≤c.queueSize
 me:∀ p∈s.me,p.1<s.V.length∧p.2<s.V.length∧p.1≠p.2
 pa:∀ p∈s.pa,p.1<s.V.length∧1≤p.2∧p.2≤18446744073709551615
 at':s.at'<s.V.length∨s.at'=0
 ca:0≤s.ca∧s.ca≤18446744073709551615
 bk:s.bk≤1000000000
theorem epo_range {c:Cfg} (hc:CfOk c) {s:St} (hb:s.bk≤1000000001):0≤epo c s∧epo c s≤1000000001:=by
 have:=hc.el
 have h1:(s.bk:Int) / c.epochLen≤s.bk:=by
  have:=Int.ediv_le_self (a:=(s.bk:Int)) c.epochLen (by omega)
  omega
 exact⟨Int.ediv_nonneg (by omega) (by omega),by unfold epo;omega⟩
theorem Inv.ini {c:Cfg} (hc:CfOk c):Inv c St.ini:=by
 have:=hc.ca;have:=hc.qs;have:=hc.sc;have:=hc.md
 refine⟨by simp[St.ini];omega,by simp[St.ini],by simp[St.ini,bals],by simp[St.ini,bals];omega,by simp[St.ini],⟨by simp[St.ini],by simp[St.ini]⟩,⟨by simp[St.ini],by simp[St.ini]⟩,⟨by simp[St.ini],by simp[St.ini]⟩,⟨by simp[St.ini],by simp[St.ini]⟩,by simp[St.ini],by simp[St.ini];omega,by simp[St.ini],by simp[St.ini],by simp[St.ini],by simp[St.ini],by simp[St.ini]⟩
theorem Inv.bal0 {c:Cfg} {s:St} (h:Inv c s):∀ x∈bals s.V,0≤x:=fun x hx=>by
 obtain ⟨v,hv,rfl⟩:=List.mem_map.1 hx
 obtain ⟨i,hi,he⟩:=List.getElem_of_mem hv
 exact(h.val i v (by rw[List.getElem?_eq_getElem hi,he])).b
theorem Ix.set_same {V:List Val} {p:Val→Prop} {l:List Nat} (h:Ix V p l) {i:Nat} {v v':Val} (hv:V[i]? = some v) (hp:p v'↔p v):Ix (V.set i v') p l:=by
 obtain ⟨hl,he⟩:=List.getElem?_eq_some_iff.1 hv
 refine⟨h.nd,fun j=>?_⟩
 rw[h.mem,List.getElem?_set]
 by_cases hij:i=j
 ·subst hij
  rw[if_pos rfl,if_pos hl,hv]
  constructor
  ·rintro⟨u,hu,hpu⟩
   cases hu;exact⟨_,rfl,hp.2 hpu⟩
  ·rintro⟨u,hu,hpu⟩
   cases hu;exact⟨_,rfl,hp.1 hpu⟩
 ·simp[hij]
theorem Ix.set_add {V:List Val} {p:Val→Prop} {l l':List Nat} (h:Ix V p l) {i:Nat} {v v':Val} (hv:V[i]? = some v) (hp:¬p v) (hp':p v') (hl:l'.Perm (i::l)):Ix (V.set i v') p l':=by
 obtain ⟨hlt,he⟩:=List.getElem?_eq_some_iff.1 hv
 have hi:i∉l:=fun hm=>by
  obtain ⟨u,hu,hpu⟩:=(h.mem i).1 hm
  rw[hv] at hu;cases hu;exact hp hpu
 refine⟨hl.nodup_iff.2 (List.nodup_cons.2 ⟨hi,h.nd⟩),fun j=>?_⟩
 rw[hl.mem_iff,List.mem_cons,h.mem,List.getElem?_set]
 by_cases hij:i=j
 ·subst hij;simp[hlt,hp']
 ·simp[hij,Ne.symm hij]
theorem Ix.app_same {V:List Val} {p:Val→Prop} {l:List Nat} (h:Ix V p l) {v:Val} (hp:¬p v):Ix (V++[v]) p l:=by
 refine⟨h.nd,fun j=>?_⟩
 rw[h.mem]
 constructor
 ·rintro⟨u,hu,hpu⟩
  have:=(List.getElem?_eq_some_iff.1 hu).1
  exact⟨u,by rw[List.getElem?_append_left this];exact hu,hpu⟩
 ·rintro⟨u,hu,hpu⟩
  by_cases hj:j<V.length
  ·exact⟨u,by rw[List.getElem?_append_left hj] at hu;exact hu,hpu⟩
  ·rw[List.getElem?_append_right (by omega)] at hu
   have:u=v:=by
    cases hk:j - V.length with
    | zero=>rw[hk] at hu;simpa using hu.symm
    | succ n=>rw[hk] at hu;simp at hu
   subst this;exact absurd hpu hp
theorem Ix.app_add {V:List Val} {p:Val→Prop} {l:List Nat} (h:Ix V p l) {v:Val} (hp:p v):Ix (V++[v]) p (l++[V.length]):=by
 have hV:∀ j∈l,j<V.length:=fun j hj=>by
  obtain ⟨u,hu,_⟩:=(h.mem j).1 hj
  exact(List.getElem?_eq_some_iff.1 hu).1
 refine⟨?_,fun j=>?_⟩
 ·rw[List.nodup_append]
  refine⟨h.nd,by simp,fun a ha b hb=>?_⟩
  have:=hV a ha
  simp at hb;omega
 ·rw[List.mem_append,h.mem,List.mem_singleton]
  constructor
  ·rintro(⟨u,hu,hpu⟩|rfl)
   ·have:=(List.getElem?_eq_some_iff.1 hu).1
    exact⟨u,by rw[List.getElem?_append_left this];exact hu,hpu⟩
   ·exact⟨v,by simp,hp⟩
  ·rintro⟨u,hu,hpu⟩
   by_cases hj:j<V.length
   ·exact .inl ⟨u,by rw[List.getElem?_append_left hj] at hu;exact hu,hpu⟩
   ·have:=(List.getElem?_eq_some_iff.1 hu).1
    simp at this
    exact .inr (by omega)
theorem Ix.len {V:List Val} {p:Val→Prop} {l:List Nat} (h:Ix V p l):l.length≤V.length:=by
 have hs:l ⊆ List.range V.length:=fun j hj=>by
  obtain ⟨u,hu,_⟩:=(h.mem j).1 hj
  exact List.mem_range.2 (List.getElem?_eq_some_iff.1 hu).1
 have:=h.nd.length_le_of_subset hs
 simpa using this
theorem getE_app {V:List Val} {v u:Val} {j:Nat} (h:(V++[v])[j]? = some u):V[j]? = some u∨j=V.length∧u=v:=by
 by_cases hj:j<V.length
 ·rw[List.getElem?_append_left hj] at h;exact .inl h
 ·have:=(List.getElem?_eq_some_iff.1 h).1
  simp at this
  obtain rfl:j=V.length:=by omega
  simp at h;exact .inr ⟨rfl,h.symm⟩
theorem getE_set {V:List Val} {v u:Val} {i j:Nat} (h:(V.set i v)[j]? = some u):(i=j∧u=v)∨(i≠j∧V[j]? = some u):=by
 rw[List.getElem?_set] at h
 by_cases hij:i=j
 ·rw[if_pos hij] at h
  split at h
  ·exact .inl ⟨hij,(Option.some.inj h).symm⟩
  ·cases h
 ·rw[if_neg hij] at h;exact .inr ⟨hij,h⟩
end
def zk53:List Nat:=[0,2,3,4,10,13,14]
def zd54:List ZR:=[⟨7,[3,8],[],[(3,[0,1,4,5,6])],[0,1,2,4,5,6,3,7,8]⟩]
def zk55:List Nat:=[0,1,2,3,6]
def zd56:List ZR:=[⟨3,[2,7,10,13,14,15,18,21,24,27,29],[],[(2,[4,5,6,8,9,11,12,16,17,19,20,22,23,25,26]),(7,[4,8,9,11,12,16,17,19,20,22,23,25,26,3]),(10,[4,11,12,16,17,19,20,22,23,25,26,3]),(13,[4,16,17,19,20,22,23,25,26,3]),(14,[4,16,17,19,20,22,23,25,26,3]),(15,[4,16,17,19,20,22,23,25,26,3]),(18,[4,19,20,22,23,25,26,3]),(21,[4,22,23,25,26,3]),(24,[4,25,26,3]),(27,[4,3])],[0,1,4,5,6,8,9,11,12,16,17,19,20,22,23,25,26,2,3,7,10,13,14,15,18,21,24,27,28,29,30,31]⟩]
section
open Go.RowKit
abbrev cuC (b:Nat) (at':Nat):Asn:=pt b [.int .i64 (at':Int)] 193
theorem cu_new (R:List Asn):Spec 57 [] R fun u L'=>∃ b,u=ptr b∧L'=cuC b 0::R:=by
 (intro G w M;refine sx_enter (vs:=([]:List Value)) Tryz.func57 (n:=3) rfl rfl rfl rfl ?_;intro a F;(try simp only[zc,zn] at M))
 (repeat'(first|(first|refine sx_nil ?_|fail);try replace F:=F.filt [0] rfl|refine zn1 F M ?_;clear F M a;(try clear w);intro a w F M|refine sv2 F M ?_;clear F M a;intro nb a w F M|refine zT F ?_|refine zY ?_;go_step|fail))
 (all_goals(refine zE F M ?_;exact⟨_,_,rfl,⟨nb,rfl,rfl⟩,M.perms permsA⟩))
theorem cu_at (b at':Nat) (R:List Asn):Spec 84 [ptr b] (cuC b at'::R) fun u L'=>u=.int .i64 at'∧L'=cuC b at'::R:=by
 (intro G w M;refine sx_enter (vs:=([ptr b]:List Value)) Tryz.func84 (n:=9) rfl rfl rfl rfl ?_;intro a F;(try simp only[zc,zn] at M))
 (repeat'(first|(first|refine sx_nil ?_|fail);try replace F:=F.filt zk5 rfl|refine zn1 F M ?_;clear F M a;(try clear w);intro a w F M|refine zT F ?_|refine zY ?_;go_step|fail))
 all_goals exact zX F M
theorem ln_new (size:Nat) (h:1≤size∧size≤4096) (R:List Asn):Spec 59 [.int .i64 size] R fun u L'=>∃ b r0 r1,u=ptr b∧L'=lnP b r0 r1 size [] [] R:=by
 obtain ⟨h1,h2⟩:=h
 (intro G w M;refine sx_enter (vs:=([.int .i64 size]:List Value)) Tryz.func59 (n:=26) rfl rfl rfl rfl ?_;intro a F;(try simp only[zc,zn] at M))
 (repeat'(first|(first|refine sx_nil ?_|fail);try replace F:=F.filt zk53 rfl|refine zn1 F M ?_;clear F M a;(try clear w);intro a w F M|refine sv2 F M ?_;clear F M a;intro nb a w F M|refine zh F ?_ ?_<;>(intro hg;rw[hg] at F;try exact no hg)|refine zT F ?_|((with_reducible refine isK ?_);refine svB F ?_ ?_<;>intro hc<;>try exact no hc)|refine zY ?_;go_step|fail))
 have e1:¬((1:Nat)≤0):=by omega
 have e2:¬((2:Nat)≤0):=by omega
 have e3:¬((2:Nat)≤1):=by omega
 have e4:(1:Nat)≤2:=by omega
 refine svLoop F M ((0,0,0):Nat × Nat × Nat) (fun z=>[(13,.int .i64 z.1)]) (fun z=>pt nb [if 1≤z.1 then ptr z.2.1 else .pointer none,if 2≤z.1 then ptr z.2.2 else .pointer none] 204::((if 1≤z.1 then [rgnA z.2.1 size []] else [])++(if 2≤z.1 then [rgnA z.2.2 size []] else []))) (fun z=>z.1≤2) (fun z=>2 - z.1) [] (by simp) ?_ (hR:=by simp only[e1,e2,if_false,List.append_nil];(repeat (first|exact Pulls.nil|(apply Pulls.cons;(focus ((repeat (first|exact Pull.here|apply Pull.there));done))))))
 (rintro⟨k,r0,r1⟩ q1 a w F M;(try simp only[zc,zn] at F M q1 ⊢))
 try dsimp only at q1
 rcases (by omega:k=0∨k=1∨k=2) with rfl|rfl|rfl
 ·simp only[e1,e2,if_false,List.append_nil,zn,zc] at M
  (repeat'(first|(first|refine sx_nil ?_|refine pv_nil ?_;intro a w F M);try replace F:=F.filt zk53 rfl|refine zn1 F M ?_;clear F M a;(try clear w);intro a w F M|refine zp1 ?_|((first|refine pvC ?_|fail);(((refine acW (k:=60) (rgn_new size ⟨h1,h2⟩ _) ?_);rintro u L' ⟨r,rfl,rfl⟩));(first|refine⟨rvsA,?_⟩|fail))|refine zT F ?_|((with_reducible refine isD ?_);((refine zD zd54 F M ?_;clear F M a w)))|refine zY ?_;go_step|fail))
  exact sv_again F M (1,r,0) kpA (by simp only[Nat.le_refl,e3,if_true,if_false,zc,List.append_nil,zn];exact permsA) (by dsimp only;omega) (by dsimp only;omega)
 ·simp only[Nat.le_refl,e3,if_true,if_false,List.append_nil,zn,zc] at M
  (repeat'(first|(first|refine sx_nil ?_|refine pv_nil ?_;intro a w F M);try replace F:=F.filt zk53 rfl|refine zn1 F M ?_;clear F M a;(try clear w);intro a w F M|refine zp1 ?_|((first|refine pvC ?_|fail);(((refine acW (k:=60) (rgn_new size ⟨h1,h2⟩ _) ?_);rintro u L' ⟨r,rfl,rfl⟩));(first|refine⟨rvsA,?_⟩|fail))|refine zT F ?_|((with_reducible refine isD ?_);((refine zD zd54 F M ?_;clear F M a w)))|refine zY ?_;go_step|fail))
  exact sv_again F M (2,r0,r) kpA (by simp only[Nat.le_refl,e4,if_true,if_false,zc,List.append_nil,zn];exact permsA) (by dsimp only;omega) (by dsimp only;omega)
 ·simp only[Nat.le_refl,e4,if_true,List.append_nil,zn,zc] at M
  (repeat'(first|(first|refine sx_nil ?_|fail);try replace F:=F.filt zk53 rfl|refine zn1 F M ?_;clear F M a;(try clear w);intro a w F M|refine zT F ?_|refine zY ?_;go_step|fail))
  (all_goals(refine zE F M ?_;exact⟨_,_,rfl,⟨nb,r0,r1,rfl,rfl⟩,M.perms permsA⟩))
structure EH where
 rg:Nat
 ck:Nat
 ld:Nat
 bo:Nat
 lv:SlH
 cu:Nat
 mt:Nat
 ln:Nat
 r0:Nat
 r1:Nat
 pe:Nat
 me:Nat
 pa:Nat
def engC (H:EH) (c:Cfg):List Value:=[ptr H.rg,.int .i64 c.capacity,.int .i64 c.queueSize,.int .u64 c.minDeposit,.int .u64 c.maxDeposit,.int .u64 c.supplyCap,.int .u64 c.minBalance,.int .u64 c.maxBalance,.int .u64 c.minChurn,.int .u64 c.quotient,.int .u64 c.forcedCap,
 .int .i64 c.unbonding,.int .i64 c.slashDelay,.int .i64 c.ringLen,.int .i64 c.epochLen,.int .i64 c.visits,.int .i64 c.payments,.int .i64 c.partials,.int .i64 c.merges,.int .u64 c.penNum,.int .u64 c.penDen,
 ptr H.ck,ptr H.ld,ptr H.bo,sl H.lv,ptr H.cu,ptr H.mt,ptr H.ln,ptr H.pe,ptr H.me,ptr H.pa]
abbrev qS (c:Cfg):Nat:=c.queueSize.toNat
abbrev engL (b:Nat) (H:EH) (c:Cfg) (s:St) (R:List Asn):List Asn :=
 pt b (engC H c) 132::regA H.rg c.capacity s.V::ckC H.ck s.bk c.epochLen::ldC H.ld s.dep s.pd s.bu c.supplyCap::bkA H.bo c.ringLen.toNat s.bo::ownT 3 natL 1 (sl H.lv) s.lv::cuC H.cu s.at'::mtA H.mt s.ca ::
 lnC H.ln H.r0 H.r1::rgnA H.r0 (qS c) s.fo::rgnA H.r1 (qS c) s.vo::rgnA H.pe (qS c) s.pe::rgpA H.me (qS c) s.me::rgqA H.pa (qS c) s.pa::R
theorem eng_new (c:Cfg) (hc:CfOk c) (hk:checkF c=0) (R:List Asn):Spec 28 [cfgV c] R fun u L'=>∃ b H,u=.tuple [ptr b,.int .i64 0].toArray∧L'=engL b H c St.ini R:=by
 have q1:=hc.qs
 have q2:=hc.rl
 obtain ⟨qs,hqs⟩:∃ qs:Nat,c.queueSize=qs:=⟨c.queueSize.toNat,by omega⟩
 obtain ⟨rl,hrl⟩:∃ rl:Nat,c.ringLen=rl:=⟨c.ringLen.toNat,by omega⟩
 have hq:qS c=qs:=by simp only[qS,hqs,Int.toNat_natCast]
 have hr:c.ringLen.toNat=rl:=by rw[hrl,Int.toNat_natCast]
 have n1:∀ R,Spec 60 [.int .i64 c.queueSize] R fun u L'=>∃ b,u=ptr b∧L'=rgnA b (qS c) []::R:=fun R=>by rw[hq,hqs];exact rgn_new qs (by omega) R
 have n2:∀ R,Spec 61 [.int .i64 c.queueSize] R fun u L'=>∃ b,u=ptr b∧L'=rgpA b (qS c) []::R:=fun R=>by rw[hq,hqs];exact rgp_new qs (by omega) R
 have n3:∀ R,Spec 62 [.int .i64 c.queueSize] R fun u L'=>∃ b,u=ptr b∧L'=rgqA b (qS c) []::R:=fun R=>by rw[hq,hqs];exact rgq_new qs (by omega) R
 have n4:∀ R,Spec 59 [.int .i64 c.queueSize] R fun u L'=>∃ b r0 r1,u=ptr b∧L'=lnP b r0 r1 (qS c) [] [] R:=fun R=>by rw[hq,hqs];exact ln_new qs (by omega) R
 have n5:∀ R,Spec 56 [.int .i64 c.ringLen] R fun u L'=>∃ b,u=ptr b∧L'=bkA b c.ringLen.toNat []::R:=fun R=>by rw[hr,hrl];exact bk_new rl R (by omega)
 have hv:=fun R=>valid_spec c R
 rw[hk] at hv
 (intro G w M;refine sx_enter (vs:=([cfgV c]:List Value)) Tryz.func28 (n:=37) rfl rfl rfl rfl ?_;intro a F;(try simp only[zc,zn] at M))
 (repeat'(first|(first|refine sx_nil ?_|refine pv_nil ?_;intro a w F M);try replace F:=F.filt zk55 rfl|refine zn1 F M ?_;clear F M a;(try clear w);intro a w F M|refine sv2 F M ?_;clear F M a;intro nb a w F M|refine zp1 ?_|refine zp2 ?_;intro nb|((first|refine svC F M ?_|refine pvC ?_|fail);((first|((refine acW (k:=52) (hv _) ?_);rintro u L' ⟨rfl,rfl⟩)|((refine acW (k:=53) (reg_new c.capacity _ hc.ca) ?_);rintro u L' ⟨rg,rfl,rfl⟩)|((refine acW (k:=54) (clk_new c.epochLen hc.el _) ?_);rintro u L' ⟨ck,rfl,rfl⟩)|((refine acW (k:=55) (led_new c.supplyCap _) ?_);rintro u L' ⟨ld,rfl,rfl⟩)|((refine acW (k:=56) (n5 _) ?_);rintro u L' ⟨bo,rfl,rfl⟩)|((refine acW (k:=57) (cu_new _) ?_);rintro u L' ⟨cu,rfl,rfl⟩)|((refine acW (k:=58) (mt_new _) ?_);rintro u L' ⟨mt,rfl,rfl⟩)|((refine acW (k:=59) (n4 _) ?_);rintro u L' ⟨ln,r0,r1,rfl,rfl⟩)|((refine acW (k:=60) (n1 _) ?_);rintro u L' ⟨pe,rfl,rfl⟩)|((refine acW (k:=61) (n2 _) ?_);rintro u L' ⟨me,rfl,rfl⟩)|((refine acW (k:=62) (n3 _) ?_);rintro u L' ⟨pa,rfl,rfl⟩)));(first|refine⟨rvsA,?_⟩|clear F M a;intro a w F M|fail))|refine zT F ?_|((with_reducible refine isD ?_);((refine zD zd56 F M ?_;clear F M a w)))|refine zY ?_;go_step|fail))
 all_goals refine zE F M ?_
 replace M:=M.own_nil 3 1
 exact⟨_,_,rfl,⟨nb,⟨rg,ck,ld,bo,nilH,cu,mt,ln,r0,r1,pe,me,pa⟩,rfl,rfl⟩,M.perms permsA⟩
end
def zd57:List ZR:=[⟨4,[4,9,15,27,32,37,42,47,52,57,62,67,69],[],[(4,[5,6,7,8,10,11,12,13,14,16,17,18,19,20,21,22,23,24,25,26,28,29,30,31,33,34,35,36,38,39,40,41,43,44,45,46,48,49,50,51,53,54,55,56,58,59,60,61,63,64,65,66]),(9,[10,11,12,13,14,16,17,18,19,20,21,22,23,24,25,26,28,29,30,31,33,34,35,36,38,39,40,41,43,44,45,46,48,49,50,51,53,54,55,56,58,59,60,61,63,64,65,66]),(15,[16,17,18,19,20,21,22,23,24,25,26,28,29,30,31,33,34,35,36,38,39,40,41,43,44,45,46,48,49,50,51,53,54,55,56,58,59,60,61,63,64,65,66]),(27,[16,17,18,19,20,21,28,29,30,31,33,34,35,36,38,39,40,41,43,44,45,46,48,49,50,51,53,54,55,56,58,59,60,61,63,64,65,66]),(32,[16,17,18,19,20,21,33,34,35,36,38,39,40,41,43,44,45,46,48,49,50,51,53,54,55,56,58,59,60,61,63,64,65,66]),(37,[16,17,18,19,20,21,38,39,40,41,43,44,45,46,48,49,50,51,53,54,55,56,58,59,60,61,63,64,65,66]),(42,[16,17,18,19,20,21,43,44,45,46,48,49,50,51,53,54,55,56,58,59,60,61,63,64,65,66]),(47,[16,17,18,19,20,21,48,49,50,51,53,54,55,56,58,59,60,61,63,64,65,66]),(52,[16,17,18,19,20,21,53,54,55,56,58,59,60,61,63,64,65,66]),(57,[16,17,18,19,20,21,58,59,60,61,63,64,65,66]),(62,[16,17,18,19,20,21,63,64,65,66]),(67,[16,17,18,19,20,21])],[0,1,2,3,5,6,7,8,10,11,12,13,14,16,17,18,19,20,21,22,23,24,25,26,28,29,30,31,33,34,35,36,38,39,40,41,43,44,45,46,48,49,50,51,53,54,55,56,58,59,60,61,63,64,65,66,4,9,15,27,32,37,42,47,52,57,62,67,68,69]⟩]
section
open Go.RowKit
structure Sn where
 bk:Int
 ep:Int
 dep:Int
 pd:Int
 bu:Int
 ac:Int
 at':Int
 ca:Int
 un:Int
 hV:SlH
 hP:SlH
 hF:SlH
 hO:SlH
 hM:SlH
 hQ:SlH
def snL (x:Sn):List Value:=[.int .i64 x.bk,.int .i64 x.ep,sl x.hV,.int .u64 x.dep,.int .u64 x.pd,.int .u64 x.bu,.int .u64 x.ac,sl x.hP,sl x.hF,sl x.hO,sl x.hM,sl x.hQ,.int .i64 x.at',.int .u64 x.ca,.int .i64 x.un]
abbrev snV (x:Sn):Value:=.agg (snL x).toArray
def snOf (c:Cfg) (s:St) (hV hP hF hO hM hQ:SlH):Sn:=⟨s.bk,epo c s,s.dep,s.pd,s.bu,actv s.V,s.at',s.ca,s.bo.length,hV,hP,hF,hO,hM,hQ⟩
theorem actv_le:∀ (V:List Val),(∀ x∈bals V,0≤x)→0≤actv V∧actv V≤(bals V).sum
 | [],_=>by simp[actv,bals]
 | v::V,h=>by
  have h1:∀ x∈bals V,0≤x:=fun x hx=>h x (List.mem_cons_of_mem _ hx)
  have:=actv_le V h1
  have h0:0≤v.bal:=h v.bal (List.mem_cons_self ..)
  have e1:(bals (v::V)).sum=v.bal+(bals V).sum:=rfl
  have e2:actv (v::V)=if v.live=true then v.bal+actv V else actv V:=by
   unfold actv bals;rw[List.filter_cons];split<;>rfl
  rw[e1,e2];split<;>omega
theorem snap_spec (b:Nat) (H:EH) (c:Cfg) (s:St) (hc:CfOk c) (hi:Inv c s) (R:List Asn):Spec 33 [ptr b] (engL b H c s R) fun u L'=>∃ hV hP hF hO hM hQ,u=snV (snOf c s hV hP hF hO hM hQ)∧L'=ownT 48 valL 7 (sl hV) s.V::ownT 3 natL 1 (sl hP) s.pe::ownT 3 natL 1 (sl hF) s.fo::ownT 3 natL 1 (sl hO) s.vo::ownT 89 prL 2 (sl hM) s.me::ownT 91 rqL 2 (sl hQ) s.pa::engL b H c s R:=by
 have hcap:=hi.cap
 have hca:=hc.ca
 have hqs:=hc.qs
 obtain ⟨l1,l2,l3,l4,l5⟩:=hi.ql
 have hac:=actv_le s.V hi.bal0
 have hsup:=hi.sup
 have hsc:=hc.sc
 have hbk:=hi.bk
 (intro G w M;refine sx_enter (vs:=([ptr b]:List Value)) Tryz.func33 (n:=81) rfl rfl rfl rfl ?_;intro a F;(try simp only[zc,zn] at M))
 (repeat'(first|(first|refine sx_nil ?_|refine pv_nil ?_;intro a w F M);try replace F:=F.filt zk18 rfl|refine zn1 F M ?_;clear F M a;(try clear w);intro a w F M|refine sv2 F M ?_;clear F M a;intro nb a w F M|refine zp1 ?_|((first|refine svC F M ?_|refine pvC ?_|fail);((first|((refine acK (k:=77) (led_totals H.ld s.dep s.pd s.bu c.supplyCap _) ?_);rintro u L' ⟨rfl,rfl⟩)|((refine acK (k:=73) (clk_block H.ck s.bk c.epochLen _) ?_);rintro u L' ⟨rfl,rfl⟩)|((refine acK (k:=74) (clk_epoch H.ck s.bk c.epochLen hc.el (by omega) _) ?_);rintro u L' ⟨rfl,rfl⟩)|((refine acK (k:=78) (reg_all H.rg c.capacity s.V (by omega) _) ?_);rintro u L' ⟨hV,rfl,rfl⟩)|((refine acK (k:=79) (reg_active H.rg c.capacity s.V _ ⟨by omega,by omega⟩) ?_);rintro u L' ⟨rfl,rfl⟩)|((refine acK (k:=80) (rgn_all H.pe (qS c) s.pe (by omega) _) ?_);rintro u L' ⟨hP,rfl,rfl⟩)|((refine acK (k:=81) (lall0 H.ln H.r0 H.r1 (qS c) s.fo s.vo _ (by omega)) ?_);rintro u L' ⟨hF,rfl,rfl⟩)|((refine acK (k:=81) (lall1 H.ln H.r0 H.r1 (qS c) s.fo s.vo _ (by omega)) ?_);rintro u L' ⟨hO,rfl,rfl⟩)|((refine acK (k:=82) (rgp_all H.me (qS c) s.me (by omega) _) ?_);rintro u L' ⟨hM,rfl,rfl⟩)|((refine acK (k:=83) (rgq_all H.pa (qS c) s.pa (by omega) _) ?_);rintro u L' ⟨hQ,rfl,rfl⟩)|((refine acK (k:=84) (cu_at H.cu s.at' _) ?_);rintro u L' ⟨rfl,rfl⟩)|((refine acK (k:=85) (mt_bal H.mt s.ca _ hi.ca) ?_);rintro u L' ⟨rfl,rfl⟩)|((refine acK (k:=86) (bk_len H.bo c.ringLen.toNat s.bo _) ?_);rintro u L' ⟨rfl,rfl⟩)));(first|refine⟨rvsA,?_⟩|clear F M a;intro a w F M|fail))|refine zT F ?_|((with_reducible refine isD ?_);((refine zD zd57 F M ?_;clear F M a w)))|refine zY ?_;go_step|fail))
 all_goals refine zE F M ?_
 all_goals exact⟨_,_,rfl,⟨hV,hP,hF,hO,hM,hQ,rfl,rfl⟩,M.perms permsA⟩
end
def zk58:List Nat:=[0,1,4,5,6,9]
def zk59:List Nat:=[0,1,4,5,6,7,19]
def zk60:List Nat:=[0,1,2,6,8]
section
open Go.RowKit
theorem satGo_sum:∀ (l:List Int) (n:Int),n≤18446744073709551615→(∀ z∈l,0≤z)→satGo n l=if 18446744073709551615<n+l.sum then (18446744073709551615,true) else (n+l.sum,false)
 | [],n,h,_=>by rw[satGo,List.sum_nil,Int.add_zero,if_neg (by omega)]
 | x::r,n,h,hl=>by
  have hs:=sum_nonneg r fun z hz=>hl z (by simp[hz])
  rw[satGo,List.sum_cons]
  by_cases h1:18446744073709551615<n+x
  ·rw[if_pos h1,if_pos (by omega)]
  ·rw[if_neg h1,satGo_sum r _ (by omega) (fun z hz=>hl z (by simp[hz])),Int.add_assoc]
theorem addR_sum (l:List Int) (h:∀ z∈l,0≤z):addR l=if 18446744073709551615<l.sum then (0,false) else (l.sum,true):=by
 rw[addR,satGo_sum l 0 (by omega) h,Int.zero_add]
 split<;>simp
section
variable (R:List Asn)
theorem pnPay_spec (v:Val) (hv:v.wf) (ep:Int):Spec 205 [valV v,.int .i64 ep] R fun u L'=>u=.tuple [valV (payR v ep).2.1,.int .u64 (if (payR v ep).1=0 then v.bal else 0),.int .i64 (payR v ep).1].toArray∧L'=R:=Spec.of_below (fun w=>pay_any v hv ep w) ⟨rfl,rfl⟩
theorem pnAcc_spec (v:Val) (hv:v.wf) (ep:Int) (hep:(Lit.int .i64 ep).wf=true):Spec 210 [valV v,.int .i64 ep] R fun u L'=>u=.tuple [valV (accR v ep).2.1,.int .i64 (accR v ep).1].toArray∧L'=R:=Spec.of_below (fun w=>accept_any v hv ep hep w) ⟨rfl,rfl⟩
theorem pnAsg_spec (v:Val) (hv:v.wf) (xt:Int) (hxt:(Lit.int .i64 xt).wf=true) (c:Cfg) (hdy:(Lit.int .i64 c.unbonding).wf=true):Spec 274 [valV v,.int .i64 xt,cfgV c] R fun u L'=>u=.tuple [valV (asgR v xt c.unbonding).2.1,.int .i64 (asgR v xt c.unbonding).1].toArray∧L'=R:=Spec.of_below (fun w=>assign_any v hv xt hxt c hdy w) ⟨rfl,rfl⟩
theorem pnSla_spec (v:Val) (hv:v.wf) (ep:Int) (hep:(Lit.int .i64 ep).wf=true) (c:Cfg) (hdy:(Lit.int .i64 c.slashDelay).wf=true) (hn0:0≤c.penNum) (hn:c.penNum≤18446744073709551615) (hd0:0≤c.penDen) (hd:c.penDen≤18446744073709551615):Spec 147 [valV v,.int .i64 ep,cfgV c] R fun u L'=>u=.tuple [valV (slaR v ep c.slashDelay c.penNum c.penDen).2.1,.int .u64 (slaR v ep c.slashDelay c.penNum c.penDen).2.2,.int .i64 (slaR v ep c.slashDelay c.penNum c.penDen).1].toArray∧L'=R:=Spec.of_below (fun w=>slash_any v hv ep hep c hdy hn0 hn hd0 hd w) ⟨rfl,rfl⟩
theorem next_spec (s e:Int) (hs:(Lit.int .i64 s).wf=true) (he:(Lit.int .i64 e).wf=true):Spec 271 [.int .i64 s,.int .i64 e] R fun u L'=>u=.tuple [.int .i64 (nextF s e),.bool (nextF s e != 0)].toArray∧L'=R:=Spec.of_below (fun w=>next_status s e hs he w) ⟨rfl,rfl⟩
theorem ceilD_one {a d:Int} (h:1≤a) (hd:1≤d):(a - 1) / d+1=ceilD a d:=by
 unfold ceilD
 rw[show a+d - 1=(a - 1)+1*d by omega,Int.add_mul_ediv_right _ _ (by omega)]
theorem ceilD_range {a d:Int} (h:0≤a) (hd:1≤d):0≤ceilD a d∧ceilD a d≤a:=by
 by_cases h1:a=0
 ·subst h1
  unfold ceilD
  rw[Int.ediv_eq_zero_of_lt (by omega) (by omega)];omega
 ·rw[← ceilD_one (by omega) hd]
  have h2:0≤(a - 1) / d:=Int.ediv_nonneg (by omega) (by omega)
  have h3:(a - 1) / d≤a - 1:=Int.ediv_le_self _ (by omega)
  omega
theorem gceil_spec (a d:Int) (ha:U64 a) (hd:1≤d):Spec 344 [.int .u64 a,.int .u64 d] R fun u L'=>u=.tuple [.int .u64 (ceilD a d),.bool true].toArray∧L'=R:=by
 have h1:=ha.1;have h2:=ha.2
 have hr:=ceilD_range h1 hd
 by_cases h0:a=0
 ·subst h0
  have e0:ceilD 0 d=0:=by omega
  (intro G w M;refine sx_enter (vs:=([.int .u64 0,.int .u64 d]:List Value)) Tryz.func344 (n:=17) rfl rfl rfl rfl ?_;intro a F;(try simp only[zc,zn] at M))
  (repeat'(first|(first|refine sx_nil ?_|fail);try replace F:=F.filt zk58 rfl|refine zn1 F M ?_;clear F M a;(try clear w);intro a w F M|refine zT F ?_|((with_reducible refine isK ?_);refine svB F ?_ ?_<;>intro hc<;>try exact no hc)|refine zY ?_;go_step|fail))
  all_goals refine zE F M ?_
  all_goals exact⟨_,_,rfl,⟨by rw[e0];rfl,rfl⟩,M.perms permsA⟩
 ·have e1:=ceilD_one (show 1≤a by omega) hd
  have h3:0≤(a - 1) / d:=Int.ediv_nonneg (by omega) (by omega)
  have hw:IntKind.u64.wrap ((a - 1) / d)=(a - 1) / d:=u64_wrap_id ⟨h3,by omega⟩
  (intro G w M;refine sx_enter (vs:=([.int .u64 a,.int .u64 d]:List Value)) Tryz.func344 (n:=17) rfl rfl rfl rfl ?_;intro a F;(try simp only[zc,zn] at M))
  (repeat'(first|(first|refine sx_nil ?_|fail);try replace F:=F.filt zk58 rfl|refine zn1 F M ?_;clear F M a;(try clear w);intro a w F M|refine zT F ?_|((with_reducible refine isK ?_);refine svB F ?_ ?_<;>intro hc<;>try exact no hc)|refine zY ?_;go_step|fail))
  all_goals refine zE F M ?_
  all_goals exact⟨_,_,rfl,⟨by rw[← e1];rfl,rfl⟩,M.perms permsA⟩
theorem epochs_spec (x d:Int) (hx:U64 x) (hd:1≤d):Spec 338 [.int .u64 x,.int .u64 d] R fun u L'=>u=(if 1099511627776<ceilD x d then .tuple [.int .i64 0,.bool false].toArray else .tuple [.int .i64 (ceilD x d),.bool true].toArray)∧L'=R:=by
 have hr:=ceilD_range hx.1 hd
 by_cases h:1099511627776<ceilD x d
 ·rw[if_pos h]
  (intro G w M;refine sx_enter (vs:=([.int .u64 x,.int .u64 d]:List Value)) Tryz.func338 (n:=22) rfl rfl rfl rfl ?_;intro a F;(try simp only[zc,zn] at M))
  (repeat'(first|(first|refine sx_nil ?_|fail);try replace F:=F.filt zk59 rfl|refine zn1 F M ?_;clear F M a;(try clear w);intro a w F M|((first|refine svC F M ?_|fail);(((refine acW (k:=344) (gceil_spec _ x d hx hd) ?_);rintro u L' ⟨rfl,rfl⟩));(first|clear F M a;intro a w F M|fail))|refine zT F ?_|((with_reducible refine isK ?_);refine svB F ?_ ?_<;>intro hc<;>try exact no hc)|refine zY ?_;go_step|fail))
  all_goals exact zX F M
 ·rw[if_neg h]
  have hw:IntKind.i64.wrap (ceilD x d)=ceilD x d:=IntWalk.i64_in _ ⟨by omega,by omega⟩
  (intro G w M;refine sx_enter (vs:=([.int .u64 x,.int .u64 d]:List Value)) Tryz.func338 (n:=22) rfl rfl rfl rfl ?_;intro a F;(try simp only[zc,zn] at M))
  (repeat'(first|(first|refine sx_nil ?_|fail);try replace F:=F.filt zk59 rfl|refine zn1 F M ?_;clear F M a;(try clear w);intro a w F M|((first|refine svC F M ?_|fail);(((refine acW (k:=344) (gceil_spec _ x d hx hd) ?_);rintro u L' ⟨rfl,rfl⟩));(first|clear F M a;intro a w F M|fail))|refine zT F ?_|((with_reducible refine isK ?_);refine svB F ?_ ?_<;>intro hc<;>try exact no hc)|refine zY ?_;go_step|fail))
  all_goals exact zX F M
theorem churn_spec (x m q:Int) (hx:U64 x) (hq:1≤q):Spec 195 [.int .u64 x,.int .u64 m,.int .u64 q] R fun u L'=>u=.int .u64 (max m (x / q))∧L'=R:=by
 have h3:0≤x / q:=Int.ediv_nonneg hx.1 (by omega)
 have h4:x / q≤x:=Int.ediv_le_self _ hx.1
 have hx2:=hx.2
 have hw:IntKind.u64.wrap (x / q)=x / q:=u64_wrap_id ⟨h3,by omega⟩
 (intro G w M;refine sx_enter (vs:=([.int .u64 x,.int .u64 m,.int .u64 q]:List Value)) Tryz.func195 (n:=15) rfl rfl rfl rfl ?_;intro a F;(try simp only[zc,zn] at M))
 (repeat'(first|((first|refine sv1 F M (h:=?_) (hr:=by((apply rt_max2;(exact rfl);(exact rfl);((show _=max m (x / q);split<;>omega)))))|fail);(try(clear F a;intro a F)))|(first|refine sx_nil ?_|fail);try replace F:=F.filt zk60 rfl|refine zn1 F M ?_;clear F M a;(try clear w);intro a w F M|refine zT F ?_|((with_reducible refine isK ?_);refine svB F ?_ ?_<;>intro hc<;>try exact no hc)|refine zY ?_;go_step|fail))
 all_goals refine zE F M ?_
 all_goals exact⟨_,_,rfl,⟨rfl,rfl⟩,M.perms permsA⟩
end
end
end Go.Proofs.YtopbohbkhljjgaaGreat
