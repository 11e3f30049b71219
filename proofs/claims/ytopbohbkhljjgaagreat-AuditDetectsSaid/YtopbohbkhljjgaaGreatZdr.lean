import Derived.Test.YtopbohbkhljjgaaGreatZdq
set_option linter.unusedVariables false
set_option linter.unusedSimpArgs false
set_option maxRecDepth 100000
set_option maxHeartbeats 8000000
namespace Go.Proofs.YtopbohbkhljjgaaGreat
section
open Go.RowKit
theorem onceGo_len (p:Val→Bool):∀ (V:List Val) (i:Nat) (q:List Int),onceGo p V i q=true→q.length=(V.filter p).length
 | [],i,q,h=>by
  simp only[onceGo,decide_eq_true_eq] at h
  subst h;rfl
 | v::V,i,q,h=>by
  rw[onceGo,Bool.and_eq_true,decide_eq_true_eq] at h
  obtain ⟨h1,h2⟩:=h
  have h3:=onceGo_len p V (i+1) _ h2
  have h4:=filter_len (i:Int) q
  rw[List.filter_cons]
  by_cases hp:p v=true
  ·rw[if_pos hp] at h1 ⊢;rw[List.length_cons];omega
  ·rw[if_neg hp] at h1 ⊢;omega
theorem allR_ne {x:Sn} {d:SnD} {c:Cfg} (k:Nat) (h1:1≤k) (h2:k≤12) (h:ruleN x d c k=false):allR x d c≠[]:=by
 have key:∀ (n j:Nat),j≤k→k<j+n→allGo x d c n j≠[]:=by
  intro n
  induction n with
  | zero=>intro j h3 h4;omega
  | succ n ih =>
   intro j h3 h4 e
   rw[allGo] at e
   obtain ⟨e1,e2⟩:=List.append_eq_nil_iff.1 e
   by_cases h5:j<k
   ·exact ih (j+1) h5 (by omega) e2
   ·obtain rfl:j=k:=by omega
    rw[h] at e1
    simp at e1
 exact key 12 1 h1 (by omega)
structure SnC (x x':Sn) (d d':SnD) (p y:Int):Prop where
 bk:x'.bk=x.bk
 pd:x'.pd=x.pd
 bu:x'.bu=x.bu
 vo:d'.vo=d.vo
 z0:p=0→x'.dep=IntKind.u64.wrap (x.dep+(1+y))
 z1:p=1→x'.ac=IntKind.u64.wrap (x.ac+(1+y))
 z2:p=2→d'.pe=d.pe++[y]
 z3:p=3→d'.fo=d.fo++[y]
 z4:p=4→x'.un=x.un+1
 z5:p=5→x'.ep=x.ep+1
 v:p≤5→d'.V=d.V
theorem isR_false {l:List Int} {x y:Int} (h:∀ z∈l,0≤z) (hs:l.sum=x) (hy:y≠x):isR l y=false:=by
 unfold isR
 rw[addR_sum l h]
 split
 ·rfl
 ·simp only[Bool.true_and,decide_eq_false_iff_not];omega
theorem det_ne {c:Cfg} (hc:CfOk c) {s:St} (h:Inv c s) (h1 h2 h3 h4 h5 h6:SlH) {x':Sn} {d':SnD} {p y:Int} (hC:SnC (snOf c s h1 h2 h3 h4 h5 h6) x' (dOf s) d' p y) (hy:0≤y∧y≤255) (hp:0≤p∧p≤5):allR x' d' c≠[]:=by
 obtain ⟨k1,k2,k3,k4,z0,z1,z2,z3,z4,z5,kv⟩:=hC
 have hb:=h.bal0
 have hsum:=h.sum
 have htot:=h.tot
 have hac:=actv_le s.V hb
 have hsup:=h.sup
 have hsc:=hc.sc
 have hca:=hc.ca
 have hkv:d'.V=s.V:=kv hp.2
 clear kv
 simp only[snOf,dOf] at k1 k2 k3 k4 z0 z1 z2 z3 z4 z5
 have hwr:∀ n:Int,0≤n→n≤18446744073709551615→IntKind.u64.wrap (n+(1+y))≠n:=fun n h1 h2=>by rw[IntKind.wrap_u64];omega
 rcases (by omega:p=0∨p=1∨p=2∨p=3∨p=4∨p=5) with rfl|rfl|rfl|rfl|rfl|rfl
 ·refine allR_ne 2 (by omega) (by omega) ?_
  show isR ([x'.pd,x'.bu]++bals d'.V) x'.dep=false
  rw[k2,k3,hkv,z0 rfl]
  exact isR_false (x:=s.dep) (by simp only[List.cons_append,List.nil_append,List.mem_cons];rintro z (rfl|rfl|hz);exact htot.1;exact htot.2.1;exact hb z hz) (by simp only[List.cons_append,List.nil_append,List.sum_cons,hsum];omega) (hwr _ (by have:=sum_nonneg _ hb;omega) (by omega))
 ·refine allR_ne 4 (by omega) (by omega) ?_
  show isR (bals (d'.V.filter Val.live)) x'.ac=false
  rw[hkv,z1 rfl]
  exact isR_false (x:=actv s.V) (fun z hz=>by obtain ⟨v,hv,rfl⟩:=List.mem_map.1 hz;exact hb _ (List.mem_map.2 ⟨v,(List.mem_filter.1 hv).1,rfl⟩)) rfl (hwr _ hac.1 (by omega))
 ·refine allR_ne 5 (by omega) (by omega) ?_
  show onceGo pPend d'.V 0 d'.pe=false
  rw[hkv,z2 rfl]
  refine Bool.eq_false_iff.2 fun e=>?_
  have e1:=onceGo_len _ _ _ _ e
  have e2:=ix_count h.pe pPend_iff
  simp only[List.length_append,List.length_map,List.length_cons,List.length_nil] at e1
  omega
 ·refine allR_ne 6 (by omega) (by omega) ?_
  show onceGo pExit d'.V 0 (d'.fo++d'.vo)=false
  rw[hkv,z3 rfl,k4]
  refine Bool.eq_false_iff.2 fun e=>?_
  have e1:=onceGo_len _ _ _ _ e
  have e2:=ix_count h.ex pExit_iff
  simp only[List.length_append,List.length_map,List.length_cons,List.length_nil] at e1 e2
  omega
 ·refine allR_ne 9 (by omega) (by omega) ?_
  have e:=ix_count h.bo pBond_iff
  rw[List.length_map] at e
  show decide (((d'.V.filter pBond).length:Int)=x'.un)=false
  rw[hkv,z4 rfl,decide_eq_false_iff_not,e]
  omega
 ·refine allR_ne 11 (by omega) (by omega) ?_
  show(decide (0≤x'.bk) && decide (x'.ep=x'.bk / c.epochLen))=false
  rw[z5 rfl,k1,Bool.and_eq_false_iff]
  right
  rw[decide_eq_false_iff_not]
  show ¬epo c s+1=(s.bk:Int) / c.epochLen
  unfold epo
  omega
end
def zk154:List Nat:=[0,1,2,3,6,7,19,23,34,43,52,62,72,78,84,89]
section
open Go.RowKit
def chQ (x:Sn) (d:SnD) (R:List Asn) (p y:Int) (u:Value) (L':List Asn):Prop:=∃ x' d' hq q hv V',(u=snV x'∧SnC x x' d d' p y∧SnR x' d'∧SnG (ownT 3 intL 1 (sl hq) q::ownT 48 valL 7 (sl hv) V'::R) x' d')∧L'=ownT 3 intL 1 (sl hq) q::ownT 48 valL 7 (sl hv) V'::R
section
variable (x:Sn) (d:SnD) (R:List Asn) (h:SnG R x d) (hr:SnR x d) (hl:d.V.length≤4096∧d.pe.length≤4096∧d.fo.length≤4096) (y:Int) (hy:0≤y∧y≤255)
include h hr hl hy
theorem change0_spec:Spec 47 [snV x,.int .i64 0,.int .u8 y] R (chQ x d R 0 y):=by
 have hcl:=fun R hg=>clone_val x.hV d.V (L:=R) hg (by omega)
 obtain ⟨mx,hmx,hmx0⟩:∃ mx:Int,(if (1:Int)>(d.V.length:Int) then 1 else (d.V.length:Int))=mx∧0<mx:=⟨_,rfl,by split<;>omega⟩
 have cv1:IntKind.i64.wrap y=y:=IntWalk.i64_in _ ⟨by omega,by omega⟩
 have cv2:IntKind.u64.wrap y=y:=by rw[IntKind.wrap_u64];omega
 (intro G w M;refine sx_enter (vs:=([snV x,.int .i64 0,.int .u8 y]:List Value)) Tryz.func47 (n:=103) rfl rfl rfl rfl ?_;intro a F;(try simp only[zc,zn] at M))
 have hh:=h.app G
 have gg:=hh.gV
 have gp:=hh.gP
 have gf:=hh.gF
 (repeat'(first|((first|refine sv1 F M (h:=?_) (hr:=by((first|(refine rt_max2 rfl rfl hmx)|(apply rt_conv;(exact rfl);(exact rfl);(exact inferInstance);(exact inferInstance);(first|exact cv1|exact cv2)))))|fail);(try(clear F a;intro a F)))|(first|refine sx_nil ?_|fail);try replace F:=F.filt zk154 rfl|refine zn1 F M ?_;clear F M a;(try clear w);intro a w F M|refine sv2 F M ?_;clear F M a;intro nb a w F M|((first|refine svC F M ?_|fail);(((refine acW (k:=25) (hcl _ ?_) ?_);(exact gsA);rintro u L' ⟨hv,rfl,rfl⟩));(first|clear F M a;intro a w F M|fail))|refine zT F ?_|refine zY ?_;go_step|fail))
 all_goals refine zE F M ?_
 all_goals exact⟨_,_,rfl,⟨{x with dep:=IntKind.u64.wrap (x.dep+(1+y)),hV:=hv},d,nilH,[],hv,d.V,⟨rfl,(by constructor<;>first|rfl|(intro hz;first|rfl|(exfalso;omega))),⟨hr.bal,hr.iP,hr.iF,hr.iO,hr.pd,hr.bu,hr.bk⟩,⟨gs_own (.there .here),((h.tail _).tail _).gP,((h.tail _).tail _).gF,((h.tail _).tail _).gO,((h.tail _).tail _).gM,((h.tail _).tail _).gQ⟩⟩,rfl⟩,(M.own_nil 3 1).perms permsA⟩
theorem change1_spec:Spec 47 [snV x,.int .i64 1,.int .u8 y] R (chQ x d R 1 y):=by
 have hcl:=fun R hg=>clone_val x.hV d.V (L:=R) hg (by omega)
 obtain ⟨mx,hmx,hmx0⟩:∃ mx:Int,(if (1:Int)>(d.V.length:Int) then 1 else (d.V.length:Int))=mx∧0<mx:=⟨_,rfl,by split<;>omega⟩
 have cv1:IntKind.i64.wrap y=y:=IntWalk.i64_in _ ⟨by omega,by omega⟩
 have cv2:IntKind.u64.wrap y=y:=by rw[IntKind.wrap_u64];omega
 (intro G w M;refine sx_enter (vs:=([snV x,.int .i64 1,.int .u8 y]:List Value)) Tryz.func47 (n:=103) rfl rfl rfl rfl ?_;intro a F;(try simp only[zc,zn] at M))
 have hh:=h.app G
 have gg:=hh.gV
 have gp:=hh.gP
 have gf:=hh.gF
 (repeat'(first|((first|refine sv1 F M (h:=?_) (hr:=by((first|(refine rt_max2 rfl rfl hmx)|(apply rt_conv;(exact rfl);(exact rfl);(exact inferInstance);(exact inferInstance);(first|exact cv1|exact cv2)))))|fail);(try(clear F a;intro a F)))|(first|refine sx_nil ?_|fail);try replace F:=F.filt zk154 rfl|refine zn1 F M ?_;clear F M a;(try clear w);intro a w F M|refine sv2 F M ?_;clear F M a;intro nb a w F M|((first|refine svC F M ?_|fail);(((refine acW (k:=25) (hcl _ ?_) ?_);(exact gsA);rintro u L' ⟨hv,rfl,rfl⟩));(first|clear F M a;intro a w F M|fail))|refine zT F ?_|refine zY ?_;go_step|fail))
 all_goals refine zE F M ?_
 all_goals exact⟨_,_,rfl,⟨{x with ac:=IntKind.u64.wrap (x.ac+(1+y)),hV:=hv},d,nilH,[],hv,d.V,⟨rfl,(by constructor<;>first|rfl|(intro hz;first|rfl|(exfalso;omega))),⟨hr.bal,hr.iP,hr.iF,hr.iO,hr.pd,hr.bu,hr.bk⟩,⟨gs_own (.there .here),((h.tail _).tail _).gP,((h.tail _).tail _).gF,((h.tail _).tail _).gO,((h.tail _).tail _).gM,((h.tail _).tail _).gQ⟩⟩,rfl⟩,(M.own_nil 3 1).perms permsA⟩
theorem change4_spec (hun:0≤x.un∧x.un≤1000000):Spec 47 [snV x,.int .i64 4,.int .u8 y] R (chQ x d R 4 y):=by
 have hcl:=fun R hg=>clone_val x.hV d.V (L:=R) hg (by omega)
 obtain ⟨mx,hmx,hmx0⟩:∃ mx:Int,(if (1:Int)>(d.V.length:Int) then 1 else (d.V.length:Int))=mx∧0<mx:=⟨_,rfl,by split<;>omega⟩
 have cv1:IntKind.i64.wrap y=y:=IntWalk.i64_in _ ⟨by omega,by omega⟩
 have cv2:IntKind.u64.wrap y=y:=by rw[IntKind.wrap_u64];omega
 (intro G w M;refine sx_enter (vs:=([snV x,.int .i64 4,.int .u8 y]:List Value)) Tryz.func47 (n:=103) rfl rfl rfl rfl ?_;intro a F;(try simp only[zc,zn] at M))
 have hh:=h.app G
 have gg:=hh.gV
 have gp:=hh.gP
 have gf:=hh.gF
 (repeat'(first|((first|refine sv1 F M (h:=?_) (hr:=by((first|(refine rt_max2 rfl rfl hmx)|(apply rt_conv;(exact rfl);(exact rfl);(exact inferInstance);(exact inferInstance);(first|exact cv1|fail)))))|fail);(try(clear F a;intro a F)))|(first|refine sx_nil ?_|fail);try replace F:=F.filt zk154 rfl|refine zn1 F M ?_;clear F M a;(try clear w);intro a w F M|refine sv2 F M ?_;clear F M a;intro nb a w F M|((first|refine svC F M ?_|fail);(((refine acW (k:=25) (hcl _ ?_) ?_);(exact gsA);rintro u L' ⟨hv,rfl,rfl⟩));(first|clear F M a;intro a w F M|fail))|refine zT F ?_|refine zY ?_;go_step|fail))
 all_goals refine zE F M ?_
 all_goals exact⟨_,_,rfl,⟨{x with un:=x.un+1,hV:=hv},d,nilH,[],hv,d.V,⟨rfl,(by constructor<;>first|rfl|(intro hz;first|rfl|(exfalso;omega))),⟨hr.bal,hr.iP,hr.iF,hr.iO,hr.pd,hr.bu,hr.bk⟩,⟨gs_own (.there .here),((h.tail _).tail _).gP,((h.tail _).tail _).gF,((h.tail _).tail _).gO,((h.tail _).tail _).gM,((h.tail _).tail _).gQ⟩⟩,rfl⟩,(M.own_nil 3 1).perms permsA⟩
theorem change5_spec (hep:0≤x.ep∧x.ep≤1000000000000000):Spec 47 [snV x,.int .i64 5,.int .u8 y] R (chQ x d R 5 y):=by
 have hcl:=fun R hg=>clone_val x.hV d.V (L:=R) hg (by omega)
 obtain ⟨mx,hmx,hmx0⟩:∃ mx:Int,(if (1:Int)>(d.V.length:Int) then 1 else (d.V.length:Int))=mx∧0<mx:=⟨_,rfl,by split<;>omega⟩
 have cv1:IntKind.i64.wrap y=y:=IntWalk.i64_in _ ⟨by omega,by omega⟩
 have cv2:IntKind.u64.wrap y=y:=by rw[IntKind.wrap_u64];omega
 (intro G w M;refine sx_enter (vs:=([snV x,.int .i64 5,.int .u8 y]:List Value)) Tryz.func47 (n:=103) rfl rfl rfl rfl ?_;intro a F;(try simp only[zc,zn] at M))
 have hh:=h.app G
 have gg:=hh.gV
 have gp:=hh.gP
 have gf:=hh.gF
 (repeat'(first|((first|refine sv1 F M (h:=?_) (hr:=by((first|(refine rt_max2 rfl rfl hmx)|(apply rt_conv;(exact rfl);(exact rfl);(exact inferInstance);(exact inferInstance);(first|exact cv1|fail)))))|fail);(try(clear F a;intro a F)))|(first|refine sx_nil ?_|fail);try replace F:=F.filt zk154 rfl|refine zn1 F M ?_;clear F M a;(try clear w);intro a w F M|refine sv2 F M ?_;clear F M a;intro nb a w F M|((first|refine svC F M ?_|fail);(((refine acW (k:=25) (hcl _ ?_) ?_);(exact gsA);rintro u L' ⟨hv,rfl,rfl⟩));(first|clear F M a;intro a w F M|fail))|refine zT F ?_|refine zY ?_;go_step|fail))
 all_goals refine zE F M ?_
 all_goals exact⟨_,_,rfl,⟨{x with ep:=x.ep+1,hV:=hv},d,nilH,[],hv,d.V,⟨rfl,(by constructor<;>first|rfl|(intro hz;first|rfl|(exfalso;omega))),⟨hr.bal,hr.iP,hr.iF,hr.iO,hr.pd,hr.bu,hr.bk⟩,⟨gs_own (.there .here),((h.tail _).tail _).gP,((h.tail _).tail _).gF,((h.tail _).tail _).gO,((h.tail _).tail _).gM,((h.tail _).tail _).gQ⟩⟩,rfl⟩,(M.own_nil 3 1).perms permsA⟩
theorem change2_spec:Spec 47 [snV x,.int .i64 2,.int .u8 y] R (chQ x d R 2 y):=by
 have hcl:=fun R hg=>clone_val x.hV d.V (L:=R) hg (by omega)
 obtain ⟨mx,hmx,hmx0⟩:∃ mx:Int,(if (1:Int)>(d.V.length:Int) then 1 else (d.V.length:Int))=mx∧0<mx:=⟨_,rfl,by split<;>omega⟩
 have cv1:IntKind.i64.wrap y=y:=IntWalk.i64_in _ ⟨by omega,by omega⟩
 have cv2:IntKind.u64.wrap y=y:=by rw[IntKind.wrap_u64];omega
 have hcq:=fun R hg=>clone_int x.hP d.pe (L:=R) hg (by omega)
 have hi:∀ z∈d.pe++[y],I64 z:=by
  intro z hz
  rcases List.mem_append.1 hz with hz|hz
  ·exact hr.iP z hz
  ·simp only[List.mem_cons,List.not_mem_nil,or_false] at hz
   subst hz;exact⟨by omega,by omega⟩
 (intro G w M;refine sx_enter (vs:=([snV x,.int .i64 2,.int .u8 y]:List Value)) Tryz.func47 (n:=103) rfl rfl rfl rfl ?_;intro a F;(try simp only[zc,zn] at M))
 have hh:=h.app G
 have gg:=hh.gV
 have gp:=hh.gP
 have gf:=hh.gF
 (repeat'(first|((first|refine sv1 F M (h:=?_) (hr:=by((first|(refine rt_max2 rfl rfl hmx)|(apply rt_conv;(exact rfl);(exact rfl);(exact inferInstance);(exact inferInstance);(first|exact cv1|fail)))))|fail);(try(clear F a;intro a F)))|(first|refine sx_nil ?_|fail);try replace F:=F.filt zk154 rfl|refine zn1 F M ?_;clear F M a;(try clear w);intro a w F M|refine sv2 F M ?_;clear F M a;intro nb a w F M|((first|refine svC F M ?_|fail);((first|((refine acW (k:=25) (hcl _ ?_) ?_);(exact gsA);rintro u L' ⟨hv,rfl,rfl⟩)|((refine acW (k:=26) (hcq _ ?_) ?_);(exact gsA);rintro u L' ⟨hq,rfl,rfl⟩)|(refine ac_appendH (f:=intL) (xs:=d.pe) (ys:=[y]) rfl rfl inferInstance rfl rfl pullA inferInstance gsA rfl rfl (by simp;omega) ?_;intro nv)));(first|clear F M a;intro a w F M|fail))|refine zT F ?_|refine zY ?_;go_step|fail))
 all_goals refine zE F M ?_
 all_goals exact⟨_,_,rfl,⟨{x with hP:=nv,hV:=hv},{d with pe:=d.pe++[y]},nv,d.pe++[y],hv,d.V,⟨rfl,(by constructor<;>first|rfl|(intro hz;first|rfl|(exfalso;omega))),⟨hr.bal,hi,hr.iF,hr.iO,hr.pd,hr.bu,hr.bk⟩,⟨gs_own (.there .here),gs_own .here,((h.tail _).tail _).gF,((h.tail _).tail _).gO,((h.tail _).tail _).gM,((h.tail _).tail _).gQ⟩⟩,rfl⟩,M.perms permsA⟩
theorem change3_spec:Spec 47 [snV x,.int .i64 3,.int .u8 y] R (chQ x d R 3 y):=by
 have hcl:=fun R hg=>clone_val x.hV d.V (L:=R) hg (by omega)
 obtain ⟨mx,hmx,hmx0⟩:∃ mx:Int,(if (1:Int)>(d.V.length:Int) then 1 else (d.V.length:Int))=mx∧0<mx:=⟨_,rfl,by split<;>omega⟩
 have cv1:IntKind.i64.wrap y=y:=IntWalk.i64_in _ ⟨by omega,by omega⟩
 have cv2:IntKind.u64.wrap y=y:=by rw[IntKind.wrap_u64];omega
 have hcq:=fun R hg=>clone_int x.hF d.fo (L:=R) hg (by omega)
 have hi:∀ z∈d.fo++[y],I64 z:=by
  intro z hz
  rcases List.mem_append.1 hz with hz|hz
  ·exact hr.iF z hz
  ·simp only[List.mem_cons,List.not_mem_nil,or_false] at hz
   subst hz;exact⟨by omega,by omega⟩
 (intro G w M;refine sx_enter (vs:=([snV x,.int .i64 3,.int .u8 y]:List Value)) Tryz.func47 (n:=103) rfl rfl rfl rfl ?_;intro a F;(try simp only[zc,zn] at M))
 have hh:=h.app G
 have gg:=hh.gV
 have gp:=hh.gP
 have gf:=hh.gF
 (repeat'(first|((first|refine sv1 F M (h:=?_) (hr:=by((first|(refine rt_max2 rfl rfl hmx)|(apply rt_conv;(exact rfl);(exact rfl);(exact inferInstance);(exact inferInstance);(first|exact cv1|fail)))))|fail);(try(clear F a;intro a F)))|(first|refine sx_nil ?_|fail);try replace F:=F.filt zk154 rfl|refine zn1 F M ?_;clear F M a;(try clear w);intro a w F M|refine sv2 F M ?_;clear F M a;intro nb a w F M|((first|refine svC F M ?_|fail);((first|((refine acW (k:=25) (hcl _ ?_) ?_);(exact gsA);rintro u L' ⟨hv,rfl,rfl⟩)|((refine acW (k:=26) (hcq _ ?_) ?_);(exact gsA);rintro u L' ⟨hq,rfl,rfl⟩)|(refine ac_appendH (f:=intL) (xs:=d.fo) (ys:=[y]) rfl rfl inferInstance rfl rfl pullA inferInstance gsA rfl rfl (by simp;omega) ?_;intro nv)));(first|clear F M a;intro a w F M|fail))|refine zT F ?_|refine zY ?_;go_step|fail))
 all_goals refine zE F M ?_
 all_goals exact⟨_,_,rfl,⟨{x with hF:=nv,hV:=hv},{d with fo:=d.fo++[y]},nv,d.fo++[y],hv,d.V,⟨rfl,(by constructor<;>first|rfl|(intro hz;first|rfl|(exfalso;omega))),⟨hr.bal,hr.iP,hi,hr.iO,hr.pd,hr.bu,hr.bk⟩,⟨gs_own (.there .here),((h.tail _).tail _).gP,gs_own .here,((h.tail _).tail _).gO,((h.tail _).tail _).gM,((h.tail _).tail _).gQ⟩⟩,rfl⟩,M.perms permsA⟩
theorem change6_spec:Spec 47 [snV x,.int .i64 6,.int .u8 y] R (chQ x d R 6 y):=by
 have hcl:=fun R hg=>clone_val x.hV d.V (L:=R) hg (by omega)
 obtain ⟨mx,hmx,hmx0⟩:∃ mx:Int,(if (1:Int)>(d.V.length:Int) then 1 else (d.V.length:Int))=mx∧0<mx:=⟨_,rfl,by split<;>omega⟩
 have cv1:IntKind.i64.wrap y=y:=IntWalk.i64_in _ ⟨by omega,by omega⟩
 have cv2:IntKind.u64.wrap y=y:=by rw[IntKind.wrap_u64];omega
 have cv3:IntKind.i64.wrap (y / 8)=y / 8:=IntWalk.i64_in _ ⟨by omega,by omega⟩
 by_cases hl0:d.V.length=0
 ·have hlt:¬(0:Int)<(d.V.length:Int):=by omega
  (intro G w M;refine sx_enter (vs:=([snV x,.int .i64 6,.int .u8 y]:List Value)) Tryz.func47 (n:=103) rfl rfl rfl rfl ?_;intro a F;(try simp only[zc,zn] at M))
  have hh:=h.app G
  have gg:=hh.gV
  have gp:=hh.gP
  have gf:=hh.gF
  (repeat'(first|((first|refine sv1 F M (h:=?_) (hr:=by((first|(refine rt_max2 rfl rfl hmx)|(apply rt_conv;(exact rfl);(exact rfl);(exact inferInstance);(exact inferInstance);(first|exact cv1|fail)))))|fail);(try(clear F a;intro a F)))|(first|refine sx_nil ?_|fail);try replace F:=F.filt zk154 rfl|refine zn1 F M ?_;clear F M a;(try clear w);intro a w F M|refine sv2 F M ?_;clear F M a;intro nb a w F M|((first|refine svC F M ?_|fail);(((refine acW (k:=25) (hcl _ ?_) ?_);(exact gsA);rintro u L' ⟨hv,rfl,rfl⟩));(first|clear F M a;intro a w F M|fail))|refine zT F ?_|((with_reducible refine isK ?_);refine svB F ?_ ?_<;>intro hc<;>try exact no hc)|refine zY ?_;go_step|fail))
  all_goals refine zE F M ?_
  all_goals exact⟨_,_,rfl,⟨{x with hV:=hv},d,nilH,[],hv,d.V,⟨rfl,(by constructor<;>first|rfl|(intro hz;first|rfl|(exfalso;omega))),⟨hr.bal,hr.iP,hr.iF,hr.iO,hr.pd,hr.bu,hr.bk⟩,⟨gs_own (.there .here),((h.tail _).tail _).gP,((h.tail _).tail _).gF,((h.tail _).tail _).gO,((h.tail _).tail _).gM,((h.tail _).tail _).gQ⟩⟩,rfl⟩,(M.own_nil 3 1).perms permsA⟩
 ·have hlt:(0:Int)<(d.V.length:Int):=by omega
  have hmx2:mx=(d.V.length:Int):=by rw[← hmx,if_neg (by omega)]
  have hi0:=Int.emod_nonneg y (show mx≠0 by omega)
  have hi1:=Int.emod_lt_of_pos y hmx0
  obtain ⟨v,hv1⟩:∃ v,d.V[(y % mx).toNat]? = some v:=⟨d.V[(y % mx).toNat]'(by omega),by rw[List.getElem?_eq_getElem]⟩
  have hVb:∀ z∈d.V.set (y % mx).toNat {v with bal:=IntKind.u64.wrap (v.bal+(1+y))},U64 z.bal:=by
   intro z hz
   rcases List.mem_or_eq_of_mem_set hz with hz|rfl
   ·exact hr.bal z hz
   ·show U64 (IntKind.u64.wrap (v.bal+(1+y)));rw[IntKind.wrap_u64];exact⟨by omega,by omega⟩
  (intro G w M;refine sx_enter (vs:=([snV x,.int .i64 6,.int .u8 y]:List Value)) Tryz.func47 (n:=103) rfl rfl rfl rfl ?_;intro a F;(try simp only[zc,zn] at M))
  have hh:=h.app G
  have gg:=hh.gV
  have gp:=hh.gP
  have gf:=hh.gF
  (repeat'(first|((first|refine sv1 F M (h:=?_) (hr:=by((first|(first|(refine rt_max2 rfl rfl hmx)|(apply rt_conv;(exact rfl);(exact rfl);(exact inferInstance);(exact inferInstance);(first|exact cv1|exact cv2)))|fail)))|fail);(try(clear F a;intro a F)))|(first|refine sx_nil ?_|fail);try replace F:=F.filt zk154 rfl|refine zn1 F M ?_;clear F M a;(try clear w);intro a w F M|refine sv2 F M ?_;clear F M a;intro nb a w F M|((first|refine svC F M ?_|refine svC0 F M ?_|fail);((first|((refine acW (k:=25) (hcl _ ?_) ?_);(exact gsA);rintro u L' ⟨hv,rfl,rfl⟩)|(refine ac_storeE (f:=valL) (v:=sl hv) (j:=(y % mx).toNat) (k:=7) (i:=0) (xs:=d.V) rfl rfl inferInstance rfl rfl hv1 inferInstance rfl {v with bal:=IntKind.u64.wrap (v.bal+(1+y))} rfl (by(focus ((repeat (first|exact Rep.here|fail));done))) ?_)));(first|clear F M a;intro a w F M|clear M;intro w M))|refine zT F ?_|((with_reducible refine isK ?_);refine svB F ?_ ?_<;>intro hc<;>try exact no hc)|refine zY ?_;go_step|fail))
  all_goals refine zE F M ?_
  all_goals exact⟨_,_,rfl,⟨{x with hV:=hv},{d with V:=d.V.set (y % mx).toNat {v with bal:=IntKind.u64.wrap (v.bal+(1+y))}},nilH,[],hv,d.V.set (y % mx).toNat {v with bal:=IntKind.u64.wrap (v.bal+(1+y))},⟨rfl,(by constructor<;>first|rfl|(intro hz;first|rfl|(exfalso;omega))),⟨hVb,hr.iP,hr.iF,hr.iO,hr.pd,hr.bu,hr.bk⟩,⟨gs_own (.there .here),((h.tail _).tail _).gP,((h.tail _).tail _).gF,((h.tail _).tail _).gO,((h.tail _).tail _).gM,((h.tail _).tail _).gQ⟩⟩,rfl⟩,(M.own_nil 3 1).perms permsA⟩
theorem change7_spec:Spec 47 [snV x,.int .i64 7,.int .u8 y] R (chQ x d R 7 y):=by
 have hcl:=fun R hg=>clone_val x.hV d.V (L:=R) hg (by omega)
 obtain ⟨mx,hmx,hmx0⟩:∃ mx:Int,(if (1:Int)>(d.V.length:Int) then 1 else (d.V.length:Int))=mx∧0<mx:=⟨_,rfl,by split<;>omega⟩
 have cv1:IntKind.i64.wrap y=y:=IntWalk.i64_in _ ⟨by omega,by omega⟩
 have cv2:IntKind.u64.wrap y=y:=by rw[IntKind.wrap_u64];omega
 have cv3:IntKind.i64.wrap (y / 8)=y / 8:=IntWalk.i64_in _ ⟨by omega,by omega⟩
 by_cases hl0:d.V.length=0
 ·have hlt:¬(0:Int)<(d.V.length:Int):=by omega
  (intro G w M;refine sx_enter (vs:=([snV x,.int .i64 7,.int .u8 y]:List Value)) Tryz.func47 (n:=103) rfl rfl rfl rfl ?_;intro a F;(try simp only[zc,zn] at M))
  have hh:=h.app G
  have gg:=hh.gV
  have gp:=hh.gP
  have gf:=hh.gF
  (repeat'(first|((first|refine sv1 F M (h:=?_) (hr:=by((first|(refine rt_max2 rfl rfl hmx)|(apply rt_conv;(exact rfl);(exact rfl);(exact inferInstance);(exact inferInstance);(first|exact cv1|fail)))))|fail);(try(clear F a;intro a F)))|(first|refine sx_nil ?_|fail);try replace F:=F.filt zk154 rfl|refine zn1 F M ?_;clear F M a;(try clear w);intro a w F M|refine sv2 F M ?_;clear F M a;intro nb a w F M|((first|refine svC F M ?_|fail);(((refine acW (k:=25) (hcl _ ?_) ?_);(exact gsA);rintro u L' ⟨hv,rfl,rfl⟩));(first|clear F M a;intro a w F M|fail))|refine zT F ?_|((with_reducible refine isK ?_);refine svB F ?_ ?_<;>intro hc<;>try exact no hc)|refine zY ?_;go_step|fail))
  all_goals refine zE F M ?_
  all_goals exact⟨_,_,rfl,⟨{x with hV:=hv},d,nilH,[],hv,d.V,⟨rfl,(by constructor<;>first|rfl|(intro hz;first|rfl|(exfalso;omega))),⟨hr.bal,hr.iP,hr.iF,hr.iO,hr.pd,hr.bu,hr.bk⟩,⟨gs_own (.there .here),((h.tail _).tail _).gP,((h.tail _).tail _).gF,((h.tail _).tail _).gO,((h.tail _).tail _).gM,((h.tail _).tail _).gQ⟩⟩,rfl⟩,(M.own_nil 3 1).perms permsA⟩
 ·have hlt:(0:Int)<(d.V.length:Int):=by omega
  have hmx2:mx=(d.V.length:Int):=by rw[← hmx,if_neg (by omega)]
  have hi0:=Int.emod_nonneg y (show mx≠0 by omega)
  have hi1:=Int.emod_lt_of_pos y hmx0
  obtain ⟨v,hv1⟩:∃ v,d.V[(y % mx).toNat]? = some v:=⟨d.V[(y % mx).toNat]'(by omega),by rw[List.getElem?_eq_getElem]⟩
  have hVb:∀ z∈d.V.set (y % mx).toNat {v with st:=1+y / 8 % 7},U64 z.bal:=by
   intro z hz
   rcases List.mem_or_eq_of_mem_set hz with hz|rfl
   ·exact hr.bal z hz
   ·exact hr.bal v (List.mem_of_getElem? hv1)
  (intro G w M;refine sx_enter (vs:=([snV x,.int .i64 7,.int .u8 y]:List Value)) Tryz.func47 (n:=103) rfl rfl rfl rfl ?_;intro a F;(try simp only[zc,zn] at M))
  have hh:=h.app G
  have gg:=hh.gV
  have gp:=hh.gP
  have gf:=hh.gF
  (repeat'(first|((first|refine sv1 F M (h:=?_) (hr:=by((first|(first|(refine rt_max2 rfl rfl hmx)|(apply rt_conv;(exact rfl);(exact rfl);(exact inferInstance);(exact inferInstance);(first|exact cv1|fail)))|(apply rt_conv;(exact rfl);(exact rfl);(exact inferInstance);(exact inferInstance);(exact cv3)))))|fail);(try(clear F a;intro a F)))|(first|refine sx_nil ?_|fail);try replace F:=F.filt zk154 rfl|refine zn1 F M ?_;clear F M a;(try clear w);intro a w F M|refine sv2 F M ?_;clear F M a;intro nb a w F M|((first|refine svC F M ?_|refine svC0 F M ?_|fail);((first|((refine acW (k:=25) (hcl _ ?_) ?_);(exact gsA);rintro u L' ⟨hv,rfl,rfl⟩)|(refine ac_storeE (f:=valL) (v:=sl hv) (j:=(y % mx).toNat) (k:=7) (i:=1) (xs:=d.V) rfl rfl inferInstance rfl rfl hv1 inferInstance rfl {v with st:=1+y / 8 % 7} rfl (by(focus ((repeat (first|exact Rep.here|fail));done))) ?_)));(first|clear F M a;intro a w F M|clear M;intro w M))|refine zT F ?_|((with_reducible refine isK ?_);refine svB F ?_ ?_<;>intro hc<;>try exact no hc)|refine zY ?_;go_step|fail))
  all_goals refine zE F M ?_
  all_goals exact⟨_,_,rfl,⟨{x with hV:=hv},{d with V:=d.V.set (y % mx).toNat {v with st:=1+y / 8 % 7}},nilH,[],hv,d.V.set (y % mx).toNat {v with st:=1+y / 8 % 7},⟨rfl,(by constructor<;>first|rfl|(intro hz;first|rfl|(exfalso;omega))),⟨hVb,hr.iP,hr.iF,hr.iO,hr.pd,hr.bu,hr.bk⟩,⟨gs_own (.there .here),((h.tail _).tail _).gP,((h.tail _).tail _).gF,((h.tail _).tail _).gO,((h.tail _).tail _).gM,((h.tail _).tail _).gQ⟩⟩,rfl⟩,(M.own_nil 3 1).perms permsA⟩
theorem change_spec (p:Int) (hp:0≤p∧p≤7) (hun:0≤x.un∧x.un≤1000000) (hep:0≤x.ep∧x.ep≤1000000000000000):Spec 47 [snV x,.int .i64 p,.int .u8 y] R (chQ x d R p y):=by
 rcases (by omega:p=0∨p=1∨p=2∨p=3∨p=4∨p=5∨p=6∨p=7) with rfl|rfl|rfl|rfl|rfl|rfl|rfl|rfl
 ·exact change0_spec x d R h hr hl y hy
 ·exact change1_spec x d R h hr hl y hy
 ·exact change2_spec x d R h hr hl y hy
 ·exact change3_spec x d R h hr hl y hy
 ·exact change4_spec x d R h hr hl y hy hun
 ·exact change5_spec x d R h hr hl y hy hep
 ·exact change6_spec x d R h hr hl y hy
 ·exact change7_spec x d R h hr hl y hy
end
end
section
open Go.RowKit
def engB (b:Nat) (c:Cfg) (s:St):Asn:=exA fun H:EH=>engL b H c s []
theorem Spec.conv {α:Type} {k:FuncId} {us:List Value} {L:List Asn} {C:Value→List Asn→Prop} {L1:α→List Asn} {D:α→Value→List Asn→Prop} (hs:∀ x,Spec k us (L1 x) (D x)) (hp:∀ G w,Mem w (L++G)→∃ x,Mem w (L1 x++G)) (hc:∀ x v L',D x v L'→∃ L2,C v L2∧∀ G w,Mem w (L'++G)→Mem w (L2++G)):Spec k us L C:=fun G w M=>by
 obtain ⟨x,M1⟩:=hp G w M
 exact(hs x G w M1).mono fun e w' ⟨v,L',he,hd,hm⟩=>by
  obtain ⟨L2,h1,h2⟩:=hc x v L' hd
  exact⟨v,L2,he,h1,h2 G w' hm⟩
section
variable (b:Nat) (c:Cfg) (s:St) (R:List Asn)
theorem newB (hc:CfOk c) (hk:checkF c=0):Spec 28 [cfgV c] R fun u L'=>∃ b,u=.tuple [ptr b,.int .i64 0].toArray∧L'=engB b c St.ini::R :=
 Spec.conv (α:=Unit) (fun _=>eng_new c hc hk R) (fun G w M=>⟨(),M⟩) fun _ v L' ⟨b,H,e,e2⟩=>⟨_,⟨b,e,rfl⟩,fun G w M=>by subst e2;exact Mem.exc (f:=fun H:EH=>engL b H c St.ini []) H M⟩
theorem runB (hc:CfOk c) (h:Inv c s) (v:Value) (l:List Opn) (hg:GS R 4 v l.length (l.flatMap opL)) (hl:l.length≤100000) (hb:s.bk+l.length<1000000000) (hwf:∀ o∈l,I64 o.k∧U64 o.am) :
  Spec 35 [ptr b,v] (engB b c s::R) fun u L'=>∃ hr xs,(u=sl hr∧xs.map (·.r)=(runM c s l).1)∧L'=ownT 62 rsL 9 (sl hr) xs::rsA xs::engB b c (runM c s l).2::R :=
 Spec.conv (fun H=>run_spec b H c s R hc h v l hg hl hb hwf) (fun G w M=>Mem.exo (f:=fun H:EH=>engL b H c s []) M) fun _ v L' ⟨hr,H',xs,e,e2⟩=>⟨_,⟨hr,xs,e,rfl⟩,fun G w M=>by
  subst e2
  have M2:Mem w (engL b H' c (runM c s l).2 []++(ownT 62 rsL 9 (sl hr) xs::rsA xs::(R++G))):=M.perms permsA
  exact(Mem.exc (f:=fun H:EH=>engL b H c (runM c s l).2 []) H' M2).perms permsA⟩
end
end
def zk155:List Nat:=[0,1,2,3,5,6,7,9,10,11,12,26,34,52]
def zd156:List ZR:=[⟨8,[1,5,7],[6],[(1,[2,3,4])],[0,2,3,4,1,5,6,7]⟩]
section
open Go.RowKit
theorem snapU (b:Nat) (c:Cfg) (s:St) (R:List Asn) (hc:CfOk c) (hi:Inv c s):Spec 33 [ptr b] (engB b c s::R) fun u L'=>∃ hV hP hF hO hM hQ,u=snV (snOf c s hV hP hF hO hM hQ)∧L'=ownT 48 valL 7 (sl hV) s.V::ownT 3 natL 1 (sl hP) s.pe::ownT 3 natL 1 (sl hF) s.fo::ownT 3 natL 1 (sl hO) s.vo::ownT 89 prL 2 (sl hM) s.me::ownT 91 rqL 2 (sl hQ) s.pa::R :=
 Spec.conv (fun H=>snap_spec b H c s hc hi R) (fun G w M=>Mem.exo (f:=fun H:EH=>engL b H c s []) M) fun H v L' ⟨h1,h2,h3,h4,h5,h6,e,e2⟩=>⟨_,⟨h1,h2,h3,h4,h5,h6,e,rfl⟩,fun G w M=>by
  subst e2
  exact M.perms permsA⟩
theorem detects_walk (c:Cfg) (hck:checkF c=0) (hcf:CfOk c) (hcap:c.capacity≤60) (hqs:c.queueSize≤50) (v:Value) (l:List Opn) (R:List Asn) (hg:GS R 4 v l.length (l.flatMap opL)) (hnl:l.length≤400) (s:St) (hI:Inv c s) (hbk:s.bk≤1000) (a y:Int) (ha:0≤a∧a≤255) (hy:0≤y∧y≤255)
  (hnw:∀ R,Spec 28 [cfgV c] R fun u L'=>∃ b,u=.tuple [ptr b,.int .i64 0].toArray∧L'=engB b c St.ini::R)
  (hft:∀ R:List Asn,GS R 4 v l.length (l.flatMap opL)→Spec 29 [cfgV c,v] R fun u L'=>u=.int .i64 1∧L'=R)
  (hrn:∀ (b:Nat) (R:List Asn),GS R 4 v l.length (l.flatMap opL)→Spec 35 [ptr b,v] (engB b c St.ini::R) fun u L'=>∃ hr xs,u=sl hr∧L'=ownT 62 rsL 9 (sl hr) xs::rsA xs::engB b c s::R) :
  Spec 14 [cfgV c,v,.agg #[.int .u8 a,.int .u8 y]] R fun u L'=>u=.bool true∧L'=R:=by
 have hal:=fun R=>alive24_spec R
 obtain ⟨p,hp⟩:∃ p,a % 8=p:=⟨_,rfl⟩
 have hp1:0≤p∧p≤7:=by omega
 have hsn:=fun (b:Nat) R=>snapU b c s R hcf hI
 have hql:=hI.ql
 have hcv:IntKind.i64.wrap a=a:=IntWalk.i64_in _ ⟨by omega,by omega⟩
 have hrg:=hI.cap
 have hep:0≤epo c s∧epo c s≤1000000000000000:=by
  have:=epo_range hcf (s:=s) (by omega)
  exact⟨this.1,by omega⟩
 have hca:=hcf.ca
 have hqs2:=hcf.qs
 have hbo:s.bo.length≤s.V.length:=by
  have e:=ix_count hI.bo pBond_iff
  rw[List.length_map] at e
  have:=List.length_filter_le pBond s.V
  omega
 have hchg:=fun (h1 h2 h3 h4 h5 h6:SlH) (R:List Asn) (hsg:SnG R (snOf c s h1 h2 h3 h4 h5 h6) (dOf s))=>change_spec (snOf c s h1 h2 h3 h4 h5 h6) (dOf s) R hsg (snR_of hcf hI h1 h2 h3 h4 h5 h6) ⟨by simp only[dOf];omega,by simp only[dOf,List.length_map];omega,by simp only[dOf,List.length_map];omega⟩ y hy p hp1 ⟨by simp only[snOf];omega,by simp only[snOf];omega⟩ ⟨by simp only[snOf];omega,by simp only[snOf];omega⟩
 have hdet:=fun (h1 h2 h3 h4 h5 h6:SlH) (x':Sn) (d':SnD) (hC:SnC (snOf c s h1 h2 h3 h4 h5 h6) x' (dOf s) d' p y) (h:0≤p∧p≤5)=>det_ne hcf hI h1 h2 h3 h4 h5 h6 hC hy h
 (intro G w M;refine sx_enter (vs:=([cfgV c,v,.agg #[.int .u8 a,.int .u8 y]]:List Value)) Tryz.func14 (n:=74) rfl rfl rfl rfl ?_;intro a F;(try simp only[zc,zn] at M))
 have gA:GS (R++G) 4 v l.length (l.flatMap opL):=Gives.app hg
 (repeat'(first|((first|refine sv1 F M (h:=?_) (hr:=by((first|(refine rt_rem' rfl rfl rfl ha.1 (by decide) hp)|(apply rt_conv;(exact rfl);(exact rfl);(exact inferInstance);(exact inferInstance);(exact hcv)))))|fail);(try(clear F a;intro a F)))|(first|refine sx_nil ?_|refine pv_nil ?_;intro a w F M);try replace F:=F.filt zk155 rfl|refine zn1 F M ?_;clear F M a;(try clear w);intro a w F M|refine sv2 F M ?_;clear F M a;intro nb a w F M|refine zp1 ?_|refine zp2 ?_;intro nb|((first|refine svC F M ?_|refine pvC ?_|fail);((first|((refine acW (k:=29) (hft _ ?_) ?_);(exact gsA);rintro u L' ⟨rfl,rfl⟩)|((refine acW (k:=28) (hnw _) ?_);rintro u L' ⟨eb,rfl,rfl⟩)|(refine acK (L1:=engB eb c St.ini::_) (k:=35) (hrn eb _ ?_) ?_;(exact gsA);rintro u L' ⟨p1,xs,rfl,rfl⟩)|(refine acK (L1:=engB eb c s::_) (k:=33) (hsn eb _) ?_;rintro u L' ⟨a1,a2,a3,a4,a5,a6,rfl,rfl⟩)|((refine acW (k:=47) (hchg a1 a2 a3 a4 a5 a6 _ ?_) ?_);(exact snG_of gsA gsA gsA gsA gsA gsA);rintro u L' ⟨x',d',hq,q,hv,V',⟨rfl,hC,hR',hG'⟩,rfl⟩)|((refine acW (k:=15) (state24_spec x' d' _ ?_) ?_);(focus ((repeat (first|exact hG'|apply SnG.tail));done));rintro u L' ⟨rfl,rfl⟩)));(first|refine⟨rvsA,?_⟩|clear F M a;intro a w F M|fail))|refine zh F ?_ ?_<;>(intro hg;rw[hg] at F;try exact no hg)|refine zT F ?_|((with_reducible refine isK ?_);refine svB F ?_ ?_<;>intro hc<;>try exact no hc)|((with_reducible refine isD ?_);((refine zD zd156 F M ?_;clear F M a w)))|refine zY ?_;go_step|fail))
 have hfw:=fun R h=>few24_spec x' d' R h
 have hne:p≤5→allR x' d' c≠[]:=fun h=>hdet _ _ _ _ _ _ x' d' hC ⟨hp1.1,h⟩
 cases hf:fewB d'
 ·rw[hf] at hfw
  (repeat'(first|(first|refine sx_nil ?_|fail);try replace F:=F.filt zk155 rfl|refine zn1 F M ?_;clear F M a;(try clear w);intro a w F M|((first|refine svC F M ?_|fail);((first|((refine acW (k:=18) (hal _) ?_);rintro u L' ⟨rfl,rfl⟩)|((refine acW (k:=17) (hfw _ ?_) ?_);(focus ((repeat (first|exact hG'|apply SnG.tail));done));rintro u L' ⟨rfl,rfl⟩)));(first|clear F M a;intro a w F M|fail))|refine zT F ?_|refine zY ?_;go_step|fail))
  all_goals refine zE F M ?_
  all_goals exact⟨_,_,rfl,⟨rfl,rfl⟩,M.perms permsA⟩
 ·rw[hf] at hfw
  have hok:∀ {L:List Asn},SnG L x' d'→AuOK L x' d' c:=fun h=>auOK_of h hR' hf hck
  have haa:=fun L h=>aall_spec x' d' c L h
  have hra:=fun L h=>rall_spec x' d' c L h hR' hf hck
  generalize allR x' d' c=X at haa hra hne
  have hei:∀ {L:List Asn} {u v:SlH},GS L 1 (sl u) X.length (X.flatMap intL)→GS L 1 (sl v) X.length (X.flatMap intL)→Reads 20 [sl u,sl v] (.bool true) L:=fun {L u v} g1 g2=>by simpa using eqs_int (sl u) (sl v) X X g1 g2
  by_cases hp5:p≤5
  ·have hX:=hne hp5
   have hXl:0<X.length:=List.length_pos_iff.2 hX
   have d1:decide (5<p)=false:=by simp;omega
   have d2:decide ((0:Int)<(X.length:Int))=true:=by simp;omega
   (repeat'(first|(first|refine sx_nil ?_|fail);try replace F:=F.filt zk155 rfl|refine zn1 F M ?_;clear F M a;(try clear w);intro a w F M|((first|refine svC F M ?_|fail);((first|((refine acW (k:=18) (hal _) ?_);rintro u L' ⟨rfl,rfl⟩)|((refine acW (k:=17) (hfw _ ?_) ?_);(focus ((repeat (first|exact hG'|apply SnG.tail));done));rintro u L' ⟨rfl,rfl⟩)|((refine acW (k:=19) (haa _ ?_) ?_);(refine hok ?_);(focus ((repeat (first|exact hG'|apply SnG.tail));done));rintro u L' ⟨v1,rfl,rfl⟩)|((refine acW (k:=21) (hra _ ?_) ?_);(focus ((repeat (first|exact hG'|apply SnG.tail));done));rintro u L' ⟨v2,rfl,rfl⟩)|((refine acCall (k:=20) ?_);(refine Spec.of_reads (hei (u:=v1) (v:=v2) gsA gsA) rfl ?_))));(first|clear F M a;intro a w F M|fail))|refine zh F ?_ ?_<;>(intro hg;rw[hg] at F;try exact no hg)|refine zT F ?_|refine zY ?_;go_step|fail))
   all_goals(try rw[d1])
   all_goals(repeat'(first|(first|refine sx_nil ?_|fail);try replace F:=F.filt zk155 rfl|fail))
   all_goals refine zE F M ?_
   all_goals(refine⟨_,_,rfl,⟨?_,rfl⟩,M.perms permsA⟩;first|rfl|(simp only[tupOf,d2]))
  ·have d1:decide (5<p)=true:=by simp;omega
   (repeat'(first|(first|refine sx_nil ?_|fail);try replace F:=F.filt zk155 rfl|refine zn1 F M ?_;clear F M a;(try clear w);intro a w F M|((first|refine svC F M ?_|fail);((first|((refine acW (k:=18) (hal _) ?_);rintro u L' ⟨rfl,rfl⟩)|((refine acW (k:=17) (hfw _ ?_) ?_);(focus ((repeat (first|exact hG'|apply SnG.tail));done));rintro u L' ⟨rfl,rfl⟩)|((refine acW (k:=19) (haa _ ?_) ?_);(refine hok ?_);(focus ((repeat (first|exact hG'|apply SnG.tail));done));rintro u L' ⟨v1,rfl,rfl⟩)|((refine acW (k:=21) (hra _ ?_) ?_);(focus ((repeat (first|exact hG'|apply SnG.tail));done));rintro u L' ⟨v2,rfl,rfl⟩)|((refine acCall (k:=20) ?_);(refine Spec.of_reads (hei (u:=v1) (v:=v2) gsA gsA) rfl ?_))));(first|clear F M a;intro a w F M|fail))|refine zh F ?_ ?_<;>(intro hg;rw[hg] at F;try exact no hg)|refine zT F ?_|refine zY ?_;go_step|fail))
   all_goals(try rw[d1])
   all_goals(repeat'(first|(first|refine sx_nil ?_|fail);try replace F:=F.filt zk155 rfl|fail))
   all_goals refine zE F M ?_
   all_goals exact⟨_,_,rfl,⟨rfl,rfl⟩,M.perms permsA⟩
end
section
open Go.RowKit
section
variable (c:Cfg) (v:Value) (l:List Opn) (R:List Asn) (hg:GS R 4 v l.length (l.flatMap opL)) (h0:0≤c.forcedCap) (h1:0≤c.penNum) (hwf:∀ o∈l,I64 o.k∧U64 o.am) (a y:Int) (ha:0≤a∧a≤255) (hy:0≤y∧y≤255)
include hg h0 h1 hwf ha hy
theorem detects_law:Spec 14 [cfgV c,v,.agg #[.int .u8 a,.int .u8 y]] R fun u L'=>u=.bool true∧L'=R:=by
 have hal:=fun R=>alive24_spec R
 by_cases hF:Fit c l.length
 ·have hck:=hF.ck
  have hcf:CfOk c:=cfOk_of hck h0 h1
  have hnl:=hF.n
  have hft:=fun (R:List Asn) hg=>fits_yes c v l R hg hF
  by_cases hs1:60<c.capacity
  ·(intro G w M;refine sx_enter (vs:=([cfgV c,v,.agg #[.int .u8 a,.int .u8 y]]:List Value)) Tryz.func14 (n:=74) rfl rfl rfl rfl ?_;intro a F;(try simp only[zc,zn] at M))
   have hG:GS (R++G) 4 v l.length (l.flatMap opL):=Gives.app hg
   (repeat'(first|(first|refine sx_nil ?_|fail);try replace F:=F.filt zk155 rfl|refine zn1 F M ?_;clear F M a;(try clear w);intro a w F M|refine sv2 F M ?_;clear F M a;intro nb a w F M|((first|refine svC F M ?_|fail);((first|((refine acW (k:=29) (hft _ ?_) ?_);(exact gsA);rintro u L' ⟨rfl,rfl⟩)|((refine acW (k:=18) (hal _) ?_);rintro u L' ⟨rfl,rfl⟩)));(first|clear F M a;intro a w F M|fail))|refine zh F ?_ ?_<;>(intro hg;rw[hg] at F;try exact no hg)|refine zT F ?_|refine zY ?_;go_step|fail))
   all_goals refine zE F M ?_
   exact⟨_,_,rfl,⟨rfl,rfl⟩,M.perms permsA⟩
  by_cases hs2:50<c.queueSize
  ·(intro G w M;refine sx_enter (vs:=([cfgV c,v,.agg #[.int .u8 a,.int .u8 y]]:List Value)) Tryz.func14 (n:=74) rfl rfl rfl rfl ?_;intro a F;(try simp only[zc,zn] at M))
   have hG:GS (R++G) 4 v l.length (l.flatMap opL):=Gives.app hg
   (repeat'(first|(first|refine sx_nil ?_|fail);try replace F:=F.filt zk155 rfl|refine zn1 F M ?_;clear F M a;(try clear w);intro a w F M|refine sv2 F M ?_;clear F M a;intro nb a w F M|((first|refine svC F M ?_|fail);((first|((refine acW (k:=29) (hft _ ?_) ?_);(exact gsA);rintro u L' ⟨rfl,rfl⟩)|((refine acW (k:=18) (hal _) ?_);rintro u L' ⟨rfl,rfl⟩)));(first|clear F M a;intro a w F M|fail))|refine zh F ?_ ?_<;>(intro hg;rw[hg] at F;try exact no hg)|refine zT F ?_|((with_reducible refine isK ?_);refine svB F ?_ ?_<;>intro hc<;>try exact no hc)|refine zY ?_;go_step|fail))
   all_goals refine zE F M ?_
   exact⟨_,_,rfl,⟨rfl,rfl⟩,M.perms permsA⟩
  ·have hini:=Inv.ini hcf
   obtain ⟨i1,j1⟩:=runM_inv hcf l hini (by show 0+l.length<_;omega) fun o ho=>(hwf o ho).2
   refine detects_walk c hck hcf (by omega) (by omega) v l R hg hnl (runM c St.ini l).2 i1 (by have:St.ini.bk=0:=rfl;omega) a y ha hy (fun R=>newB c R hcf hck) hft fun b R hg=>?_
   exact(runB b c St.ini R hcf hini v l hg (by omega) (by show 0+l.length<_;omega) hwf).mono fun u L' ⟨hr,xs,⟨e,_⟩,e2⟩=>⟨hr,xs,e,e2⟩
 ·have hft:=fun (R:List Asn) hg=>fits_no c v l R hg hF
  (intro G w M;refine sx_enter (vs:=([cfgV c,v,.agg #[.int .u8 a,.int .u8 y]]:List Value)) Tryz.func14 (n:=74) rfl rfl rfl rfl ?_;intro a F;(try simp only[zc,zn] at M))
  have hG:GS (R++G) 4 v l.length (l.flatMap opL):=Gives.app hg
  (repeat'(first|(first|refine sx_nil ?_|fail);try replace F:=F.filt zk155 rfl|refine zn1 F M ?_;clear F M a;(try clear w);intro a w F M|refine sv2 F M ?_;clear F M a;intro nb a w F M|((first|refine svC F M ?_|fail);((first|((refine acW (k:=29) (hft _ ?_) ?_);(exact gsA);rintro u L' ⟨rfl,rfl⟩)|((refine acW (k:=18) (hal _) ?_);rintro u L' ⟨rfl,rfl⟩)));(first|clear F M a;intro a w F M|fail))|refine zT F ?_|refine zY ?_;go_step|fail))
  all_goals refine zE F M ?_
  exact⟨_,_,rfl,⟨rfl,rfl⟩,M.perms permsA⟩
end
theorem start_AuditDetects (w:World) (ks:Array Value) (hk:HasSh w cfgSh ks.toList) (v:Value) (hv:HasSh w (.slice 4 oprSh) [v]) (xs:Array Value) (hx:HasSh w (.agg (List.replicate 2 (.int .u8))) xs.toList):Calls Tryz.prog 14 #[.agg ks,v,.agg xs] w fun e w'=>e=.returned (.bool true)∧Below w.heap.size w w':=by
 obtain ⟨c,rfl,h0,h1⟩:=cfg_ops hk
 obtain ⟨l,gl,hl⟩:=ops_sh hv
 obtain ⟨c1,r1,e1,q1,hx⟩:=shb_cons hx
 obtain ⟨c2,r2,rfl,q2,hx⟩:=shb_cons hx
 have:=shb_nil hx;subst this
 obtain ⟨a,rfl,ha⟩:=shb_int q1
 obtain ⟨y,rfl,hy⟩:=shb_int q2
 have u8:∀ n:Int,(Lit.int .u8 n).wf=true→0≤n∧n≤255:=fun n h=>by
  simp[Lit.wf,IntKind.min,IntKind.max,IntKind.signed,IntKind.bits] at h
  omega
 obtain rfl:=arr_eq e1
 exact law_old (us:=[cfgV c,v,.agg #[.int .u8 a,.int .u8 y]]) (detects_law c v l [Old w] gl h0 h1 hl a y (u8 a ha) (u8 y hy))
end
end Go.Proofs.YtopbohbkhljjgaaGreat
