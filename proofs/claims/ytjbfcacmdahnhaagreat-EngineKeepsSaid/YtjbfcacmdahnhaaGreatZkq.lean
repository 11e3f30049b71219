import Derived.Test.YtjbfcacmdahnhaaGreatZkp
set_option linter.unusedVariables false
set_option linter.unusedSimpArgs false
set_option linter.unusedSectionVars false
set_option maxRecDepth 100000
set_option maxHeartbeats 8000000
namespace Go.Proofs.YtjbfcacmdahnhaaGreat
section
open Go.RowKit
section
variable {o:Oper} {n:Nat} {l:List (Nat × Value)} {L:List Asn} {C:Value→List Asn→Prop}
theorem ac_callF {f:Operand} {xs:Array Operand} {ats:Array TypeId} (ho:o.op=.call {callee:=.value f,args:=xs,argTypes:=ats}) {k:FuncId} {fs caps:Array Value} (hf:evl l f=some (.func (.func k) fs caps)) (hfk:FK k)
  {vs us:List Value} (hx:evls l xs.toList=some vs) (hu:fs.toList++vs++caps.toList=us) (hs:Spec k us L C):AC o l L n C:=fun G a w F M=>by
 have e1:xs.map a.eval=vs.toArray:=by have:=F.evals hx;apply Array.toList_inj.1;simpa using this
 have hrun:(execOp a.eval o).run Tryz.prog w=.ok (.enter k us.toArray) w:=by
  unfold execOp
  rw[ho]
  rw[Sem.run_bind]
  simp only[resolve,F.eval hf,Deferred.ofValue,Sem.run_pure,Result.andThen_ok,invoke,e1]
  have:fs++vs.toArray++caps=us.toArray:=by rw[← hu];apply Array.toList_inj.1;simp
  rw[this]
  exact @run_callFunc k hfk _ w
 rw[hrun]
 exact(hs G w M).mono fun e w' ⟨v,L',he,hc,hm⟩=>⟨v,he,L',hc,hm⟩
theorem acF {f:Operand} {xs:Array Operand} {ats:Array TypeId} {k:FuncId} {fs caps:Array Value} {vs us:List Value} {L1:List Asn} {D:Value→List Asn→Prop} (hs:Spec k us L1 D) (hi:∀ v L',D v L'→C v L')
  (ho:o.op=.call {callee:=.value f,args:=xs,argTypes:=ats}:=by exact rfl) (hf:evl l f=some (.func (.func k) fs caps):=by exact rfl) (hfk:FK k:=by exact inferInstance) (hx:evls l xs.toList=some vs:=by exact rfl) (hu:fs.toList++vs++caps.toList=us:=by exact rfl) (hp:Perms L L1:=by exact permsA):AC o l L n C :=
 ac_callF ho hf hfk hx hu ((hs.mono hi).pre hp)
end
def hd1:List Nat→List Nat→Int
 | i::_,_=>i
 | [],i::_=>i
 | [],[]=>0
def hd2:List Nat→List Nat→Int
 | _::_,_=>0
 | [],_::_=>1
 | [],[]=>0
def hd3:List Nat→List Nat→Bool
 | _::_,_=>true
 | [],_::_=>true
 | [],[]=>false
theorem headL_eq (fo vo:List Nat):headL fo vo=[.int .i64 (hd1 fo vo),.int .i64 (hd2 fo vo),.bool (hd3 fo vo)]:=by
 cases fo with
 | cons i fo=>rfl
 | nil=>cases vo<;>rfl
theorem asgs_f (e:Int) (i:Nat) (f v:List Nat) (n:Nat):asgs e (i::f) v (n+1)=⟨i,0,e⟩::asgs e f v n:=by
 simp[asgs,Nat.add_sub_add_right]
theorem asgs_v (e:Int) (i:Nat) (v:List Nat) (n:Nat):asgs e [] (i::v) (n+1)=⟨i,1,e⟩::asgs e [] v n:=by
 simp[asgs]
theorem asgs_z (e:Int) (f v:List Nat):asgs e f v 0=[]:=by simp[asgs]
structure AsI (W:List Int) (e:Int) (fo vo:List Nat) (t:Nat × Int) (fo' vo':List Nat) (ca:Int) (out:List Asg):Prop where
 o:out++asgs e fo' vo' (takeW W ca (fo'++vo')).1=asgs e fo vo t.1
 f:fo'.drop (takeW W ca (fo'++vo')).1=fo.drop t.1
 v:vo'.drop ((takeW W ca (fo'++vo')).1 - fo'.length)=vo.drop (t.1 - fo.length)
 r:(takeW W ca (fo'++vo')).2=t.2
 e:(takeW W ca (fo'++vo')).1=(fo'++vo').length↔t.1=(fo++vo).length
theorem wAt_u64 {W:List Int} (hW:∀ x∈W,U64 x) (i:Nat):U64 (wAt W i):=by
 unfold wAt
 rw[List.getD_eq_getElem?_getD]
 cases hx:W[i]? with
 | none=>exact⟨by decide,by decide⟩
 | some x=>exact hW x (List.mem_of_getElem? hx)
section
variable (ln r0 r1 mt size:Nat) (W:List Int) (v:Value) (R:List Asn) (hg:GS R 1 v W.length (W.flatMap u64L)) (hW:∀ x∈W,U64 x) (fo vo:List Nat) (hf:fo.length≤4096) (hv:vo.length≤4096) (ca x ep:Int) (hca:U64 ca) (hx:0≤x) (hep:0≤ep∧ep≤1099511627776)
include hg hW hf hv hca hx hep
theorem astep_spec:Spec 265 [.int .i64 ep,ptr ln,ptr mt,.int .u64 x,v] (mtA mt ca::lnP ln r0 r1 size fo vo R) fun u L'=>∃ h,u=sl h∧L'=ownT 75 asgL 3 (sl h) (asgs (ep+1) fo vo (takeW W (granted ca x) (fo++vo)).1)::mtA mt (if (takeW W (granted ca x) (fo++vo)).1=(fo++vo).length then 0 else (takeW W (granted ca x) (fo++vo)).2)::lnP ln r0 r1 size (fo.drop (takeW W (granted ca x) (fo++vo)).1) (vo.drop ((takeW W (granted ca x) (fo++vo)).1 - fo.length)) R:=by
 have hgr:=fun R=>mt_grant mt ca R x hca hx
 rw[show ca+min x (18446744073709551615 - ca)=granted ca x from rfl] at hgr
 have hG1:U64 (granted ca x):=by have:=hca.1;have:=hca.2;unfold granted;exact⟨by omega,by omega⟩
 have hI:AsI W (ep+1) fo vo (takeW W (granted ca x) (fo++vo)) fo vo (granted ca x) []:=⟨by simp,rfl,rfl,rfl,Iff.rfl⟩
 generalize takeW W (granted ca x) (fo++vo)=T at *
 generalize granted ca x=g at *
 have hlh:=fun (f v:List Nat) R=>lhead ln r0 r1 size f v R
 simp only[headL_eq] at hlh
 refine zGo Tryz.func265 ?_;intro G w M a F
 have hG:GS (R++G) 1 v W.length (W.flatMap u64L):=Gives.app hg
 have M:=M.own_nil 75 3
 (try refine zI zk265 F M ?_;clear F M a;try clear w);(repeat'(first|refine zA ?_;repeat intro nb|refine zC ?_;(first|refine kp (k:=315) (hgr _) ?_|refine kp (k:=317) (hlh fo vo _) ?_)|refine zB ?_ ?_<;>intro hc<;>try exact no hc|refine zH ?_ ?_<;>(intro hg;rw[hg];try exact no hg)));all_goals try refine zO fun a w F M=>?_
 refine svLoop F M ((fo,vo,g,nilH,[]):List Nat × List Nat × Int × SlH × List Asg) (fun s=>[(13,.int .i64 (hd1 s.1 s.2.1)),(14,.int .i64 (hd2 s.1 s.2.1)),(15,.bool (hd3 s.1 s.2.1)),(12,sl s.2.2.2.1)]) (fun s=>[ownT 75 asgL 3 (sl s.2.2.2.1) s.2.2.2.2,mtA mt s.2.2.1,lnC ln r0 r1,rgnA r0 size s.1,rgnA r1 size s.2.1]) (fun s=>s.1.length+s.2.1.length+s.2.2.2.2.length≤8192∧U64 s.2.2.1∧AsI W (ep+1) fo vo T s.1 s.2.1 s.2.2.1 s.2.2.2.2) (fun s=>s.1.length+s.2.1.length) [] ⟨by simp;omega,hG1,hI⟩ ?_ (hR:=by(repeat (first|exact Pulls.nil|(apply Pulls.cons;(focus ((repeat (first|exact Pull.here|apply Pull.there));done))))))
 (rintro⟨f,vv,m,h,out⟩ ⟨q1,q2,q3⟩ a w F M;(try simp only[zc,zn] at F M q1 q2 q3 ⊢))
 obtain ⟨o1,o2,o3,o4,o5⟩:=q3
 have fin:∀ {w:World} {z:Int} {f2 v2:List Nat},f2=fo.drop T.1→v2=vo.drop (T.1 - fo.length)→out=asgs (ep+1) fo vo T.1→z=(if T.1=(fo++vo).length then 0 else T.2)→Mem w (ownT 75 asgL 3 (sl h) out::mtA mt z::lnP ln r0 r1 size f2 v2 (R++G))→Mem w (ownT 75 asgL 3 (sl h) (asgs (ep+1) fo vo T.1)::mtA mt (if T.1=(fo++vo).length then 0 else T.2)::lnP ln r0 r1 size (fo.drop T.1) (vo.drop (T.1 - fo.length)) (R++G)):=by
  intro w z f2 v2 e1 e2 e3 e4 M
  subst e1;subst e2;rw[← e3,← e4];exact M
 have wsp:=fun (i:Nat) (R:List Asn) hg=>weight_spec W v R hg i
 have tsp:=fun (y:Int) (hy:U64 y) R=>mt_take mt m R y q2 hy
 cases f with
 | cons i f =>
  have hwu:=wAt_u64 hW i
  have ts:=fun R=>tsp _ hwu R
  have ws:=fun R hg=>wsp i R hg
  have hlf:=fun R=>hlh f vv R
  have e1:hd1 (i::f) vv=i:=rfl
  have e2:hd2 (i::f) vv=0:=rfl
  have e3:hd3 (i::f) vv=true:=rfl
  simp only[e1,e2,e3] at F
  rw[zc,takeW] at o1 o2 o3 o4 o5
  by_cases hle:wAt W i≤m
  ·simp only[hle,if_true,decide_true] at ts o1 o2 o3 o4 o5
   generalize wAt W i=z at *
   (try refine zI zk265 F M ?_;clear F M a;try clear w);(repeat'(first|refine zA ?_;repeat intro nb|refine zC ?_;(first|refine acW (k:=281) (ws _ ?_) ?_;exact gsA;rintro u L' ⟨rfl,rfl⟩|refine acF (k:=316) (ts _) ?_;rintro u L' ⟨rfl,rfl⟩|refine kp (k:=318) (lpop0 ln r0 r1 size f vv _ i) ?_|refine kp (k:=317) (hlf _) ?_|refine ac_appendH (f:=asgL) (xs:=out) (ys:=[⟨(i:Int),0,ep+1⟩]) rfl rfl inferInstance rfl rfl pullA inferInstance gsA rfl rfl (by simp;omega) ?_;intro nv)|refine zB ?_ ?_<;>intro hc<;>try exact no hc|refine zH ?_ ?_<;>(intro hg;rw[hg];try exact no hg)));all_goals try refine zO fun a w F M=>?_
   refine sv_again F M (f,vv,m - z,nv,_) kpA permsA ⟨by simp at q1 ⊢;omega,⟨by simp only;omega,by have:=q2.2;have:=hwu.1;simp only;omega⟩,?_⟩ (by simp)
   exact⟨by rw[asgs_f] at o1;simpa using o1,by simpa using o2,by simpa using o3,o4,by simpa using o5⟩
  ·simp only[hle,if_false,decide_false] at ts o1 o2 o3 o4 o5
   (try refine zI zk265 F M ?_;clear F M a;try clear w);(repeat'(first|refine zA ?_;repeat intro nb|refine zC ?_;(first|refine acW (k:=281) (ws _ ?_) ?_;exact gsA;rintro u L' ⟨rfl,rfl⟩|refine acF (k:=316) (ts _) ?_;rintro u L' ⟨rfl,rfl⟩)|refine zB ?_ ?_<;>intro hc<;>try exact no hc|refine zH ?_ ?_<;>(intro hg;rw[hg];try exact no hg)));all_goals try refine zO fun a w F M=>?_
   all_goals refine zE F M ?_
   refine⟨_,_,rfl,⟨h,rfl,rfl⟩,fin ?_ ?_ ?_ ?_ (M.perms permsA)⟩
   ·simpa using o2
   ·simpa using o3
   ·simpa[asgs_z] using o1
   ·rw[if_neg (by intro e;have:=o5.2 e;simp at this)];exact o4
 | nil =>
  cases vv with
  | cons i vv =>
   have hwu:=wAt_u64 hW i
   have ts:=fun R=>tsp _ hwu R
   have ws:=fun R hg=>wsp i R hg
   have hlf:=fun R=>hlh [] vv R
   have e1:hd1 [] (i::vv)=i:=rfl
   have e2:hd2 [] (i::vv)=1:=rfl
   have e3:hd3 [] (i::vv)=true:=rfl
   simp only[e1,e2,e3] at F
   rw[zn,takeW] at o1 o2 o3 o4 o5
   by_cases hle:wAt W i≤m
   ·simp only[hle,if_true,decide_true] at ts o1 o2 o3 o4 o5
    generalize wAt W i=z at *
    (try refine zI zk265 F M ?_;clear F M a;try clear w);(repeat'(first|refine zA ?_;repeat intro nb|refine zC ?_;(first|refine acW (k:=281) (ws _ ?_) ?_;exact gsA;rintro u L' ⟨rfl,rfl⟩|refine acF (k:=316) (ts _) ?_;rintro u L' ⟨rfl,rfl⟩|refine kp (k:=318) (lpop1 ln r0 r1 size vv _ i) ?_|refine kp (k:=317) (hlf _) ?_|refine ac_appendH (f:=asgL) (xs:=out) (ys:=[⟨(i:Int),1,ep+1⟩]) rfl rfl inferInstance rfl rfl pullA inferInstance gsA rfl rfl (by simp;omega) ?_;intro nv)|refine zB ?_ ?_<;>intro hc<;>try exact no hc|refine zH ?_ ?_<;>(intro hg;rw[hg];try exact no hg)));all_goals try refine zO fun a w F M=>?_
    refine sv_again F M ([],vv,m - z,nv,_) kpA permsA ⟨by simp at q1 ⊢;omega,⟨by simp only;omega,by have:=q2.2;have:=hwu.1;simp only;omega⟩,?_⟩ (by simp)
    exact⟨by rw[asgs_v] at o1;simpa using o1,by simpa using o2,by simpa using o3,o4,by simpa using o5⟩
   ·simp only[hle,if_false,decide_false] at ts o1 o2 o3 o4 o5
    (try refine zI zk265 F M ?_;clear F M a;try clear w);(repeat'(first|refine zA ?_;repeat intro nb|refine zC ?_;(first|refine acW (k:=281) (ws _ ?_) ?_;exact gsA;rintro u L' ⟨rfl,rfl⟩|refine acF (k:=316) (ts _) ?_;rintro u L' ⟨rfl,rfl⟩)|refine zB ?_ ?_<;>intro hc<;>try exact no hc|refine zH ?_ ?_<;>(intro hg;rw[hg];try exact no hg)));all_goals try refine zO fun a w F M=>?_
    all_goals refine zE F M ?_
    refine⟨_,_,rfl,⟨h,rfl,rfl⟩,fin ?_ ?_ ?_ ?_ (M.perms permsA)⟩
    ·simpa using o2
    ·simpa using o3
    ·simpa[asgs_z] using o1
    ·rw[if_neg (by intro e;have:=o5.2 e;simp at this)];exact o4
  | nil =>
   have e3:hd3 [] []=false:=rfl
   simp only[e3] at F
   rw[zn,takeW] at o1 o2 o3 o4 o5
   (try refine zI zk265 F M ?_;clear F M a;try clear w);(repeat'(first|refine zA ?_;repeat intro nb|refine zC ?_;refine kp (k:=319) (mt_drop mt m _ q2) ?_|refine zB ?_ ?_<;>intro hc<;>try exact no hc|refine zH ?_ ?_<;>(intro hg;rw[hg];try exact no hg)));all_goals try refine zO fun a w F M=>?_
   all_goals refine zE F M ?_
   refine⟨_,_,rfl,⟨h,rfl,rfl⟩,fin ?_ ?_ ?_ ?_ (M.perms permsA)⟩
   ·simpa using o2
   ·simpa using o3
   ·simpa[asgs_z] using o1
   ·rw[if_pos (o5.1 rfl)]
end
end
section
open Go.RowKit
abbrev roT {α:Type} (f:α→List Value) (k:Nat) (v:Value) (xs:List α):Asn:=roA k v xs.length (xs.flatMap f)
theorem ro_h {w:World} {L:List Asn} {size m:Nat} {h:SlH} {xs:List Value} (M:Mem w (roA size (sl h) m xs::L)):h.n=m∧m≤h.c∧m≤maxLen:=by
 obtain ⟨s,⟨hs,p,c,hv,hc⟩,_⟩:=M.head
 have h1:=hs.len_le
 obtain ⟨a,n,c'⟩:=h
 simp only[sl,Value.slice.injEq] at hv
 obtain ⟨rfl,rfl,rfl⟩:=hv
 exact⟨rfl,hc,h1⟩
theorem Mem.roP {e:TypeId} {size:Nat} {v:Value} {m:Nat} {xs:List Value} {w:World} {L L':List Asn} (M:Mem w L) (h:Pull L (own e size v m xs) L'):Mem w (roA size v m xs::L'):=(M.pull h).ro
theorem Mem.roFrom {α:Type} {f:α→List Value} {k:Nat} (he:EL f k) {w:World} {L:List Asn} {h:SlH} {xs:List α} (M:Mem w (roT f k (sl h) xs::L)) {j:Nat} (hj:j≤xs.length):Mem w (roT f k (sl (fromH h j k)) (xs.drop j)::L) :=
 M.imp fun s w' hs=>by
  obtain ⟨hs,p,c,hv,hc⟩:=hs
  obtain ⟨a,n,c'⟩:=h
  simp only[sl,Value.slice.injEq] at hv
  obtain ⟨rfl,rfl,rfl⟩:=hv
  have:=hs.from hj hc
  rw[flat_drop he.len] at this
  refine⟨by rw[List.length_drop];exact this,_,c' - j,by rw[List.length_drop],?_⟩
  simp only[List.length_drop];omega
section
variable {Q:Exit→Act→World→Prop} {n:Nat} {l:List (Nat × Value)} {L:List Asn}
theorem zDL {K:ZK} {id:Nat} {os pre:List Oper} {o:Oper} (E Fl:List Nat) (S:List (Nat × List Nat)) (σ:List Nat) (h:YK K (PW Tryz.prog pre.toArray n (QL os.toArray o Q) E Fl S σ [] l L)) (hl:lastL os=some (pre,o):=by exact rfl) (hok:drawOK pre.toArray E Fl S σ n=true:=by kernel_rfl) (hla:lastOK pre.toArray o=true:=by kernel_rfl) (hFl:FlOK Tryz.prog pre.toArray Fl:=by(first|(focus ((repeat (first|exact flok_nil|(apply flok_cons;(exact rfl);(exact rfl);(exact inferInstance);(exact rfl);(exact rfl))));done))|fail)):YK K (ZW n l L ((Code.region id os.toArray true).wp Tryz.prog Q)):=ZW.mk fun a w F M=>svDrawL E Fl S σ F M h hl hok hla hFl
theorem zQo {K:ZK} {ops:Array Oper} {o:Oper} (h:YK K (ZW n l L (wpList Tryz.prog ops Q [o]))):YK K (ZW n l L (QL ops o Q .normal)):=ZW.mk fun a w F M=>ql_open (ZW.h h a w F M)
end
section
variable {o:Oper} {n:Nat} {l:List (Nat × Value)} {L:List Asn} {C:Value→List Asn→Prop}
theorem ac_appendE {α:Type} {f:α→List Value} {x y:Operand} {t:TypeId} {ats:Array TypeId} (ho:o.op=.call {callee:=.builtin .append,args:=#[x,y],argTypes:=ats}) (hat:ats = #[t,t]) {e:TypeId} {z:Value} {k bytes:Nat} (ht:ST t e z k bytes) {v:Value} (hx:evl l x=some v) {u:Value} (hy:evl l y=some u)
  {ys:List α} {L':List Asn} (hp:Pull L (own e k v 0 []) L') (he:EL f k) {m:Nat} {cs:List Value} (hg:GS L k u m cs) (hm:m=ys.length) (hcs:cs=ys.flatMap f) (hb:ys.length*(bytes+1)≤140737488355328)
  (h:∀ v',C (sl v') (ownT e f k (sl v') ys::L')):AC o l L n C :=
 ac_appendH (f:=f) (xs:=[]) (ys:=ys) ho hat ht hx hy hp he hg hm hcs (by simpa using hb) fun v'=>h v'
end
section
variable (b:Nat) (R:List Asn)
abbrev rldC (b:Nat) (cap dep pd bu:Int):Asn:=pt b [.int .u64 cap,.int .u64 dep,.int .u64 pd,.int .u64 bu] 143
section
variable (cap dep pd bu:Int) (h:0≤pd∧0≤bu∧pd+bu≤dep∧dep≤18446744073709551615∧0≤cap∧cap≤1152921504606846976)
include h
theorem rsupply_spec:Spec 208 [ptr b] (rldC b cap dep pd bu::R) fun u L'=>u=.int .u64 (dep - pd - bu)∧L'=rldC b cap dep pd bu::R:=by
 obtain ⟨h1,h2,h3,h4,h5,h6⟩:=h
 refine zGz zk208 Tryz.func208 ?_;intro G;(repeat'(first|refine zA ?_;repeat intro nb|refine zB ?_ ?_<;>intro hc<;>try exact no hc|refine zH ?_ ?_<;>(intro hg;rw[hg];try exact no hg)));all_goals exact zXz
theorem rlburn_spec (x:Int) (hx:0≤x∧x≤dep - pd - bu):Spec 149 [ptr b,.int .u64 x] (rldC b cap dep pd bu::R) fun u L'=>u=.int .i64 0∧L'=rldC b cap dep pd (bu+x)::R:=by
 have hs:=fun R=>rsupply_spec b R cap dep pd bu h
 obtain ⟨h1,h2,h3,h4,h5,h6⟩:=h
 obtain ⟨x1,x2⟩:=hx
 refine zGz zk149 Tryz.func149 ?_;intro G;(repeat'(first|refine zA ?_;repeat intro nb|refine zC ?_;refine kp (k:=208) (hs _) ?_|refine zB ?_ ?_<;>intro hc<;>try exact no hc|refine zH ?_ ?_<;>(intro hg;rw[hg];try exact no hg)));all_goals exact zXz
theorem rlpay_spec (x:Int) (hx:0≤x∧x≤dep - pd - bu):Spec 157 [ptr b,.int .u64 x] (rldC b cap dep pd bu::R) fun u L'=>u=.int .i64 0∧L'=rldC b cap dep (pd+x) bu::R:=by
 have hs:=fun R=>rsupply_spec b R cap dep pd bu h
 obtain ⟨h1,h2,h3,h4,h5,h6⟩:=h
 obtain ⟨x1,x2⟩:=hx
 refine zGz zk157 Tryz.func157 ?_;intro G;(repeat'(first|refine zA ?_;repeat intro nb|refine zC ?_;refine kp (k:=208) (hs _) ?_|refine zB ?_ ?_<;>intro hc<;>try exact no hc|refine zH ?_ ?_<;>(intro hg;rw[hg];try exact no hg)));all_goals exact zXz
theorem rldep_spec (x:Int) (hx:U64 x):Spec 141 [ptr b,.int .u64 x] (rldC b cap dep pd bu::R) fun u L'=>(if cap<x+(dep - pd - bu) then u=.int .i64 4∧L'=rldC b cap dep pd bu::R else if 18446744073709551615<dep+x then u=.int .i64 10∧L'=rldC b cap dep pd bu::R else u=.int .i64 0∧L'=rldC b cap (dep+x) pd bu::R):=by
 have hs:=fun R=>rsupply_spec b R cap dep pd bu h
 obtain ⟨h1,h2,h3,h4,h5,h6⟩:=h
 have x1:=hx.1;have x2:=hx.2
 have ha1:∀ {L:List Asn} {v:Value},GS L 1 v 2 ([dep - pd - bu,x].flatMap u64L)→Reads 207 [v] (.tuple [.int .u64 (addR [dep - pd - bu,x]).1,.bool (addR [dep - pd - bu,x]).2].toArray) L:=fun hg=>radd_reads _ [dep - pd - bu,x] (by simp only[List.mem_cons,List.not_mem_nil,or_false];rintro z (rfl|rfl);exact⟨by omega,by omega⟩;exact hx) hg
 have ha2:∀ {L:List Asn} {v:Value},GS L 1 v 2 ([dep,x].flatMap u64L)→Reads 207 [v] (.tuple [.int .u64 (addR [dep,x]).1,.bool (addR [dep,x]).2].toArray) L:=fun hg=>radd_reads _ [dep,x] (by simp only[List.mem_cons,List.not_mem_nil,or_false];rintro z (rfl|rfl);exact⟨by omega,by omega⟩;exact hx) hg
 rw[addR_sum _ (by simp only[List.mem_cons,List.not_mem_nil,or_false];rintro z (rfl|rfl)<;>omega),show [dep - pd - bu,x].sum=dep - pd - bu+x by simp] at ha1
 rw[addR_sum _ (by simp only[List.mem_cons,List.not_mem_nil,or_false];rintro z (rfl|rfl)<;>omega),show [dep,x].sum=dep+x by simp] at ha2
 by_cases k1:cap<x+(dep - pd - bu)
 ·simp only[k1,if_true]
  by_cases k2:18446744073709551615<dep - pd - bu+x
  all_goals simp only[k2,if_true,if_false] at ha1
  all_goals(refine zGo Tryz.func141 ?_;intro G w M a F)
  all_goals((try refine zI zk141 F M ?_;clear F M a;try clear w);(repeat'(first|refine zA ?_;repeat intro nb|refine zC ?_;(first|refine kp (k:=208) (hs _) ?_|refine acCall (k:=207) ?_;refine Spec.of_reads (ha1 (gs_own pullA)) rfl ?_)|refine zB ?_ ?_<;>intro hc<;>try exact no hc|refine zH ?_ ?_<;>(intro hg;rw[hg];try exact no hg)));all_goals try refine zO fun a w F M=>?_)
  all_goals refine zE F M ?_
  all_goals exact⟨_,_,rfl,⟨rfl,rfl⟩,M.perms permsA⟩
 ·simp only[k1,if_false]
  rw[if_neg (by omega)] at ha1
  by_cases k2:18446744073709551615<dep+x
  all_goals simp only[k2,if_true,if_false] at ha2 ⊢
  all_goals(refine zGo Tryz.func141 ?_;intro G w M a F)
  all_goals((try refine zI zk141 F M ?_;clear F M a;try clear w);(repeat'(first|refine zA ?_;repeat intro nb|refine zC ?_;(first|refine kp (k:=208) (hs _) ?_|refine acCall (k:=207) ?_;(first|refine Spec.of_reads (ha1 (gs_own pullA)) rfl ?_|refine Spec.of_reads (ha2 (gs_own pullA)) rfl ?_))|refine zB ?_ ?_<;>intro hc<;>try exact no hc|refine zH ?_ ?_<;>(intro hg;rw[hg];try exact no hg)));all_goals try refine zO fun a w F M=>?_)
  all_goals refine zE F M ?_
  all_goals exact⟨_,_,rfl,⟨rfl,rfl⟩,M.perms permsA⟩
end
def rmtA (b:Nat) (ca:Int):Asn:=exA fun z:Int × Int × Int × Int=>[pt b [.int .u64 ca,.int .u64 z.1,.int .u64 z.2.1,.int .u64 z.2.2.1,.int .u64 z.2.2.2] 147]
theorem rmt_open {w:World} {L:List Asn} {ca:Int} (M:Mem w (rmtA b ca::L)):∃ z1 z2 z3 z4,Mem w (pt b [.int .u64 ca,.int .u64 z1,.int .u64 z2,.int .u64 z3,.int .u64 z4] 147::L):=by
 obtain ⟨⟨z1,z2,z3,z4⟩,M⟩:=M.exo
 exact⟨z1,z2,z3,z4,M⟩
theorem rmt_close {w:World} {L:List Asn} {ca z1 z2 z3 z4:Int} (M:Mem w (pt b [.int .u64 ca,.int .u64 z1,.int .u64 z2,.int .u64 z3,.int .u64 z4] 147::L)):Mem w (rmtA b ca::L):=Mem.exc (f:=fun z:Int × Int × Int × Int=>[pt b [.int .u64 ca,.int .u64 z.1,.int .u64 z.2.1,.int .u64 z.2.2.1,.int .u64 z.2.2.2] 147]) (z1,z2,z3,z4) M
theorem rmt_grant (ca x:Int) (hca:U64 ca) (hx:U64 x):Spec 295 [ptr b,.int .u64 x] (rmtA b ca::R) fun u L'=>u=.tuple #[]∧L'=rmtA b (granted ca x)::R:=by
 have h1:=hca.1;have h2:=hca.2;have h3:=hx.1
 unfold granted
 obtain ⟨m,hm2⟩:∃ m,min x (18446744073709551615 - ca)=m:=⟨_,rfl⟩
 have hmin:(if 18446744073709551615 - ca<x then 18446744073709551615 - ca else x)=m:=by split<;>omega
 have hm1:0≤m:=by omega
 have hm3:ca+m≤18446744073709551615:=by omega
 rw[hm2]
 intro G w M
 obtain ⟨z1,z2,z3,z4,M2⟩:=rmt_open b M
 clear M;have M:=M2;clear M2
 (refine zGe Tryz.func295 ?_;intro a F;(try simp only[zc,zn] at M))
 ((try(refine zI (⟨List.range 64,(zk295).d,[]⟩) F M ?_;clear F M a;(try clear w)));(repeat'(first|(refine zV (h:=⟨_,by((apply rt_min2;(exact rfl);(exact rfl);(exact hmin))),?_⟩))|(refine zDL (id:=0) [1] [] [(1,[0,2,3,4,5])] [0,2,3,4,5,1,6,7] ?_)|with_reducible refine zQo ?_|(refine zA1 ?_;(repeat intro(nb:Nat)))|((refine zC ?_);(((refine acCall (k:=289) ?_);(refine Spec.of_reads rmax_reads rfl ?_))))|(refine zB ?_ ?_<;>intro hc<;>(try exact no hc))|(refine zH ?_ ?_<;>(intro hg;rw[hg];(try exact no hg)))));(all_goals(try refine zO fun a w F M=>?_)))
 all_goals refine zE F M ?_
 all_goals exact⟨_,_,rfl,⟨rfl,rfl⟩,rmt_close b (M.perms permsA)⟩
theorem rmt_take (ca x:Int) (hca:U64 ca) (hx:U64 x):Spec 298 [ptr b,.int .u64 x] (rmtA b ca::R) fun u L'=>u=.bool (decide (x≤ca))∧L'=rmtA b (if x≤ca then ca - x else ca)::R:=by
 have h1:=hca.1;have h2:=hca.2;have h3:=hx.1
 by_cases h:x≤ca
 all_goals simp only[h,decide_true,decide_false,if_true,if_false]
 all_goals intro G w M
 all_goals obtain ⟨z1,z2,z3,z4,M2⟩:=rmt_open b M
 all_goals(clear M;have M:=M2;clear M2)
 all_goals(refine zGe Tryz.func298 ?_;intro a F;(try simp only[zc,zn] at M))
 all_goals((try refine zI zk298 F M ?_;clear F M a;try clear w);(repeat'(first|refine zA ?_;repeat intro nb|refine zB ?_ ?_<;>intro hc<;>try exact no hc|refine zH ?_ ?_<;>(intro hg;rw[hg];try exact no hg)));all_goals try refine zO fun a w F M=>?_)
 all_goals refine zE F M ?_
 all_goals exact⟨_,_,rfl,⟨rfl,rfl⟩,rmt_close b (M.perms permsA)⟩
theorem rmt_drop (ca:Int):Spec 297 [ptr b] (rmtA b ca::R) fun u L'=>u=.int .u64 ca∧L'=rmtA b 0::R:=by
 intro G w M
 obtain ⟨z1,z2,z3,z4,M2⟩:=rmt_open b M
 clear M;have M:=M2;clear M2
 (refine zGe Tryz.func297 ?_;intro a F;(try simp only[zc,zn] at M))
 (try refine zI zk297 F M ?_;clear F M a;try clear w);(repeat'(first|refine zA ?_;repeat intro nb|refine zB ?_ ?_<;>intro hc<;>try exact no hc|refine zH ?_ ?_<;>(intro hg;rw[hg];try exact no hg)));all_goals try refine zO fun a w F M=>?_
 all_goals refine zE F M ?_
 all_goals exact⟨_,_,rfl,⟨rfl,rfl⟩,rmt_close b (M.perms permsA)⟩
abbrev rlnL (b:Nat) (h1 h2:SlH) (size:Nat) (fo vo:List Nat) (R:List Asn):List Asn:=pt b [sl h1,sl h2,.int .i64 (size:Int)] 145::roT natL 1 (sl h1) fo::roT natL 1 (sl h2) vo::R
def rlnA (b size:Nat) (fo vo:List Nat):Asn:=exA fun z:SlH × SlH=>rlnL b z.1 z.2 size fo vo []
section
variable (size:Nat) (fo vo:List Nat)
theorem rln_open {w:World} {L:List Asn} {size:Nat} {fo vo:List Nat} (M:Mem w (rlnA b size fo vo::L)):∃ h1 h2,Mem w (rlnL b h1 h2 size fo vo L)∧h1.n=fo.length∧h2.n=vo.length:=by
 obtain ⟨⟨h1,h2⟩,M⟩:=M.exo
 refine⟨h1,h2,M,?_,?_⟩
 ·exact(ro_h (M.perms (permsA:Perms _ (roT natL 1 (sl h1) fo::L)))).1
 ·exact(ro_h (M.perms (permsA:Perms _ (roT natL 1 (sl h2) vo::L)))).1
theorem rln_close {w:World} {L:List Asn} {size:Nat} {fo vo:List Nat} {h1 h2:SlH} (M:Mem w (rlnL b h1 h2 size fo vo L)):Mem w (rlnA b size fo vo::L):=Mem.exc (f:=fun z:SlH × SlH=>rlnL b z.1 z.2 size fo vo []) (h1,h2) M
theorem rlall0 (h1 h2:SlH):Spec 144 [ptr b,.int .i64 0] (pt b [sl h1,sl h2,.int .i64 (size:Int)] 145::R) fun u L'=>u=sl h1∧L'=pt b [sl h1,sl h2,.int .i64 (size:Int)] 145::R:=by
 refine zGz zk144 Tryz.func144 ?_;intro G;(repeat'(first|refine zA ?_;repeat intro nb|refine zB ?_ ?_<;>intro hc<;>try exact no hc|refine zH ?_ ?_<;>(intro hg;rw[hg];try exact no hg)));all_goals exact zXz
theorem rlall1 (h1 h2:SlH):Spec 144 [ptr b,.int .i64 1] (pt b [sl h1,sl h2,.int .i64 (size:Int)] 145::R) fun u L'=>u=sl h2∧L'=pt b [sl h1,sl h2,.int .i64 (size:Int)] 145::R:=by
 refine zGz zk144 Tryz.func144 ?_;intro G;(repeat'(first|refine zA ?_;repeat intro nb|refine zB ?_ ?_<;>intro hc<;>try exact no hc|refine zH ?_ ?_<;>(intro hg;rw[hg];try exact no hg)));all_goals exact zXz
theorem rlen0:Spec 144 [ptr b,.int .i64 0] (rlnA b size fo vo::R) fun u L'=>∃ p c,u=.slice p fo.length c∧L'=rlnA b size fo vo::R:=by
 intro G w M
 obtain ⟨⟨p1,n1,c1⟩,h2,M2,e1,e2⟩:=rln_open b M
 clear M;have M:=M2;clear M2
 simp only at e1
 subst e1
 (refine zGe Tryz.func144 ?_;intro a F;(try simp only[zc,zn] at M))
 (try refine zI zk144 F M ?_;clear F M a;try clear w);(repeat'(first|refine zA ?_;repeat intro nb|refine zB ?_ ?_<;>intro hc<;>try exact no hc|refine zH ?_ ?_<;>(intro hg;rw[hg];try exact no hg)));all_goals try refine zO fun a w F M=>?_
 all_goals refine zE F M ?_
 all_goals exact⟨_,_,rfl,⟨p1,c1,rfl,rfl⟩,rln_close b (M.perms permsA)⟩
theorem rlen1:Spec 144 [ptr b,.int .i64 1] (rlnA b size fo vo::R) fun u L'=>∃ p c,u=.slice p vo.length c∧L'=rlnA b size fo vo::R:=by
 intro G w M
 obtain ⟨h1,⟨p1,n1,c1⟩,M2,e1,e2⟩:=rln_open b M
 clear M;have M:=M2;clear M2
 simp only at e2
 subst e2
 (refine zGe Tryz.func144 ?_;intro a F;(try simp only[zc,zn] at M))
 (try refine zI zk144 F M ?_;clear F M a;try clear w);(repeat'(first|refine zA ?_;repeat intro nb|refine zB ?_ ?_<;>intro hc<;>try exact no hc|refine zH ?_ ?_<;>(intro hg;rw[hg];try exact no hg)));all_goals try refine zO fun a w F M=>?_
 all_goals refine zE F M ?_
 all_goals exact⟨_,_,rfl,⟨p1,c1,rfl,rfl⟩,rln_close b (M.perms permsA)⟩
theorem rlpush0O (h1 h2:SlH) (i:Nat) (hf:fo.length<size) (hs:size≤4096):Spec 147 [ptr b,.int .i64 0,.int .i64 i] (rlnL b h1 h2 size fo vo R) fun u L'=>∃ h1',u=.int .i64 0∧L'=rlnL b h1' h2 size (fo++[i]) vo R:=by
 have hl:=fun R=>rlall0 b R size h1 h2
 refine zGz zk147 Tryz.func147 ?_;intro G;(repeat'(first|refine zA ?_;repeat intro nb|refine zC ?_;(first|refine kp (k:=144) (hl _) ?_|refine ac_appendE (f:=natL) (ys:=fo) rfl rfl inferInstance rfl rfl pullA inferInstance gsA rfl rfl (by simp;omega) ?_;intro nv|refine ac_appendH (f:=natL) (xs:=fo) (ys:=[i]) rfl rfl inferInstance rfl rfl pullA inferInstance gsA rfl rfl (by simp;omega) ?_;intro nv2)|refine zB ?_ ?_<;>intro hc<;>try exact no hc|refine zH ?_ ?_<;>(intro hg;rw[hg];try exact no hg)));all_goals try refine zO fun a w F M=>?_
 all_goals refine zE F M ?_
 have M2:=M.roP (v:=sl nv2) pullA
 exact⟨_,_,rfl,⟨nv2,rfl,rfl⟩,M2.perms permsA⟩
theorem rlpush1O (h1 h2:SlH) (i:Nat) (hf:vo.length<size) (hs:size≤4096):Spec 147 [ptr b,.int .i64 1,.int .i64 i] (rlnL b h1 h2 size fo vo R) fun u L'=>∃ h2',u=.int .i64 0∧L'=rlnL b h1 h2' size fo (vo++[i]) R:=by
 have hl:=fun R=>rlall1 b R size h1 h2
 refine zGz zk147 Tryz.func147 ?_;intro G;(repeat'(first|refine zA ?_;repeat intro nb|refine zC ?_;(first|refine kp (k:=144) (hl _) ?_|refine ac_appendE (f:=natL) (ys:=vo) rfl rfl inferInstance rfl rfl pullA inferInstance gsA rfl rfl (by simp;omega) ?_;intro nv|refine ac_appendH (f:=natL) (xs:=vo) (ys:=[i]) rfl rfl inferInstance rfl rfl pullA inferInstance gsA rfl rfl (by simp;omega) ?_;intro nv2)|refine zB ?_ ?_<;>intro hc<;>try exact no hc|refine zH ?_ ?_<;>(intro hg;rw[hg];try exact no hg)));all_goals try refine zO fun a w F M=>?_
 all_goals refine zE F M ?_
 have M2:=M.roP (v:=sl nv2) pullA
 exact⟨_,_,rfl,⟨nv2,rfl,rfl⟩,M2.perms permsA⟩
theorem rlpush0 (i:Nat) (hf:fo.length<size) (hs:size≤4096):Spec 147 [ptr b,.int .i64 0,.int .i64 i] (rlnA b size fo vo::R) fun u L'=>u=.int .i64 0∧L'=rlnA b size (fo++[i]) vo::R:=by
 intro G w M
 obtain ⟨h1,h2,M2,e1,e2⟩:=rln_open b M
 refine(rlpush0O b R size fo vo h1 h2 i hf hs G w M2).mono ?_
 rintro e w' ⟨u,L',he,⟨h1',rfl,rfl⟩,M'⟩
 exact⟨_,_,he,⟨rfl,rfl⟩,rln_close b M'⟩
theorem rlpush1 (i:Nat) (hf:vo.length<size) (hs:size≤4096):Spec 147 [ptr b,.int .i64 1,.int .i64 i] (rlnA b size fo vo::R) fun u L'=>u=.int .i64 0∧L'=rlnA b size fo (vo++[i])::R:=by
 intro G w M
 obtain ⟨h1,h2,M2,e1,e2⟩:=rln_open b M
 refine(rlpush1O b R size fo vo h1 h2 i hf hs G w M2).mono ?_
 rintro e w' ⟨u,L',he,⟨h1',rfl,rfl⟩,M'⟩
 exact⟨_,_,he,⟨rfl,rfl⟩,rln_close b M'⟩
theorem Spec.rln {k:FuncId} {us:List Value} {v:Value} {size:Nat} {fo vo:List Nat} {b:Nat} {R:List Asn} (h:∀ h1 h2:SlH,h1.n=fo.length→h2.n=vo.length→Spec k us (rlnL b h1 h2 size fo vo R) fun u L'=>u=v∧L'=rlnL b h1 h2 size fo vo R):Spec k us (rlnA b size fo vo::R) fun u L'=>u=v∧L'=rlnA b size fo vo::R:=by
 intro G w M
 obtain ⟨h1,h2,M2,e1,e2⟩:=rln_open b M
 refine(h h1 h2 e1 e2 G w M2).mono ?_
 rintro e w' ⟨u,L',he,⟨rfl,rfl⟩,M'⟩
 exact⟨_,_,he,⟨rfl,rfl⟩,rln_close b M'⟩
theorem rlheadO_f (i:Nat) (r vo:List Nat) (h1 h2:SlH):Spec 296 [ptr b] (rlnL b h1 h2 size (i::r) vo R) fun u L'=>u=.tuple [.int .i64 i,.int .i64 0,.bool true].toArray∧L'=rlnL b h1 h2 size (i::r) vo R:=by
 have hi:(i::r)[Int.toNat 0]? = some i:=rfl
 have hn:0<(i::r).length:=by simp
 refine zGz zk296 Tryz.func296 ?_;intro G;(repeat'(first|refine zA ?_;repeat intro nb|refine zB ?_ ?_<;>intro hc<;>try exact no hc|refine zH ?_ ?_<;>(intro hg;rw[hg];try exact no hg)));all_goals try refine zO fun a w F M=>?_
 all_goals refine zE F M ?_
 all_goals exact⟨_,_,rfl,⟨rfl,rfl⟩,M.perms permsA⟩
theorem rlheadO_v (i:Nat) (r:List Nat) (h1 h2:SlH):Spec 296 [ptr b] (rlnL b h1 h2 size [] (i::r) R) fun u L'=>u=.tuple [.int .i64 i,.int .i64 1,.bool true].toArray∧L'=rlnL b h1 h2 size [] (i::r) R:=by
 have hi:(i::r)[Int.toNat 0]? = some i:=rfl
 have hn:0<(i::r).length:=by simp
 have hn0:¬0<([]:List Nat).length:=by simp
 refine zGz zk296 Tryz.func296 ?_;intro G;(repeat'(first|refine zA ?_;repeat intro nb|refine zB ?_ ?_<;>intro hc<;>try exact no hc|refine zH ?_ ?_<;>(intro hg;rw[hg];try exact no hg)));all_goals try refine zO fun a w F M=>?_
 all_goals refine zE F M ?_
 all_goals exact⟨_,_,rfl,⟨rfl,rfl⟩,M.perms permsA⟩
theorem rlheadO_n (h1 h2:SlH):Spec 296 [ptr b] (rlnL b h1 h2 size [] [] R) fun u L'=>u=.tuple [.int .i64 0,.int .i64 0,.bool false].toArray∧L'=rlnL b h1 h2 size [] [] R:=by
 refine zGz zk296 Tryz.func296 ?_;intro G;(repeat'(first|refine zA ?_;repeat intro nb|refine zB ?_ ?_<;>intro hc<;>try exact no hc|refine zH ?_ ?_<;>(intro hg;rw[hg];try exact no hg)));all_goals try refine zO fun a w F M=>?_
 all_goals refine zE F M ?_
 all_goals exact⟨_,_,rfl,⟨rfl,rfl⟩,M.perms permsA⟩
theorem rlhead_f (i:Nat) (r vo:List Nat):Spec 296 [ptr b] (rlnA b size (i::r) vo::R) fun u L'=>u=.tuple [.int .i64 i,.int .i64 0,.bool true].toArray∧L'=rlnA b size (i::r) vo::R:=Spec.rln fun h1 h2 _ _=>rlheadO_f b R size i r vo h1 h2
theorem rlhead_v (i:Nat) (r:List Nat):Spec 296 [ptr b] (rlnA b size [] (i::r)::R) fun u L'=>u=.tuple [.int .i64 i,.int .i64 1,.bool true].toArray∧L'=rlnA b size [] (i::r)::R:=Spec.rln fun h1 h2 _ _=>rlheadO_v b R size i r h1 h2
theorem rlhead_n:Spec 296 [ptr b] (rlnA b size [] []::R) fun u L'=>u=.tuple [.int .i64 0,.int .i64 0,.bool false].toArray∧L'=rlnA b size [] []::R:=Spec.rln fun h1 h2 _ _=>rlheadO_n b R size h1 h2
theorem rlpop_f (i:Nat) (r vo:List Nat):Spec 299 [ptr b] (rlnA b size (i::r) vo::R) fun u L'=>u=.tuple [.int .i64 i,.int .i64 0,.bool true].toArray∧L'=rlnA b size r vo::R:=by
 have hh:=fun (h1 h2:SlH) R=>rlheadO_f b R size i r vo h1 h2
 intro G w M
 obtain ⟨h1,h2,M2,e1,e2⟩:=rln_open b M
 clear M;have M:=M2;clear M2
 have e3:1≤h1.n:=by rw[e1];simp
 (refine zGe Tryz.func299 ?_;intro a F;(try simp only[zc,zn] at M))
 (try refine zI zk299 F M ?_;clear F M a;try clear w);(repeat'(first|refine zV (h:=⟨_,by((exact rt_from (j:=1) rfl rfl rfl inferInstance e3)),?_⟩)|refine zA1 ?_;repeat intro(nb:Nat)|refine zC ?_;refine kp (k:=296) (hh h1 h2 _) ?_|refine zB ?_ ?_<;>intro hc<;>try exact no hc|refine zH ?_ ?_<;>(intro hg;rw[hg];try exact no hg)));all_goals try refine zO fun a w F M=>?_
 all_goals refine zE F M ?_
 have M2:=Mem.roFrom (f:=natL) (k:=1) inferInstance (h:=h1) (xs:=i::r) (j:=1) (L:=pt b [sl (fromH h1 1 1),sl h2,.int .i64 (size:Int)] 145::roT natL 1 (sl h2) vo::(R++G)) (M.perms permsA) (by simp)
 exact⟨_,_,rfl,⟨rfl,rfl⟩,rln_close b (h1:=fromH h1 1 1) (h2:=h2) (M2.perms permsA)⟩
theorem rlpop_v (i:Nat) (r:List Nat):Spec 299 [ptr b] (rlnA b size [] (i::r)::R) fun u L'=>u=.tuple [.int .i64 i,.int .i64 1,.bool true].toArray∧L'=rlnA b size [] r::R:=by
 have hh:=fun (h1 h2:SlH) R=>rlheadO_v b R size i r h1 h2
 intro G w M
 obtain ⟨h1,h2,M2,e1,e2⟩:=rln_open b M
 clear M;have M:=M2;clear M2
 have e3:1≤h2.n:=by rw[e2];simp
 (refine zGe Tryz.func299 ?_;intro a F;(try simp only[zc,zn] at M))
 (try refine zI zk299 F M ?_;clear F M a;try clear w);(repeat'(first|refine zV (h:=⟨_,by((exact rt_from (j:=1) rfl rfl rfl inferInstance e3)),?_⟩)|refine zA1 ?_;repeat intro(nb:Nat)|refine zC ?_;refine kp (k:=296) (hh h1 h2 _) ?_|refine zB ?_ ?_<;>intro hc<;>try exact no hc|refine zH ?_ ?_<;>(intro hg;rw[hg];try exact no hg)));all_goals try refine zO fun a w F M=>?_
 all_goals refine zE F M ?_
 have M2:=Mem.roFrom (f:=natL) (k:=1) inferInstance (h:=h2) (xs:=i::r) (j:=1) (L:=pt b [sl h1,sl (fromH h2 1 1),.int .i64 (size:Int)] 145::roT natL 1 (sl h1) []::(R++G)) (M.perms permsA) (by simp)
 exact⟨_,_,rfl,⟨rfl,rfl⟩,rln_close b (h1:=h1) (h2:=fromH h2 1 1) (M2.perms permsA)⟩
theorem rlahead0 (hf:fo.length≤4096):Spec 213 [ptr b,.int .i64 0] (rlnA b size fo vo::R) fun u L'=>∃ h,u=sl h∧L'=ownT 3 natL 1 (sl h) fo::rlnA b size fo vo::R:=by
 intro G w M
 obtain ⟨h1,h2,M2,e1,e2⟩:=rln_open b M
 clear M;have M:=M2;clear M2
 (refine zGe Tryz.func213 ?_;intro a F;(try simp only[zc,zn] at M))
 (try refine zI zk213 F M ?_;clear F M a;try clear w);(repeat'(first|refine zA ?_;repeat intro nb|refine zC ?_;refine ac_appendE (f:=natL) (ys:=fo) rfl rfl inferInstance rfl rfl pullA inferInstance gsA rfl rfl (by simp;omega) ?_;intro nv|refine zB ?_ ?_<;>intro hc<;>try exact no hc|refine zH ?_ ?_<;>(intro hg;rw[hg];try exact no hg)));all_goals try refine zO fun a w F M=>?_
 all_goals refine zE F M ?_
 have M2:=rln_close b (h1:=h1) (h2:=h2) (L:=ownT 3 natL 1 (sl nv) fo::(R++G)) (M.perms permsA)
 exact⟨_,_,rfl,⟨nv,rfl,rfl⟩,M2.perms permsA⟩
theorem rlahead1 (hf:fo.length≤4096) (hv:vo.length≤4096):Spec 213 [ptr b,.int .i64 1] (rlnA b size fo vo::R) fun u L'=>∃ h,u=sl h∧L'=ownT 3 natL 1 (sl h) (fo++vo)::rlnA b size fo vo::R:=by
 intro G w M
 obtain ⟨h1,h2,M2,e1,e2⟩:=rln_open b M
 clear M;have M:=M2;clear M2
 (refine zGe Tryz.func213 ?_;intro a F;(try simp only[zc,zn] at M))
 (try refine zI zk213 F M ?_;clear F M a;try clear w);(repeat'(first|refine zA ?_;repeat intro nb|refine zC ?_;(first|refine ac_appendE (f:=natL) (ys:=fo) rfl rfl inferInstance rfl rfl pullA inferInstance gsA rfl rfl (by simp;omega) ?_;intro nv|refine ac_appendH (f:=natL) (xs:=fo) (ys:=vo) rfl rfl inferInstance rfl rfl pullA inferInstance gsA rfl rfl (by simp;omega) ?_;intro nv2)|refine zB ?_ ?_<;>intro hc<;>try exact no hc|refine zH ?_ ?_<;>(intro hg;rw[hg];try exact no hg)));all_goals try refine zO fun a w F M=>?_
 all_goals refine zE F M ?_
 have M2:=rln_close b (h1:=h1) (h2:=h2) (L:=ownT 3 natL 1 (sl nv2) (fo++vo)::(R++G)) (M.perms permsA)
 exact⟨_,_,rfl,⟨nv2,rfl,rfl⟩,M2.perms permsA⟩
theorem rlenC (cl:Nat) (hcl:cl≤1):Spec 144 [ptr b,.int .i64 cl] (rlnA b size fo vo::R) fun u L'=>∃ p c,u=.slice p (if cl=0 then fo else vo).length c∧L'=rlnA b size fo vo::R:=by
 rcases (by omega:cl=0∨cl=1) with rfl|rfl
 ·exact rlen0 b R size fo vo
 ·exact rlen1 b R size fo vo
theorem rlaheadC (cl:Nat) (hcl:cl≤1) (hf:fo.length≤4096) (hv:vo.length≤4096):Spec 213 [ptr b,.int .i64 cl] (rlnA b size fo vo::R) fun u L'=>∃ h,u=sl h∧L'=ownT 3 natL 1 (sl h) (if cl=0 then fo else fo++vo)::rlnA b size fo vo::R:=by
 rcases (by omega:cl=0∨cl=1) with rfl|rfl
 ·exact rlahead0 b R size fo vo hf
 ·exact rlahead1 b R size fo vo hf hv
theorem rlpushC (cl:Nat) (hcl:cl≤1) (i:Nat) (hf:(if cl=0 then fo else vo).length<size) (hs:size≤4096):Spec 147 [ptr b,.int .i64 cl,.int .i64 i] (rlnA b size fo vo::R) fun u L'=>u=.int .i64 0∧L'=rlnA b size (if cl=0 then fo++[i] else fo) (if cl=0 then vo else vo++[i])::R:=by
 rcases (by omega:cl=0∨cl=1) with rfl|rfl
 ·exact rlpush0 b R size fo vo i hf hs
 ·exact rlpush1 b R size fo vo i hf hs
end
end
end
section
open Go.RowKit
theorem actv_take (V:List Val) (h0:∀ x∈bals V,0≤x) (k:Nat):0≤actv (V.take k)∧actv (V.take k)≤actv V:=by
 have e:actv V=actv (V.take k)+actv (V.drop k):=by
  conv=>lhs;rw[← List.take_append_drop k V]
  unfold actv bals
  rw[List.filter_append,List.map_append,sum_app]
 have h1:=actv_le (V.take k) fun x hx=>h0 x (by unfold bals at hx ⊢;rw[List.map_take] at hx;exact List.mem_of_mem_take hx)
 have h2:=actv_le (V.drop k) fun x hx=>h0 x (by unfold bals at hx ⊢;rw[List.map_drop] at hx;exact List.mem_of_mem_drop hx)
 omega
section
variable (V:List Val) (v:Value) (R:List Asn) (hg:GS R 7 v V.length (V.flatMap valL)) (hlen:V.length≤1000000)
include hg hlen
theorem rput_spec (i:Nat) (x old:Val) (hi:V[i]? = some old):Spec 146 [v,.int .i64 i,valV x] R fun u L'=>∃ h,u=sl h∧L'=ownT 62 valL 7 (sl h) (V.set i x)::R:=by
 have hil:i<V.length:=(List.getElem?_eq_some_iff.1 hi).1
 refine zGo Tryz.func146 ?_;intro G w M a F
 have hG:GS (R++G) 7 v V.length (V.flatMap valL):=Gives.app hg
 (try refine zI zk146 F M ?_;clear F M a;try clear w);(repeat'(first|refine zA ?_;repeat intro nb|refine zC ?_;(first|refine ac_appendE (f:=valL) (ys:=V) rfl rfl inferInstance rfl rfl pullA inferInstance gsA rfl rfl (by simp;omega) ?_;intro nv|refine ac_storeEA (f:=valL) (v:=sl nv) (j:=i) (k:=7) rfl rfl inferInstance x rfl hi inferInstance (by(focus ((repeat (first|exact Rep.here|apply Rep.there));done))) ?_)|refine zB ?_ ?_<;>intro hc<;>try exact no hc|refine zH ?_ ?_<;>(intro hg;rw[hg];try exact no hg)));all_goals try refine zO fun a w F M=>?_
 (all_goals(refine zE F M ?_;exact⟨_,_,rfl,⟨nv,rfl,rfl⟩,M.perms permsA⟩))
theorem ractive_spec (h0:∀ x∈bals V,0≤x) (hs:actv V≤18446744073709551615):Spec 62 [v] R fun u L'=>u=.int .u64 (actv V)∧L'=R:=by
 have hat:=actv_take V h0
 refine zGo Tryz.func62 ?_;intro G w M a F
 have hG:GS (R++G) 7 v V.length (V.flatMap valL):=Gives.app hg
 (try refine zI zk62 F M ?_;clear F M a;try clear w);(repeat'(first|refine zA ?_;repeat intro nb|refine zB ?_ ?_<;>intro hc<;>try exact no hc|refine zH ?_ ?_<;>(intro hg;rw[hg];try exact no hg)));all_goals try refine zO fun a w F M=>?_
 refine svLoop F M (0:Nat) (fun k=>[(4,.int .i64 k),(3,.int .u64 (actv (V.take k)))]) (fun _=>[]) (fun k=>k≤V.length) (fun k=>V.length - k) [] (Nat.zero_le _) ?_
 (rintro k q1 a w F M;(try simp only[zc,zn] at F M q1 ⊢))
 by_cases hlt:k<V.length
 ·obtain ⟨x,hx⟩:∃ x,V[k]? = some x:=⟨V[k],by simp[hlt]⟩
  have hlv:=fun R=>rlive_spec x.st R
  rw[show(decide (x.st=2) || decide (x.st=3))=x.live from rfl] at hlv
  have ht:actv (V.take (k+1))=actv (V.take k)+(if x.live=true then x.bal else 0):=by
   unfold actv bals
   rw[List.take_add_one,hx,List.filter_append];cases hp:x.live<;>simp[hp]
  have hx0:0≤x.bal:=h0 _ (List.mem_of_getElem? (bals_get hx))
  have ha:=hat k
  have hb:=hat (k+1)
  cases hp:x.live
  all_goals rw[hp] at hlv ht
  ·rw[if_neg (by decide),Int.add_zero] at ht
   (try refine zI zk62 F M ?_;clear F M a;try clear w);(repeat'(first|refine zA ?_;repeat intro nb|refine zC ?_;refine kpW (k:=120) (hlv _) ?_|refine zB ?_ ?_<;>intro hc<;>try exact no hc|refine zH ?_ ?_<;>(intro hg;rw[hg];try exact no hg)));all_goals try refine zO fun a w F M=>?_
   rw[← ht] at F
   exact sv_again F M (k+1) kpA permsA (by omega) (by omega)
  ·rw[if_pos rfl] at ht
   (try refine zI zk62 F M ?_;clear F M a;try clear w);(repeat'(first|refine zA ?_;repeat intro nb|refine zC ?_;refine kpW (k:=120) (hlv _) ?_|refine zB ?_ ?_<;>intro hc<;>try exact no hc|refine zH ?_ ?_<;>(intro hg;rw[hg];try exact no hg)));all_goals try refine zO fun a w F M=>?_
   rw[← ht] at F
   exact sv_again F M (k+1) kpA permsA (by omega) (by omega)
 ·obtain rfl:k=V.length:=by omega
  rw[List.take_length] at F
  (try refine zI zk62 F M ?_;clear F M a;try clear w);(repeat'(first|refine zA ?_;repeat intro nb|refine zB ?_ ?_<;>intro hc<;>try exact no hc|refine zH ?_ ?_<;>(intro hg;rw[hg];try exact no hg)));all_goals exact zXz
theorem rsame7_spec (v2:Value) (hg2:GS R 7 v2 V.length (V.flatMap valL)):Spec 61 [v,v2] R fun u L'=>u=.bool true∧L'=R:=by
 refine zGo Tryz.func61 ?_;intro G w M a F
 have hG:GS (R++G) 7 v V.length (V.flatMap valL):=Gives.app hg
 have hH:GS (R++G) 7 v2 V.length (V.flatMap valL):=Gives.app hg2
 (try refine zI zk61 F M ?_;clear F M a;try clear w);(repeat'(first|refine zA ?_;repeat intro nb|refine zB ?_ ?_<;>intro hc<;>try exact no hc|refine zH ?_ ?_<;>(intro hg;rw[hg];try exact no hg)));all_goals try refine zO fun a w F M=>?_
 refine svLoop F M (0:Nat) (fun k=>[(5,.int .i64 k)]) (fun _=>[]) (fun k=>k≤V.length) (fun k=>V.length - k) [] (Nat.zero_le _) ?_
 (rintro k q1 a w F M;(try simp only[zc,zn] at F M q1 ⊢))
 by_cases hlt:k<V.length
 ·obtain ⟨x,hx⟩:∃ x,V[k]? = some x:=⟨V[k],by simp[hlt]⟩
  have hne:decide (x≠x)=false:=by simp
  (try refine zI zk61 F M ?_;clear F M a;try clear w);(repeat'(first|refine zV (h:=⟨_,by((apply(rt_neqT (f:=valL) (p:=x) (q:=x));(exact rfl);(exact rfl);(exact rfl);(exact inferInstance);(exact inferInstance))),?_⟩)|refine zA1 ?_;repeat intro(nb:Nat)|refine zB ?_ ?_<;>intro hc<;>try exact no hc|refine zH ?_ ?_<;>(intro hg;rw[hg];try exact no hg)));all_goals try refine zO fun a w F M=>?_
  all_goals first|(exfalso;simp_all;done)|skip
  exact sv_again F M (k+1) kpA permsA (by omega) (by omega)
 ·obtain rfl:k=V.length:=by omega
  (try refine zI zk61 F M ?_;clear F M a;try clear w);(repeat'(first|refine zA ?_;repeat intro nb|refine zB ?_ ?_<;>intro hc<;>try exact no hc|refine zH ?_ ?_<;>(intro hg;rw[hg];try exact no hg)));all_goals exact zXz
end
section
variable (W:List Int) (v:Value) (R:List Asn) (hg:GS R 1 v W.length (W.flatMap u64L))
include hg
theorem rof_spec (i:Nat):Spec 291 [v,.int .i64 i] R fun u L'=>u=.int .u64 (wAt W i)∧L'=R:=by
 have hwa:wAt W i=(W[i]?).getD 0:=by unfold wAt;rw[List.getD_eq_getElem?_getD]
 refine zGo Tryz.func291 ?_;intro G w M a F
 have hG:GS (R++G) 1 v W.length (W.flatMap u64L):=Gives.app hg
 by_cases hlt:i<W.length
 ·obtain ⟨x,hx⟩:∃ x,W[i]? = some x:=⟨W[i],by simp[hlt]⟩
  rw[hx] at hwa
  (try refine zI zk291 F M ?_;clear F M a;try clear w);(repeat'(first|refine zA ?_;repeat intro nb|refine zB ?_ ?_<;>intro hc<;>try exact no hc|refine zH ?_ ?_<;>(intro hg;rw[hg];try exact no hg)));all_goals try refine zO fun a w F M=>?_
  (all_goals(refine zE F M ?_;exact⟨_,_,rfl,⟨by rw[hwa];rfl,rfl⟩,M.perms permsA⟩))
 ·rw[List.getElem?_eq_none (by omega)] at hwa
  (try refine zI zk291 F M ?_;clear F M a;try clear w);(repeat'(first|refine zA ?_;repeat intro nb|refine zB ?_ ?_<;>intro hc<;>try exact no hc|refine zH ?_ ?_<;>(intro hg;rw[hg];try exact no hg)));all_goals try refine zO fun a w F M=>?_
  (all_goals(refine zE F M ?_;exact⟨_,_,rfl,⟨by rw[hwa];rfl,rfl⟩,M.perms permsA⟩))
theorem rweight_spec (hW:∀ x∈W,U64 x) (l:List Nat) (vi:Value) (hi:GS R 1 vi l.length (l.flatMap natL)) (hl:l.length≤100000):Spec 211 [v,vi] R fun u L'=>u=.tuple [.int .u64 (addR (l.map (wAt W))).1,.bool (addR (l.map (wAt W))).2].toArray∧L'=R:=by
 have hww:∀ z∈l.map (wAt W),U64 z:=fun z hz=>by
  obtain ⟨i,_,rfl⟩:=List.mem_map.1 hz
  exact wAt_u64 hW i
 have ha:∀ {L:List Asn} {v:Value},GS L 1 v (l.map (wAt W)).length ((l.map (wAt W)).flatMap u64L)→Reads 207 [v] (.tuple [.int .u64 (addR (l.map (wAt W))).1,.bool (addR (l.map (wAt W))).2].toArray) L:=fun hg=>radd_reads _ _ hww hg
 generalize addR (l.map (wAt W))=X at *
 obtain ⟨X1,X2⟩:=X
 refine zGo Tryz.func211 ?_;intro G w M a F
 have hG:GS (R++G) 1 v W.length (W.flatMap u64L):=Gives.app hg
 have hI:GS (R++G) 1 vi l.length (l.flatMap natL):=Gives.app hi
 have M:=M.own_nil 22 1
 (try refine zI zk211 F M ?_;clear F M a;try clear w);(repeat'(first|refine zA ?_;repeat intro nb|refine zB ?_ ?_<;>intro hc<;>try exact no hc|refine zH ?_ ?_<;>(intro hg;rw[hg];try exact no hg)));all_goals try refine zO fun a w F M=>?_
 refine svLoop F M ((0,nilH):Nat × SlH) (fun s=>[(7,.int .i64 s.1),(6,sl s.2)]) (fun s=>[ownT 22 u64L 1 (sl s.2) ((l.take s.1).map (wAt W))]) (fun s=>s.1≤l.length) (fun s=>l.length - s.1) [] (Nat.zero_le _) ?_ (hR:=by simp only[List.take_zero,List.map_nil];(repeat (first|exact Pulls.nil|(apply Pulls.cons;(focus ((repeat (first|exact Pull.here|apply Pull.there));done))))))
 (rintro⟨k,h⟩ q1 a w F M;(try simp only[zc,zn] at F M q1 ⊢))
 by_cases hlt:k<l.length
 ·obtain ⟨x,hx⟩:∃ x,l[k]? = some x:=⟨l[k],by simp[hlt]⟩
  have ht:=take_map (f:=wAt W) hx
  have htl:((l.take k).map (wAt W)).length≤100000:=by rw[List.length_map,List.length_take];omega
  have hwt:=fun (R:List Asn) (hg:GS R 1 v W.length (W.flatMap u64L))=>rof_spec W v R hg x
  (try refine zI zk211 F M ?_;clear F M a;try clear w);(repeat'(first|refine zA ?_;repeat intro nb|refine zC ?_;(first|refine acW (k:=291) (hwt _ ?_) ?_;exact gsA;rintro u L' ⟨rfl,rfl⟩|refine ac_appendH rfl rfl inferInstance rfl rfl pullA inferInstance (ys:=[wAt W x]) gsA rfl rfl (by simp;omega) ?_;intro nv)|refine zB ?_ ?_<;>intro hc<;>try exact no hc|refine zH ?_ ?_<;>(intro hg;rw[hg];try exact no hg)));all_goals try refine zO fun a w F M=>?_
  rw[← ht] at M
  refine sv_again F M (k+1,nv) kpA permsA (by simp only;omega) (by simp only;omega)
 ·obtain rfl:k=l.length:=by omega
  rw[List.take_length] at M
  (try refine zI zk211 F M ?_;clear F M a;try clear w);(repeat'(first|refine zA ?_;repeat intro nb|refine zC ?_;refine acCall (k:=207) ?_;refine Spec.of_reads (ha (gs_own pullA)) rfl ?_|refine zB ?_ ?_<;>intro hc<;>try exact no hc|refine zH ?_ ?_<;>(intro hg;rw[hg];try exact no hg)));all_goals exact zXz
end
section
variable (ln mt size:Nat) (W:List Int) (v:Value) (R:List Asn) (hg:GS R 1 v W.length (W.flatMap u64L)) (hW:∀ x∈W,U64 x) (fo vo:List Nat) (hf:fo.length≤4096) (hv:vo.length≤4096) (ca x ep:Int) (hca:U64 ca) (hx:U64 x) (hep:0≤ep∧ep≤1099511627776)
include hg hW hf hv hca hx hep
theorem rastep_spec:Spec 220 [.int .i64 ep,ptr ln,ptr mt,.int .u64 x,v] (rmtA mt ca::rlnA ln size fo vo::R) fun u L'=>∃ h,u=sl h∧L'=ownT 335 asgL 3 (sl h) (asgs (ep+1) fo vo (takeW W (granted ca x) (fo++vo)).1)::rmtA mt (if (takeW W (granted ca x) (fo++vo)).1=(fo++vo).length then 0 else (takeW W (granted ca x) (fo++vo)).2)::rlnA ln size (fo.drop (takeW W (granted ca x) (fo++vo)).1) (vo.drop ((takeW W (granted ca x) (fo++vo)).1 - fo.length))::R:=by
 have hgr:=fun R=>rmt_grant mt R ca x hca hx
 have hx0:=hx.1
 have hG1:U64 (granted ca x):=by have:=hca.1;have:=hca.2;unfold granted;exact⟨by omega,by omega⟩
 have hI:AsI W (ep+1) fo vo (takeW W (granted ca x) (fo++vo)) fo vo (granted ca x) []:=⟨by simp,rfl,rfl,rfl,Iff.rfl⟩
 generalize takeW W (granted ca x) (fo++vo)=T at *
 generalize granted ca x=g at *
 refine zGo Tryz.func220 ?_;intro G w M a F
 have hG:GS (R++G) 1 v W.length (W.flatMap u64L):=Gives.app hg
 have M:=M.own_nil 335 3
 (try refine zI zk220 F M ?_;clear F M a;try clear w);(repeat'(first|refine zA ?_;repeat intro nb|refine zC ?_;refine kp (k:=295) (hgr _) ?_|refine zB ?_ ?_<;>intro hc<;>try exact no hc|refine zH ?_ ?_<;>(intro hg;rw[hg];try exact no hg)));all_goals try refine zO fun a w F M=>?_
 refine svLoop F M ((fo,vo,g,nilH,[]):List Nat × List Nat × Int × SlH × List Asg) (fun s=>[(11,sl s.2.2.2.1)]) (fun s=>[ownT 335 asgL 3 (sl s.2.2.2.1) s.2.2.2.2,rmtA mt s.2.2.1,rlnA ln size s.1 s.2.1]) (fun s=>s.1.length+s.2.1.length+s.2.2.2.2.length≤8192∧U64 s.2.2.1∧AsI W (ep+1) fo vo T s.1 s.2.1 s.2.2.1 s.2.2.2.2) (fun s=>s.1.length+s.2.1.length) [] ⟨by simp;omega,hG1,hI⟩ ?_ (hR:=by(repeat (first|exact Pulls.nil|(apply Pulls.cons;(focus ((repeat (first|exact Pull.here|apply Pull.there));done))))))
 (rintro⟨f,vv,m,h,out⟩ ⟨q1,q2,q3⟩ a w F M;(try simp only[zc,zn] at F M q1 q2 q3 ⊢))
 obtain ⟨o1,o2,o3,o4,o5⟩:=q3
 have fin:∀ {w:World} {z:Int} {f2 v2:List Nat},f2=fo.drop T.1→v2=vo.drop (T.1 - fo.length)→out=asgs (ep+1) fo vo T.1→z=(if T.1=(fo++vo).length then 0 else T.2)→Mem w (ownT 335 asgL 3 (sl h) out::rmtA mt z::rlnA ln size f2 v2::(R++G))→Mem w (ownT 335 asgL 3 (sl h) (asgs (ep+1) fo vo T.1)::rmtA mt (if T.1=(fo++vo).length then 0 else T.2)::rlnA ln size (fo.drop T.1) (vo.drop (T.1 - fo.length))::(R++G)):=by
  intro w z f2 v2 e1 e2 e3 e4 M
  subst e1;subst e2;rw[← e3,← e4];exact M
 have wsp:=fun (i:Nat) (R:List Asn) hg=>rof_spec W v R hg i
 have tsp:=fun (y:Int) (hy:U64 y) R=>rmt_take mt R m y q2 hy
 cases f with
 | cons i f =>
  have hwu:=wAt_u64 hW i
  have ts:=fun R=>tsp _ hwu R
  have ws:=fun R hg=>wsp i R hg
  have hlf:=fun R=>rlhead_f ln R size i f vv
  rw[zc,takeW] at o1 o2 o3 o4 o5
  by_cases hle:wAt W i≤m
  ·simp only[hle,if_true,decide_true] at ts o1 o2 o3 o4 o5
   generalize wAt W i=z at *
   (try refine zI zk220 F M ?_;clear F M a;try clear w);(repeat'(first|refine zA ?_;repeat intro nb|refine zC ?_;(first|refine acW (k:=291) (ws _ ?_) ?_;exact gsA;rintro u L' ⟨rfl,rfl⟩|refine kp (k:=298) (ts _) ?_|refine kp (k:=299) (rlpop_f ln _ size i f vv) ?_|refine kp (k:=296) (hlf _) ?_|refine ac_appendH (f:=asgL) (xs:=out) (ys:=[⟨(i:Int),0,ep+1⟩]) rfl rfl inferInstance rfl rfl pullA inferInstance gsA rfl rfl (by simp;omega) ?_;intro nv)|refine zB ?_ ?_<;>intro hc<;>try exact no hc|refine zH ?_ ?_<;>(intro hg;rw[hg];try exact no hg)));all_goals try refine zO fun a w F M=>?_
   refine sv_again F M (f,vv,m - z,nv,_) kpA permsA ⟨by simp at q1 ⊢;omega,⟨by simp only;omega,by have:=q2.2;have:=hwu.1;simp only;omega⟩,?_⟩ (by simp)
   exact⟨by rw[asgs_f] at o1;simpa using o1,by simpa using o2,by simpa using o3,o4,by simpa using o5⟩
  ·simp only[hle,if_false,decide_false] at ts o1 o2 o3 o4 o5
   (try refine zI zk220 F M ?_;clear F M a;try clear w);(repeat'(first|refine zA ?_;repeat intro nb|refine zC ?_;(first|refine acW (k:=291) (ws _ ?_) ?_;exact gsA;rintro u L' ⟨rfl,rfl⟩|refine kp (k:=298) (ts _) ?_|refine kp (k:=296) (hlf _) ?_)|refine zB ?_ ?_<;>intro hc<;>try exact no hc|refine zH ?_ ?_<;>(intro hg;rw[hg];try exact no hg)));all_goals try refine zO fun a w F M=>?_
   all_goals refine zE F M ?_
   refine⟨_,_,rfl,⟨h,rfl,rfl⟩,fin ?_ ?_ ?_ ?_ (M.perms permsA)⟩
   ·simpa using o2
   ·simpa using o3
   ·simpa[asgs_z] using o1
   ·rw[if_neg (by intro e;have:=o5.2 e;simp at this)];exact o4
 | nil =>
  cases vv with
  | cons i vv =>
   have hwu:=wAt_u64 hW i
   have ts:=fun R=>tsp _ hwu R
   have ws:=fun R hg=>wsp i R hg
   have hlf:=fun R=>rlhead_v ln R size i vv
   rw[zn,takeW] at o1 o2 o3 o4 o5
   by_cases hle:wAt W i≤m
   ·simp only[hle,if_true,decide_true] at ts o1 o2 o3 o4 o5
    generalize wAt W i=z at *
    (try refine zI zk220 F M ?_;clear F M a;try clear w);(repeat'(first|refine zA ?_;repeat intro nb|refine zC ?_;(first|refine acW (k:=291) (ws _ ?_) ?_;exact gsA;rintro u L' ⟨rfl,rfl⟩|refine kp (k:=298) (ts _) ?_|refine kp (k:=299) (rlpop_v ln _ size i vv) ?_|refine kp (k:=296) (hlf _) ?_|refine ac_appendH (f:=asgL) (xs:=out) (ys:=[⟨(i:Int),1,ep+1⟩]) rfl rfl inferInstance rfl rfl pullA inferInstance gsA rfl rfl (by simp;omega) ?_;intro nv)|refine zB ?_ ?_<;>intro hc<;>try exact no hc|refine zH ?_ ?_<;>(intro hg;rw[hg];try exact no hg)));all_goals try refine zO fun a w F M=>?_
    refine sv_again F M ([],vv,m - z,nv,_) kpA permsA ⟨by simp at q1 ⊢;omega,⟨by simp only;omega,by have:=q2.2;have:=hwu.1;simp only;omega⟩,?_⟩ (by simp)
    exact⟨by rw[asgs_v] at o1;simpa using o1,by simpa using o2,by simpa using o3,o4,by simpa using o5⟩
   ·simp only[hle,if_false,decide_false] at ts o1 o2 o3 o4 o5
    (try refine zI zk220 F M ?_;clear F M a;try clear w);(repeat'(first|refine zA ?_;repeat intro nb|refine zC ?_;(first|refine acW (k:=291) (ws _ ?_) ?_;exact gsA;rintro u L' ⟨rfl,rfl⟩|refine kp (k:=298) (ts _) ?_|refine kp (k:=296) (hlf _) ?_)|refine zB ?_ ?_<;>intro hc<;>try exact no hc|refine zH ?_ ?_<;>(intro hg;rw[hg];try exact no hg)));all_goals try refine zO fun a w F M=>?_
    all_goals refine zE F M ?_
    refine⟨_,_,rfl,⟨h,rfl,rfl⟩,fin ?_ ?_ ?_ ?_ (M.perms permsA)⟩
    ·simpa using o2
    ·simpa using o3
    ·simpa[asgs_z] using o1
    ·rw[if_neg (by intro e;have:=o5.2 e;simp at this)];exact o4
  | nil =>
   have hlf:=fun R=>rlhead_n ln R size
   rw[zn,takeW] at o1 o2 o3 o4 o5
   (try refine zI zk220 F M ?_;clear F M a;try clear w);(repeat'(first|refine zA ?_;repeat intro nb|refine zC ?_;(first|refine kp (k:=297) (rmt_drop mt _ m) ?_|refine kp (k:=296) (hlf _) ?_)|refine zB ?_ ?_<;>intro hc<;>try exact no hc|refine zH ?_ ?_<;>(intro hg;rw[hg];try exact no hg)));all_goals try refine zO fun a w F M=>?_
   all_goals refine zE F M ?_
   refine⟨_,_,rfl,⟨h,rfl,rfl⟩,fin ?_ ?_ ?_ ?_ (M.perms permsA)⟩
   ·simpa using o2
   ·simpa using o3
   ·simpa[asgs_z] using o1
   ·rw[if_pos (o5.1 rfl)]
end
section
variable (W:List Int) (v:Value) (R:List Asn) (hg:GS R 1 v W.length (W.flatMap u64L)) (hW:∀ x∈W,U64 x) (l:List Nat) (hl:SlH) (hgl:GS R 1 (sl hl) l.length (l.flatMap natL)) (hln:l.length≤4096) (hlc:l.length≤hl.c) (lim:Int) (hlim:U64 lim)
include hg hW hgl hln hlc hlim
theorem ractn_spec:Spec 222 [sl hl,.int .u64 lim,v] R fun u L'=>u=.int .i64 (actN W lim l)∧L'=R:=by
 have hww:∀ (r:List Nat),∀ z∈r.map (wAt W),0≤z:=fun r z hz=>by
  obtain ⟨i,_,rfl⟩:=List.mem_map.1 hz
  exact(wAt_u64 hW i).1
 have hwe:=fun (r:List Nat) (hr:r.length≤100000) (vi:Value) (R:List Asn) hg hi=>rweight_spec W v R hg hW r vi hi hr
 generalize hN:actN W lim l=N
 refine zGo Tryz.func222 ?_;intro G w M a F
 have hG:GS (R++G) 1 v W.length (W.flatMap u64L):=Gives.app hg
 have hL:GS (R++G) 1 (sl hl) l.length (l.flatMap natL):=Gives.app hgl
 (try refine zI zk222 F M ?_;clear F M a;try clear w);(repeat'(first|refine zA ?_;repeat intro nb|refine zB ?_ ?_<;>intro hc<;>try exact no hc|refine zH ?_ ?_<;>(intro hg;rw[hg];try exact no hg)));all_goals try refine zO fun a w F M=>?_
 refine svLoop F M (0:Nat) (fun k=>[(7,.int .i64 k)]) (fun _=>[]) (fun k=>k≤l.length∧(k=0∨N=k+actGo W lim ((l.take k).map (wAt W)).sum (l.drop k)∧((l.take k).map (wAt W)).sum≤18446744073709551615)) (fun k=>l.length - k) [] ⟨Nat.zero_le _,.inl rfl⟩ ?_
 (rintro k ⟨q1,q2⟩ a w F M;(try simp only[zc,zn] at F M q1 q2 ⊢))
 by_cases hlt:k<l.length
 ·obtain ⟨x,hx⟩:∃ x,l[k]? = some x:=⟨l[k],by simp[hlt]⟩
  have hwx:=wAt_u64 hW x
  have ht:((l.take (k+1)).map (wAt W)).sum=((l.take k).map (wAt W)).sum+wAt W x:=by rw[take_map (f:=wAt W) hx,sum_app];simp
  have h0:=sum_nonneg _ (hww (l.take k))
  have hw:=fun (R:List Asn) hg hi=>hwe (l.take (k+1)) (by rw[List.length_take];omega) (sl ⟨hl.a,k+1,hl.c⟩) R hg hi
  rw[addR_sum _ (hww _),ht] at hw
  have hI:=gs_toT (f:=natL) inferInstance hL (j:=k+1) (by omega)
  have hkc:k+1≤hl.c:=by omega
  by_cases hk0:k=0
  ·have hS:((l.take k).map (wAt W)).sum=0:=by subst hk0;rfl
   rw[hS,Int.zero_add] at hw ht
   rw[if_neg (by have:=hwx.2;omega)] at hw
   have hnx:N=(k+1:Nat)+actGo W lim ((l.take (k+1)).map (wAt W)).sum (l.drop (k+1)):=by
    rw[← hN,ht]
    subst hk0
    cases l with
    | nil=>simp at hlt
    | cons y r =>
     obtain rfl:y=x:=by simpa using hx
     simp[actN];omega
   have hk1:¬((k:Int)>0):=by omega
   (try refine zI zk222 F M ?_;clear F M a;try clear w);(repeat'(first|refine zV (h:=⟨_,by((exact rt_to (j:=k+1) rfl rfl rfl inferInstance hkc)),?_⟩)|refine zA1 ?_;repeat intro(nb:Nat)|refine zC ?_;refine acW (k:=211) (hw _ ?_ ?_) ?_;exact gsA;exact gsA;rintro u L' ⟨rfl,rfl⟩|refine zB ?_ ?_<;>intro hc<;>try exact no hc|refine zH ?_ ?_<;>(intro hg;rw[hg];try exact no hg)));all_goals try refine zO fun a w F M=>?_
   all_goals first|(exfalso;simp_all;done)|skip
   exact sv_again F M (k+1) kpA permsA ⟨by omega,.inr ⟨hnx,by rw[ht];exact hwx.2⟩⟩ (by omega)
  ·rcases q2 with q2|⟨e,hs⟩
   ·exact absurd q2 hk0
   have hk1:(k:Int)>0:=by omega
   rw[drop_cons hx,actGo] at e
   by_cases c2:18446744073709551615<((l.take k).map (wAt W)).sum+wAt W x
   ·rw[if_pos (.inr c2)] at e
    rw[if_pos c2] at hw
    (try refine zI zk222 F M ?_;clear F M a;try clear w);(repeat'(first|refine zV (h:=⟨_,by((exact rt_to (j:=k+1) rfl rfl rfl inferInstance hkc)),?_⟩)|refine zA1 ?_;repeat intro(nb:Nat)|refine zC ?_;refine acW (k:=211) (hw _ ?_ ?_) ?_;exact gsA;exact gsA;rintro u L' ⟨rfl,rfl⟩|refine zB ?_ ?_<;>intro hc<;>try exact no hc|refine zH ?_ ?_<;>(intro hg;rw[hg];try exact no hg)));all_goals try refine zO fun a w F M=>?_
    (all_goals(refine zE F M ?_;exact⟨_,_,rfl,⟨by rw[e];rfl,rfl⟩,M.perms permsA⟩))
   ·rw[if_neg c2] at hw
    by_cases c1:lim<((l.take k).map (wAt W)).sum+wAt W x
    ·rw[if_pos (.inl c1)] at e
     generalize ((l.take k).map (wAt W)).sum=S at *
     (try refine zI zk222 F M ?_;clear F M a;try clear w);(repeat'(first|refine zV (h:=⟨_,by((exact rt_to (j:=k+1) rfl rfl rfl inferInstance hkc)),?_⟩)|refine zA1 ?_;repeat intro(nb:Nat)|refine zC ?_;refine acW (k:=211) (hw _ ?_ ?_) ?_;exact gsA;exact gsA;rintro u L' ⟨rfl,rfl⟩|refine zB ?_ ?_<;>intro hc<;>try exact no hc|refine zH ?_ ?_<;>(intro hg;rw[hg];try exact no hg)));all_goals try refine zO fun a w F M=>?_
     (all_goals(refine zE F M ?_;exact⟨_,_,rfl,⟨by rw[e];rfl,rfl⟩,M.perms permsA⟩))
    ·rw[if_neg (by omega)] at e
     have hnx:N=(k+1:Nat)+actGo W lim ((l.take (k+1)).map (wAt W)).sum (l.drop (k+1)):=by rw[ht];omega
     rw[ht] at hnx
     generalize ((l.take k).map (wAt W)).sum=S at *
     (try refine zI zk222 F M ?_;clear F M a;try clear w);(repeat'(first|refine zV (h:=⟨_,by((exact rt_to (j:=k+1) rfl rfl rfl inferInstance hkc)),?_⟩)|refine zA1 ?_;repeat intro(nb:Nat)|refine zC ?_;refine acW (k:=211) (hw _ ?_ ?_) ?_;exact gsA;exact gsA;rintro u L' ⟨rfl,rfl⟩|refine zB ?_ ?_<;>intro hc<;>try exact no hc|refine zH ?_ ?_<;>(intro hg;rw[hg];try exact no hg)));all_goals try refine zO fun a w F M=>?_
     all_goals first|(exfalso;simp_all;done)|skip
     exact sv_again F M (k+1) kpA permsA ⟨by omega,.inr ⟨by rw[ht];exact hnx,by rw[ht];omega⟩⟩ (by omega)
 ·obtain rfl:k=l.length:=by omega
  have hN2:N=l.length:=by
   rcases q2 with q2|⟨q2,_⟩
   ·rw[← hN];have:l=[]:=List.eq_nil_of_length_eq_zero q2;rw[this];rfl
   ·rw[List.drop_length] at q2;simpa[actGo] using q2
  (try refine zI zk222 F M ?_;clear F M a;try clear w);(repeat'(first|refine zA ?_;repeat intro nb|refine zB ?_ ?_<;>intro hc<;>try exact no hc|refine zH ?_ ?_<;>(intro hg;rw[hg];try exact no hg)));all_goals try refine zO fun a w F M=>?_
  (all_goals(refine zE F M ?_;exact⟨_,_,rfl,⟨by rw[hN2];rfl,rfl⟩,M.perms permsA⟩))
end
end
section
open Go.RowKit
theorem rt_rem' {o:Oper} {nn:Nat} {l:List (Nat × Value)} {L:List Asn} {t ty:TypeId} {x y:Operand} {r:Int} (ho:o.op=.binOp .rem t x y ty) {k:IntKind} {m p:Int} (hx:evl l x=some (.int k m)) (hy:evl l y=some (.int k p)) (h0:0≤m) (h1:0<p) (hr:m % p=r):RT o l L nn (.int k r):=hr ▸ rt_rem ho hx hy h0 h1
section
variable (b:Nat) (R:List Asn)
abbrev cyL (b b2 b3:Nat) (n:Nat) (at':Nat) (R:List Asn):List Asn:=pt b2 [ptr b] 115::pt b3 [.int .i64 (n:Int)] 3::cuC b at'::R
theorem cycle_spec (n at':Nat):Spec 275 [ptr b,.int .i64 n] (cuC b at'::R) fun u L'=>∃ b2 b3,u=.func (.func 326) #[] #[ptr b2,ptr b3]∧L'=cyL b b2 b3 n at' R:=by
 refine zGz zk275 Tryz.func275 ?_;intro G;(repeat'(first|refine zA ?_;repeat intro nb|refine zB ?_ ?_<;>intro hc<;>try exact no hc|refine zH ?_ ?_<;>(intro hg;rw[hg];try exact no hg)));all_goals try refine zO fun a w F M=>?_
 (all_goals(refine zE F M ?_;exact⟨_,_,rfl,⟨_,_,rfl,rfl⟩,M.perms permsA⟩))
theorem cycle1_spec (b2 b3 n at':Nat) (hn:1≤n∧n≤4096) (ha:at'≤100000):Spec 326 [ptr b2,ptr b3] (cyL b b2 b3 n at' R) fun u L'=>u=.int .i64 ((at' % n:Nat):Int)∧L'=cyL b b2 b3 n ((at' % n+1) % n) R:=by
 have h1:=Nat.mod_lt at' hn.1
 have e1:(at':Int) % (n:Int)=((at' % n:Nat):Int):=(Int.natCast_emod at' n).symm
 have e2:(((at' % n:Nat):Int)+1) % (n:Int)=(((at' % n+1) % n:Nat):Int):=by rw[Int.natCast_emod (at' % n+1) n,Int.natCast_add];rfl
 generalize at' % n=i at *
 generalize (i+1) % n=j at *
 obtain ⟨n1,n2⟩:=hn
 refine zGz zk326 Tryz.func326 ?_;intro G;(repeat'(first|refine zA ?_;repeat intro nb|refine zB ?_ ?_<;>intro hc<;>try exact no hc|refine zH ?_ ?_<;>(intro hg;rw[hg];try exact no hg)));all_goals try refine zO fun a w F M=>?_
 all_goals refine zE F M ?_
 rw[e1,e2] at M
 exact⟨_,_,rfl,⟨by rw[e1];rfl,rfl⟩,M.perms permsA⟩
def swGo (rd:List Bool) (pays:Nat):Nat→Nat→List Nat→List Nat × Nat × Nat
 | 0,at',l=>(l,0,at')
 | k+1,at',l =>
  if l.length=pays then (l,0,at')
  else
   let i:=at' % rd.length
   let r:=swGo rd pays k ((i+1) % rd.length) (if (rd.getD i false)=true then l++[i] else l)
   (r.1,r.2.1+1,r.2.2)
theorem sweep_spec (v:Value) (rd:List Bool) (vi py at':Nat) (hg:GS R 1 v rd.length (rd.flatMap boL)) (hl:rd.length≤4096) (ha:at'≤4096) (hv:vi≤4096) (hp:1≤py∧py≤4096):Spec 181 [ptr b,v,.int .i64 vi,.int .i64 py] (cuC b at'::R) fun u L'=>∃ h,u=.tuple [sl h,.int .i64 (swGo rd py (min vi rd.length) at' []).2.1].toArray∧L'=ownT 3 natL 1 (sl h) (swGo rd py (min vi rd.length) at' []).1::cuC b (swGo rd py (min vi rd.length) at' []).2.2::R:=by
 obtain ⟨p1,p2⟩:=hp
 by_cases h0:rd.length=0
 ·rw[h0,Nat.min_zero]
  simp only[swGo]
  rw[h0] at hg
  refine zGo Tryz.func181 ?_;intro G w M a F
  have hG:GS (R++G) 1 v 0 (rd.flatMap boL):=Gives.app hg
  have M:=M.own_nil 3 1
  (try refine zI zk181 F M ?_;clear F M a;try clear w);(repeat'(first|refine zA ?_;repeat intro nb|refine zB ?_ ?_<;>intro hc<;>try exact no hc|refine zH ?_ ?_<;>(intro hg;rw[hg];try exact no hg)));all_goals try refine zO fun a w F M=>?_
  all_goals skip
  all_goals refine zE F M ?_
  exact⟨_,_,rfl,⟨nilH,rfl,rfl⟩,M.perms permsA⟩
 ·obtain ⟨m,hm⟩:∃ m,min vi rd.length=m:=⟨_,rfl⟩
  have hmin:(if (rd.length:Int)<(vi:Int) then (rd.length:Int) else (vi:Int))=((m:Nat):Int):=by split<;>omega
  obtain ⟨n,hn⟩:∃ n,rd.length=n:=⟨_,rfl⟩
  rw[hm]
  have hX:∃ X,swGo rd py m at' []=X∧swGo rd py (m - 0) at' []=(X.1,X.2.1 - 0,X.2.2):=⟨_,rfl,rfl⟩
  obtain ⟨⟨X1,X2,X3⟩,hX1,hX⟩:=hX
  rw[hX1]
  simp only at hX ⊢
  have hXm:0≤X2:=Nat.zero_le _
  have hn1:1≤n:=by omega
  have hn2:n≤4096:=by omega
  have hmn:m≤n:=by omega
  rw[hn] at hmin hg
  have hcy:=fun R=>cycle_spec b R n at'
  clear h0 hm
  refine zGo Tryz.func181 ?_;intro G w M a F
  have hG:GS (R++G) 1 v n (rd.flatMap boL):=Gives.app hg
  have M:=M.own_nil 3 1
  (try refine zI zk181 F M ?_;clear F M a;try clear w);(repeat'(first|refine zA ?_;repeat intro nb|refine zC ?_;refine acK (k:=275) (hcy _) ?_;rintro u L' ⟨b2,b3,rfl,rfl⟩|refine zB ?_ ?_<;>intro hc<;>try exact no hc|refine zH ?_ ?_<;>(intro hg;rw[hg];try exact no hg)));all_goals try refine zO fun a w F M=>?_
  refine svLoop F M ((0,at',nilH,[]):Nat × Nat × SlH × List Nat) (fun s=>[(13,.int .i64 s.1),(12,sl s.2.2.1)]) (fun s=>[ownT 3 natL 1 (sl s.2.2.1) s.2.2.2,cuC b s.2.1]) (fun s=>s.1≤m∧s.2.1≤4096∧s.2.2.2.length≤s.1∧swGo rd py (m - s.1) s.2.1 s.2.2.2=(X1,X2 - s.1,X3)∧s.1≤X2) (fun s=>m - s.1) [14] ⟨Nat.zero_le _,ha,Nat.zero_le _,hX,Nat.zero_le _⟩ ?_ (hR:=by(repeat (first|exact Pulls.nil|(apply Pulls.cons;(focus ((repeat (first|exact Pull.here|apply Pull.there));done))))))
  (rintro⟨k,c,h,l⟩ ⟨q1,q2,q3,q4,q5⟩ a w F M;(try simp only[zc,zn] at F M q1 q2 q3 q4 q5 ⊢))
  by_cases hk:k<m
  ·have hk2:m - k=(m - (k+1))+1:=by omega
   rw[hk2,swGo] at q4
   by_cases hlp:l.length=py
   ·rw[if_pos hlp] at q4
    simp only[Prod.mk.injEq] at q4
    obtain ⟨e1,e2,e3⟩:=q4
    have e4:X2=k:=by omega
    (try refine zI zk181 F M ?_;clear F M a;try clear w);(repeat'(first|refine zV (h:=⟨_,by((apply rt_min2;(exact rfl);(exact rfl);(exact hmin))),?_⟩)|refine zA1 ?_;repeat intro(nb:Nat)|refine zC ?_;refine acK (k:=275) (hcy _) ?_;rintro u L' ⟨b2,b3,rfl,rfl⟩|refine zB ?_ ?_<;>intro hc<;>try exact no hc|refine zH ?_ ?_<;>(intro hg;rw[hg];try exact no hg)));all_goals try refine zO fun a w F M=>?_
    all_goals skip
    all_goals refine zE F M ?_
    subst e1;subst e3;subst e4
    exact⟨_,_,rfl,⟨h,rfl,rfl⟩,M.perms permsA⟩
   ·rw[if_neg hlp] at q4
    simp only[hn] at q4
    have hcc:=fun R=>cycle1_spec b R b2 b3 n c ⟨hn1,hn2⟩ (by omega)
    have hi:=Nat.mod_lt c hn1
    have hj:=Nat.mod_lt (c % n+1) hn1
    generalize c % n=i at *
    generalize (i+1) % n=j at *
    obtain ⟨y,hy⟩:∃ y,rd[i]? = some y:=⟨rd[i]'(by omega),by rw[List.getElem?_eq_getElem (by omega)]⟩
    have hgd:rd.getD i false=y:=by rw[List.getD_eq_getElem?_getD,hy];rfl
    rw[hgd] at q4
    have hlp2:¬((l.length:Int)=(py:Int)):=by omega
    cases y
    ·simp only[Bool.false_eq_true,if_false,Prod.mk.injEq] at q4
     obtain ⟨e1,e2,e3⟩:=q4
     (try refine zI zk181 F M ?_;clear F M a;try clear w);(repeat'(first|refine zV (h:=⟨_,by((apply rt_min2;(exact rfl);(exact rfl);(exact hmin))),?_⟩)|refine zA1 ?_;repeat intro(nb:Nat)|refine zC ?_;(first|refine kp (k:=326) (hcc _) ?_|refine ac_appendH (f:=natL) (xs:=l) (ys:=[i]) rfl rfl inferInstance rfl rfl pullA inferInstance gsA rfl rfl (by simp;omega) ?_;intro nv)|refine zB ?_ ?_<;>intro hc<;>try exact no hc|refine zH ?_ ?_<;>(intro hg;rw[hg];try exact no hg)));all_goals try refine zO fun a w F M=>?_
     refine sv_again F M (k+1,j,h,l) kpA permsA ⟨by simp only;omega,by simp only;omega,by simp only;omega,?_,by simp only;omega⟩ (by simp only;omega)
     exact Prod.ext e1 (Prod.ext (by simp only;omega) e3)
    ·simp only[if_true,Prod.mk.injEq] at q4
     obtain ⟨e1,e2,e3⟩:=q4
     (try refine zI zk181 F M ?_;clear F M a;try clear w);(repeat'(first|refine zV (h:=⟨_,by((apply rt_min2;(exact rfl);(exact rfl);(exact hmin))),?_⟩)|refine zA1 ?_;repeat intro(nb:Nat)|refine zC ?_;(first|refine kp (k:=326) (hcc _) ?_|refine ac_appendH (f:=natL) (xs:=l) (ys:=[i]) rfl rfl inferInstance rfl rfl pullA inferInstance gsA rfl rfl (by simp;omega) ?_;intro nv)|refine zB ?_ ?_<;>intro hc<;>try exact no hc|refine zH ?_ ?_<;>(intro hg;rw[hg];try exact no hg)));all_goals try refine zO fun a w F M=>?_
     refine sv_again F M (k+1,j,nv,l++[i]) kpA permsA ⟨by simp only;omega,by simp only;omega,by simp;omega,?_,by simp only;omega⟩ (by simp only;omega)
     exact Prod.ext e1 (Prod.ext (by simp only;omega) e3)
  ·obtain rfl:k=m:=by omega
   rw[Nat.sub_self] at q4
   simp only[swGo,Prod.mk.injEq] at q4
   obtain ⟨e1,e2,e3⟩:=q4
   have e4:X2=k:=by omega
   (try refine zI zk181 F M ?_;clear F M a;try clear w);(repeat'(first|refine zV (h:=⟨_,by((apply rt_min2;(exact rfl);(exact rfl);(exact hmin))),?_⟩)|refine zA1 ?_;repeat intro(nb:Nat)|refine zC ?_;(first|refine kp (k:=326) (hcc _) ?_|refine ac_appendH (f:=natL) (xs:=l) (ys:=[i]) rfl rfl inferInstance rfl rfl pullA inferInstance gsA rfl rfl (by simp;omega) ?_;intro nv)|refine zB ?_ ?_<;>intro hc<;>try exact no hc|refine zH ?_ ?_<;>(intro hg;rw[hg];try exact no hg)));all_goals try refine zO fun a w F M=>?_
   all_goals skip
   all_goals refine zE F M ?_
   subst e1;subst e3;subst e4
   exact⟨_,_,rfl,⟨h,rfl,rfl⟩,M.perms permsA⟩
end
end
end Go.Proofs.YtjbfcacmdahnhaaGreat
