import Derived.Test.YtjbfcacmdahnhaaGreatZrr
set_option linter.unusedVariables false
set_option linter.unusedSimpArgs false
set_option linter.unusedSectionVars false
set_option maxRecDepth 100000
set_option maxHeartbeats 8000000
namespace Go.Proofs.YtjbfcacmdahnhaaGreat
section
open Go.RowKit
theorem Spec.nils {k:FuncId} {us:List Value} {L:List Asn} {D:Value→List Asn→Prop} (h:Spec k us L D):Spec k us L fun u L'=>∃ L1,D u L1∧L'=ownT 75 asgL 3 (sl nilH) []::ownT 57 pmL 3 (sl nilH) []::L1:=fun G w M=>by
 refine(h G w M).mono ?_
 rintro e w' ⟨v,L',h1,h2,M'⟩
 have M2:=(M'.own_nil 57 3).own_nil 75 3
 exact⟨v,_,h1,⟨_,h2,rfl⟩,M2⟩
section
variable (b:Nat) (H:EH) (c:Cfg) (s:St) (R:List Asn)
def apQ (b:Nat) (c:Cfg) (R:List Asn) (x:Rc × St) (u:Value) (L':List Asn):Prop:=∃ ha hp H',u=rcV x.1 ha hp∧L'=ownT 75 asgL 3 (sl ha) x.1.asg::ownT 57 pmL 3 (sl hp) x.1.pms::engL b H' c x.2 R
theorem ap_tick (hc:CfOk c) (h:Inv c s) (hb:s.bk<1000000000) (o:Opn) (ho:o.k=7):Spec 26 [ptr b,opV o] (engL b H c s R) fun u L'=>apQ b c R (tickM c s) u L':=by
 obtain ⟨k,ix,tg,am⟩:=o
 simp only at ho
 subst ho
 have ht:=fun R=>tick_spec b H c s R hc h hb ⟨7,ix,tg,am⟩ rfl
 unfold apQ
 generalize tickM c s=X at *
 obtain ⟨⟨x1,x2,x3,x4,x5,x6,x7,x8,x9⟩,s2⟩:=X
 simp only at ht ⊢
 refine zGz zk26 Tryz.func26 ?_;intro G;(repeat'(first|refine zA ?_;repeat intro nb|refine zC ?_;refine acK (L1:=engL b H c s _) (k:=79) (ht _) ?_;rintro u L' ⟨ha,hp,H1,rfl,rfl⟩|refine zB ?_ ?_<;>intro hc<;>try exact no hc|refine zH ?_ ?_<;>(intro hg;rw[hg];try exact no hg)));all_goals try refine zO fun a w F M=>?_
 all_goals refine zE F M ?_
 all_goals exact⟨_,_,rfl,⟨ha,hp,H1,rfl,rfl⟩,M.perms permsA⟩
theorem apply_spec (hc:CfOk c) (h:Inv c s) (hb:s.bk<1000000000) (o:Opn) (hk:I64 o.k) (ho:U64 o.am):Spec 26 [ptr b,opV o] (engL b H c s R) fun u L'=>apQ b c R (stepM c s o) u L':=by
 by_cases h7:o.k=7
 ·have e:stepM c s o=tickM c s:=by unfold stepM;rw[if_pos h7]
  rw[e]
  exact ap_tick b H c s R hc h hb o h7
 ·have e:stepM c s o=(⟨o.k,(opM c s o).c,(opM c s o).ix,s.bk,epo c s,(opM c s o).dl,0,[],[]⟩,(opM c s o).s):=by unfold stepM;rw[if_neg h7]
  rw[e]
  have fin:Spec 26 [ptr b,opV o] (engL b H c s R) fun u L'=>u=rcV ⟨o.k,(opM c s o).c,(opM c s o).ix,s.bk,epo c s,(opM c s o).dl,0,[],[]⟩ nilH nilH∧L'=engL b H c (opM c s o).s R:=by
   have hit:=fun (g:FuncId) (hg:FK g) hin hop=>ap_hit b H c s R hc h o hk h7 g (opM c s o) hin hop (opM_bk c s o) (opM_no c s o)
   by_cases h1:o.k=1
   ·exact hit 80 inferInstance (by rw[h1];simp[opP]) fun R=>by
     have:opM c s o=opDep c s o.am:=by unfold opM;rw[if_pos h1]
     rw[this];exact dep_spec b H c s hc h R o ho
   by_cases h2:o.k=2
   ·exact hit 81 inferInstance (by rw[h2];simp[opP]) fun R=>by
     have:opM c s o=opLeave c s 1 o.ix:=by unfold opM;rw[if_neg h1,if_pos h2]
     rw[this];exact exit_spec b H c s R hc h o
   by_cases h3:o.k=3
   ·exact hit 82 inferInstance (by rw[h3];simp[opP]) fun R=>by
     have:opM c s o=opLeave c s 0 o.ix:=by unfold opM;rw[if_neg h1,if_neg h2,if_pos h3]
     rw[this];exact eject_spec b H c s R hc h o
   by_cases h4:o.k=4
   ·exact hit 83 inferInstance (by rw[h4];simp[opP]) fun R=>by
     have:opM c s o=opSlash c s o.ix:=by unfold opM;rw[if_neg h1,if_neg h2,if_neg h3,if_pos h4]
     rw[this];exact slash_spec b H c s hc h R o
   by_cases h5:o.k=5
   ·exact hit 84 inferInstance (by rw[h5];simp[opP]) fun R=>by
     have:opM c s o=opMerge c s o.ix o.tg:=by unfold opM;rw[if_neg h1,if_neg h2,if_neg h3,if_neg h4,if_pos h5]
     rw[this];exact cons_spec b H c s hc h R o
   by_cases h6:o.k=6
   ·exact hit 85 inferInstance (by rw[h6];simp[opP]) fun R=>by
     have:opM c s o=opPart c s o.ix o.am:=by unfold opM;rw[if_neg h1,if_neg h2,if_neg h3,if_neg h4,if_neg h5,if_pos h6]
     rw[this];exact part_spec b H c s hc h R o ho
   have:opM c s o=no' s 11:=by unfold opM;rw[if_neg h1,if_neg h2,if_neg h3,if_neg h4,if_neg h5,if_neg h6]
   rw[this]
   exact ap_miss b H c s R hc h o hk (by omega)
  refine fin.nils.mono ?_
  rintro u L' ⟨L1,⟨rfl,rfl⟩,rfl⟩
  exact⟨nilH,nilH,H,rfl,rfl⟩
end
end
section
open Go.RowKit
def rcP (x:RcS):List Asn:=[ownT 75 asgL 3 (sl x.s) x.r.asg,ownT 57 pmL 3 (sl x.p) x.r.pms]
def rsA (xs:List RcS):Asn:=exA fun _:Unit=>xs.flatMap rcP
theorem rs_nil {w:World} {L:List Asn} (M:Mem w L):Mem w (rsA []::L):=Mem.exc (f:=fun _:Unit=>([]:List RcS).flatMap rcP) () (by simpa using M)
theorem rs_add {w:World} {L:List Asn} {xs:List RcS} {x:RcS} (M:Mem w (ownT 75 asgL 3 (sl x.s) x.r.asg::ownT 57 pmL 3 (sl x.p) x.r.pms::rsA xs::L)):Mem w (rsA (xs++[x])::L):=by
 obtain ⟨_,M2⟩:=(M.perms (permsA:Perms _ (rsA xs::ownT 75 asgL 3 (sl x.s) x.r.asg::ownT 57 pmL 3 (sl x.p) x.r.pms::L))).exo
 refine Mem.exc (f:=fun _:Unit=>(xs++[x]).flatMap rcP) () ?_
 simpa[List.flatMap_append,rcP] using M2
theorem runM_cons (c:Cfg) (s:St) (o:Opn) (r:List Opn):runM c s (o::r)=((stepM c s o).1::(runM c (stepM c s o).2 r).1,(runM c (stepM c s o).2 r).2):=rfl
section
variable (b:Nat) (H:EH) (c:Cfg) (s:St) (R:List Asn)
end
end
def zkl6:List Nat:=[0,1,2,3,6,7,8,10,14,15,16,17,26]
section
open Go.RowKit
def SpecR (k:FuncId) (us:List Value):Prop:=∀ G w,Mem w G→CallsD Tryz.prog k us.toArray .returning w fun e u' w'=>u'=.returning∧(∃ v,e=.returned v)∧Mem w' G
section
variable {ops:Array Oper} {Q:Exit→Act→World→Prop} {D:List Deferred} {a:Act} {w:World} {n:Nat} {l:List (Nat × Value)} {L:List Asn} {rest:List Oper} {o:Oper}
theorem svDeferC (F:Fr a n l) {k:FuncId} {us:List Value} {caps:Array Value} {fo:Operand} {xs:Array Operand} {ats:Array TypeId} (h:wpList Tryz.prog ops Q rest (sh [{target:=.fn (.func k) caps,args:=us.toArray}] a) w)
  (hw:Wanted o ops l=some true:=by exact rfl) (hd:o.dst=none:=by exact rfl) (ho:o.op=.defer {callee:=.value fo,args:=xs,argTypes:=ats}:=by exact rfl) (hf:evl l fo=some (.func (.func k) #[] caps):=by exact rfl) (hx:evls l xs.toList=some us:=by exact rfl):wpList Tryz.prog ops Q (o::rest) a w:=by
 unfold wpList
 rw[if_pos (F.wanted hw)]
 refine .inl ?_
 unfold Oper.wp
 have e1:xs.map a.eval=us.toArray:=by have:=F.evals hx;apply Array.toList_inj.1;simpa using this
 have hr:(execOp a.eval o).run Tryz.prog w=.ok (.defer {target:=.fn (.func k) caps,args:=us.toArray}) w:=by
  unfold execOp
  rw[ho]
  simp[resolve,F.eval hf,Deferred.ofValue,e1]
 rw[hr]
 unfold Oper.upon
 rw[hd]
 show wpList Tryz.prog ops Q rest ({a with defers:=({target:=.fn (.func k) caps,args:=us.toArray}:Deferred)::a.defers}:Act) w
 rw[sh_of F]
 exact h
theorem end_rec {fn:Func} {R:Ending→World→Prop} {f:FuncId} [hfk:FK f] {us us':List Value} {caps:Array Value} {rs:List ResultVar} {vs:List Value} (F:Fr a n l) (M:Mem w L) (hs:SpecR f us') (hR:∀ w',Mem w' L→R (.returned (tupOf vs)) w') (hu:us++caps.toList=us':=by exact rfl) (hf:fn.results=rs.toArray:=by exact rfl) (hr:Ress L l rs vs:=by(first|(focus ((repeat (first|exact Ress.nil|(apply Ress.cons)|(apply Res.tmp;exact rfl)|(apply Res.agg;(exact rfl);(exact inferInstance);(exact pullA);(exact rfl))|(apply Res.one;(exact rfl);(exact inferInstance);(exact pullA);(exact rfl))));done))|fail)):bodyPostD Tryz.prog fn R .ret (sh [{target:=.fn (.func f) caps,args:=us.toArray}] a) w:=by
 have e:(sh [({target:=.fn (.func f) caps,args:=us.toArray}:Deferred)] a).defers=[{target:=.fn (.func f) caps,args:=us.toArray}]:=by simp[sh,F.ds]
 have ea:us.toArray++caps=us'.toArray:=by rw[← hu];apply Array.toList_inj.1;simp
 show Leaves _ _ _ _ _ _ _
 rw[e]
 refine leaves_cons (f:=f) (args:=us'.toArray) (by simp) ?_ ?_
 ·have:=run_callFunc f us'.toArray w
  simpa[invoke,ea] using this
 ·refine(hs L w M).mono ?_
  rintro e u' w' ⟨rfl,⟨v,rfl⟩,hM⟩
  exact⟨_,(show(results fn a.tmps).run Tryz.prog w'=_ from hr.run F hM hf),hR w' hM⟩
theorem rt_eqNil {t ty:TypeId} {x:Operand} (ho:o.op=.binOp .eql t x (.const .nilIface) ty) (hx:evl l x=some .nilIface) (ht:Tryz.prog.underlying t=some (.interface (Tryz.prog.methodsAt t))):RT o l L n (.bool true):=fun a w F M=>by
 have:=run_eql_nil_nil (P:=Tryz.prog) (w:=w) t ht
 unfold execOp
 rw[ho]
 have e1:=F.eval hx
 have e2:a.eval (.const .nilIface)=.nilIface:=rfl
 simp only[e1,e2]
 simp[eqGuard,this]
end
theorem rec_none (x y:Value):SpecR 164 [x,y]:=by
 intro G w M
 refine callsD_of_wpS Tryz.func164 rfl fun c₀ cs hu=>?_
 refine wpS_seq (wpS_region ?_)
 have e:recoverD (c₀::cs)=none:=by simp[recoverD,hu]
 have F0:=(Fr.init [x,y] 11).put 5 .nilIface rfl
 show wpOpsS Tryz.prog _ _ [0] _ _ _
 unfold wpOpsS
 simp only[List.getElem?_toArray,List.getElem?_cons_zero]
 rw[if_pos (show Region.wanted _ _=true from rfl)]
 simp only[e]
 show wpOpsS Tryz.prog _ _ [] (Act.put {tmps:=#[x,y]++Array.replicate 11 undef,defers:=[]} (some 5) .nilIface) (c₀::cs) w
 unfold wpOpsS
 show Code.wpS Tryz.prog _ _ _ _ _
 refine wpS_of_wp ?_
 generalize Act.put {tmps:=#[x,y]++Array.replicate 11 undef,defers:=[]} (some 5) .nilIface=a at F0 ⊢
 have F:=F0
 clear F0
 (try refine zI zk164 F M ?_;clear F M a;try clear w);(repeat'(first|refine zV (h:=⟨_,by(exact rt_eqNil rfl rfl (by kernel_rfl)),?_⟩)|refine zA1 ?_;repeat intro(nb:Nat)|refine zB ?_ ?_<;>intro hc<;>try exact no hc|refine zH ?_ ?_<;>(intro hg;rw[hg];try exact no hg)));all_goals try refine zO fun a w F M=>?_
 exact⟨F.ds,.returning,by rw[← hu],_,(Ress.nil (L:=G)).run F M rfl,rfl,⟨_,rfl⟩,M⟩
section
variable (c:Cfg) (hc:CfOk c) (hk:checkF c=0)
include hc hk in
theorem rbegin_spec (R:List Asn):Spec 165 [cfgV c] R fun u L'=>∃ b H,u=ptr b∧L'=engL b H c St.ini R:=by
 have hnw:=fun R=>eng_new c hc hk R
 refine zGz zk165 Tryz.func165 ?_;intro G;(repeat'(first|refine zA ?_;repeat intro nb|refine zC ?_;refine acW (k:=24) (hnw _) ?_;rintro u L' ⟨eb,H,rfl,rfl⟩|refine zB ?_ ?_<;>intro hc<;>try exact no hc|refine zH ?_ ?_<;>(intro hg;rw[hg];try exact no hg)));all_goals try refine zO fun a w F M=>?_
 all_goals refine zE F M ?_
 exact⟨_,_,rfl,⟨eb,H,rfl,rfl⟩,M.perms permsA⟩
structure PfZ where
 k:Nat
 H:EH
 s:St
def AftOk (c:Cfg) (l:List Opn) (k:FuncId) (caps:List Value) (A:Nat→Asn):Prop:=∀ (i:Nat) (o:Opn) (s:St),l[i]? = some o→s=(runM c St.ini (l.take i)).2→∀ (eb:Nat) (H:EH) (ha hp:SlH) (R:List Asn),
 Spec k (ptr eb::rcV (stepM c s o).1 ha hp::caps) (A i::ownT 75 asgL 3 (sl ha) (stepM c s o).1.asg::ownT 57 pmL 3 (sl hp) (stepM c s o).1.pms::engL eb H c (stepM c s o).2 R) fun u L'=>∃ H',u=.bool true∧L'=A (i+1)::engL eb H' c (stepM c s o).2 R
theorem runM_take {c:Cfg} {s:St}:∀ {l:List Opn} {k:Nat} {o:Opn},l[k]? = some o→(runM c s (l.take (k+1))).2=(stepM c (runM c s (l.take k)).2 o).2
 | [],k,o,h=>by simp at h
 | x::l,0,o,h=>by
  obtain rfl:x=o:=by simpa using h
  rfl
 | x::l,k+1,o,h=>by
  rw[List.take_succ_cons,List.take_succ_cons,runM_cons,runM_cons]
  exact runM_take (by simpa using h)
include hc hk in
theorem perform_spec (v:Value) (l:List Opn) (hl:l.length≤100000) (hwf:∀ o∈l,I64 o.k∧U64 o.am) (k:FuncId) [hfk:FK k] (caps:List Value) (A:Nat→Asn) (hA:AftOk c l k caps A) (R:List Asn) (hg:GS R 4 v l.length (l.flatMap opL)) :
  Spec 101 [cfgV c,v,.func (.func k) #[] caps.toArray] (A 0::R) fun u L'=>∃ s h1 h2 h3 h4 h5 h6,s=(runM c St.ini l).2∧u=.tuple [snV (snOf c s h1 h2 h3 h4 h5 h6),.int .i64 0].toArray∧L'=A l.length::ownT 62 valL 7 (sl h1) s.V::ownT 3 natL 1 (sl h2) s.pe::ownT 3 natL 1 (sl h3) s.fo::ownT 3 natL 1 (sl h4) s.vo::ownT 77 prL 2 (sl h5) s.me::ownT 79 rqL 2 (sl h6) s.pa::R:=by
 have hbg:=fun R=>rbegin_spec c hc hk R
 intro G w M
 have hG:GS (R++G) 4 v l.length (l.flatMap opL):=Gives.app hg
 refine sx_enterD (vs:=([cfgV c,v,.func (.func k) #[] caps.toArray]:List Value)) Tryz.func101 (n:=30) rfl rfl rfl rfl ?_
 intro a F
 (try simp only[zc,zn] at M)
 (try refine zI zk101 F M ?_;clear F M a;try clear w);(repeat'(first|refine zA ?_;repeat intro nb|refine zB ?_ ?_<;>intro hc<;>try exact no hc|refine zH ?_ ?_<;>(intro hg;rw[hg];try exact no hg)));all_goals try refine zO fun a w F M=>?_
 refine svDeferC F (h:=?_)
 (repeat'(first|(first|refine sx_nil ?_|refine pv_nil ?_;intro a w F M);try replace F:=F.filt zkl6 rfl|refine zn1 F M ?_;clear F M a;(try clear w);intro a w F M|refine sv2 F M ?_;clear F M a;intro nb a w F M|refine zp1 ?_|refine zp2 ?_;intro nb|((first|refine svC F M ?_|refine svC0 F M ?_|refine pvC ?_|refine pvC0 ?_);(((refine acW (k:=165) (hbg _) ?_);rintro u L' ⟨eb,H,rfl,rfl⟩));(first|refine⟨rvsA,?_⟩|clear F M a;intro a w F M|clear M;intro w M))|((fail_if_success(with_reducible first|refine isW ?_|refine isP ?_|refine isL ?_));(first|with_reducible refine regL_sh ?_|((with_reducible refine isD ?_);fail)|go_step))))
 refine svLoopS F M (⟨0,H,St.ini⟩:PfZ) (fun z=>[(16,.int .i64 z.k)]) (fun z=>A z.k::engL eb z.H c z.s []) (fun z=>z.k≤l.length∧Inv c z.s∧z.s.bk≤z.k∧z.s=(runM c St.ini (l.take z.k)).2) (fun z=>l.length - z.k) [10] ⟨Nat.zero_le _,Inv.ini hc,Nat.le_refl _,rfl⟩ ?_ (hR:=by(repeat (first|exact Pulls.nil|(apply Pulls.cons;(focus ((repeat (first|exact Pull.here|apply Pull.there));done))))))
 ·(rintro⟨i,H2,s⟩ ⟨q1,q2,q3,q4⟩ a w F M;(try simp only[zc,zn] at F M q1 q2 q3 q4 ⊢))
  by_cases hi:i<l.length
  ·obtain ⟨o,ho⟩:∃ o,l[i]? = some o:=⟨l[i],by simp[hi]⟩
   obtain ⟨ho1,ho2⟩:=hwf o (List.mem_of_getElem? ho)
   have hap:=fun R=>apply_spec eb H2 c s R hc q2 (by omega) o ho1 ho2
   have hst:=stepM_inv hc q2 (by omega) o ho2
   have hs2:(stepM c s o).2=(runM c St.ini (l.take (i+1))).2:=by rw[runM_take ho,← q4]
   have haf:=fun H ha hp R=>hA i o s ho q4 eb H ha hp R
   simp only[apQ] at hap
   generalize stepM c s o=Y at *
   obtain ⟨⟨x1,x2,x3,x4,x5,x6,x7,x8,x9⟩,s2⟩:=Y
   simp only at hap haf hst hs2
   have dl:decide ((i:Int)<(l.length:Int))=true:=by simpa using hi
   (repeat'(first|(first|refine sx_nil ?_|refine pv_nil ?_;intro a w F M);try replace F:=F.filt zkl6 rfl|refine zn1 F M ?_;clear F M a;(try clear w);intro a w F M|refine sv2 F M ?_;clear F M a;intro nb a w F M|refine zp1 ?_|refine zp2 ?_;intro nb|((first|refine svC F M ?_|refine svC0 F M ?_|refine pvC ?_|refine pvC0 ?_);((first|(refine acK (L1:=engL eb H2 c s _) (k:=26) (hap _) ?_;rintro u L' ⟨ha,hp,H3,rfl,rfl⟩)|(refine acK (k:=k) (haf H3 ha hp _) ?_;rintro u L' ⟨H4,rfl,rfl⟩)));(first|refine⟨rvsA,?_⟩|clear F M a;intro a w F M|clear M;intro w M))|((fail_if_success(with_reducible first|refine isW ?_|refine isP ?_|refine isL ?_));(first|with_reducible refine regL_sh ?_|((with_reducible refine isD ?_);fail)|go_step))))
   refine svTS F dl ?_
   (repeat'(first|(first|refine sx_nil ?_|refine pv_nil ?_;intro a w F M);try replace F:=F.filt zkl6 rfl|refine zn1 F M ?_;clear F M a;(try clear w);intro a w F M|refine sv2 F M ?_;clear F M a;intro nb a w F M|refine zp1 ?_|refine zp2 ?_;intro nb|((first|refine svC F M ?_|refine svC0 F M ?_|refine pvC ?_|refine pvC0 ?_);((first|(refine acK (L1:=engL eb H2 c s _) (k:=26) (hap _) ?_;rintro u L' ⟨ha,hp,H3,rfl,rfl⟩)|(refine acK (k:=k) (haf H3 ha hp _) ?_;rintro u L' ⟨H4,rfl,rfl⟩)));(first|refine⟨rvsA,?_⟩|clear F M a;intro a w F M|clear M;intro w M))|((fail_if_success(with_reducible first|refine isW ?_|refine isP ?_|refine isL ?_));(first|with_reducible refine regL_sh ?_|((with_reducible refine isD ?_);fail)|go_step))))
   refine svFS F (b:=!true) rfl ?_
   (repeat'(first|(first|refine sx_nil ?_|refine pv_nil ?_;intro a w F M);try replace F:=F.filt zkl6 rfl|refine zn1 F M ?_;clear F M a;(try clear w);intro a w F M|refine sv2 F M ?_;clear F M a;intro nb a w F M|refine zp1 ?_|refine zp2 ?_;intro nb|((first|refine svC F M ?_|refine svC0 F M ?_|refine pvC ?_|refine pvC0 ?_);((first|(refine acK (L1:=engL eb H2 c s _) (k:=26) (hap _) ?_;rintro u L' ⟨ha,hp,H3,rfl,rfl⟩)|(refine acK (k:=k) (haf H3 ha hp _) ?_;rintro u L' ⟨H4,rfl,rfl⟩)));(first|refine⟨rvsA,?_⟩|clear F M a;intro a w F M|clear M;intro w M))|((fail_if_success(with_reducible first|refine isW ?_|refine isP ?_|refine isL ?_));(first|with_reducible refine regL_sh ?_|((with_reducible refine isD ?_);fail)|go_step))))
   exact sv_againS F M (⟨i+1,H4,s2⟩:PfZ) kpA permsA ⟨by simp only;omega,hst.1,by have:=hst.2;simp only;omega,hs2⟩ (by simp only;omega)
  ·obtain rfl:i=l.length:=by omega
   rw[List.take_length] at q4
   have dl:decide ((l.length:Int)<(l.length:Int))=false:=by simp
   have hsn:=fun R=>snap_spec eb H2 c s hc q2 R
   (repeat'(first|(first|refine sx_nil ?_|refine pv_nil ?_;intro a w F M);try replace F:=F.filt zkl6 rfl|refine zn1 F M ?_;clear F M a;(try clear w);intro a w F M|refine sv2 F M ?_;clear F M a;intro nb a w F M|refine zp1 ?_|refine zp2 ?_;intro nb|((first|refine svC F M ?_|refine svC0 F M ?_|refine pvC ?_|refine pvC0 ?_);((refine acK (L1:=engL eb H2 c s _) (k:=13) (hsn _) ?_;rintro u L' ⟨h1,h2,h3,h4,h5,h6,rfl,rfl⟩));(first|refine⟨rvsA,?_⟩|clear F M a;intro a w F M|clear M;intro w M))|((fail_if_success(with_reducible first|refine isW ?_|refine isP ?_|refine isL ?_));(first|with_reducible refine regL_sh ?_|((with_reducible refine isD ?_);fail)|go_step))))
   refine svFS F dl ?_
   (repeat'(first|(first|refine sx_nil ?_|refine pv_nil ?_;intro a w F M);try replace F:=F.filt zkl6 rfl|refine zn1 F M ?_;clear F M a;(try clear w);intro a w F M|refine sv2 F M ?_;clear F M a;intro nb a w F M|refine zp1 ?_|refine zp2 ?_;intro nb|((first|refine svC F M ?_|refine svC0 F M ?_|refine pvC ?_|refine pvC0 ?_);((refine acK (L1:=engL eb H2 c s _) (k:=13) (hsn _) ?_;rintro u L' ⟨h1,h2,h3,h4,h5,h6,rfl,rfl⟩));(first|refine⟨rvsA,?_⟩|clear F M a;intro a w F M|clear M;intro w M))|((fail_if_success(with_reducible first|refine isW ?_|refine isP ?_|refine isL ?_));(first|with_reducible refine regL_sh ?_|((with_reducible refine isD ?_);fail)|go_step))))
   refine end_rec F M (rec_none _ _) ?_
   intro w' M2
   exact⟨_,_,rfl,⟨s,h1,h2,h3,h4,h5,h6,q4,rfl,rfl⟩,M2.perms permsA⟩
end
end
section
open Go.RowKit
def u8L (b:UInt8):List Value:=[.int .u8 (b.toNat:Int)]
instance:EL u8L 1:=⟨fun _=>rfl,fun x u h=>by simp[u8L] at h;subst h;rfl⟩
end
section
inductive Od where
 | i|t|a
deriving DecidableEq
def Od.size:Od→Nat
 | .i=>2
 | .t=>2
 | .a=>8
def odsOf (k:Int):Option (List Od):=if k=1 then some [.a] else if k=2∨k=3∨k=4 then some [.i] else if k=5 then some [.i,.t] else if k=6 then some [.i,.a] else if k=7 then some [] else none
theorem ods_cases {k:Int} {ds:List Od} (h:odsOf k=some ds):(k=1∧ds=[.a])∨(k=2∧ds=[.i])∨(k=3∧ds=[.i])∨(k=4∧ds=[.i])∨(k=5∧ds=[.i,.t])∨(k=6∧ds=[.i,.a])∨(k=7∧ds=[]):=by
 unfold odsOf at h
 repeat' split at h
 all_goals simp at h
 all_goals subst h
 all_goals simp_all
 all_goals omega
def Od.get (o:Opn):Od→Int
 | .i=>o.ix
 | .t=>o.tg
 | .a=>o.am
def Od.set (o:Opn) (x:Int):Od→Opn
 | .i=>{o with ix:=x}
 | .t=>{o with tg:=x}
 | .a=>{o with am:=x}
def oz (k:Int):Opn:=⟨k,0,0,0⟩
def szL:List Od→Nat
 | []=>0
 | d::ds=>d.size+szL ds
def szK (k:Int):Nat:=match odsOf k with
 | none=>0
 | some ds=>1+szL ds
def bigL (x:Nat):Nat→List UInt8
 | 0=>[]
 | n+1=>UInt8.ofNat (x / 256 ^ n % 256)::bigL x n
theorem bigL_len (x:Nat):∀ n,(bigL x n).length=n
 | 0=>rfl
 | n+1=>by simp[bigL,bigL_len x n]
def valB (acc:Nat):List UInt8→Nat
 | []=>acc
 | c::r=>valB (256*acc+c.toNat) r
theorem valB_big (x:Nat):∀ (n acc:Nat),valB acc (bigL x n)=256 ^ n*acc+x % 256 ^ n
 | 0,acc=>by simp[bigL,valB,Nat.mod_one]
 | n+1,acc=>by
  rw[bigL,valB,valB_big x n]
  have h1:(UInt8.ofNat (x / 256 ^ n % 256)).toNat=x / 256 ^ n % 256:=by
   have h0:x / 256 ^ n % 256<256:=Nat.mod_lt _ (by decide)
   generalize x / 256 ^ n % 256=q at *
   rw[UInt8.toNat_ofNat'];exact Nat.mod_eq_of_lt h0
  rw[h1,Nat.mod_pow_succ,Nat.pow_succ,Nat.mul_add,Nat.mul_assoc]
  omega
theorem valB_lt:∀ (l:List UInt8) (acc:Nat),valB acc l<256 ^ l.length*(acc+1)
 | [],acc=>by simp[valB]
 | c::r,acc=>by
  have:=valB_lt r (256*acc+c.toNat)
  have hc:c.toNat<256:=c.toNat_lt
  rw[valB,List.length_cons,Nat.pow_succ,Nat.mul_assoc]
  exact Nat.lt_of_lt_of_le this (Nat.mul_le_mul_left _ (by omega))
def u64of (x:Int):Nat:=(x % 18446744073709551616).toNat
def wrB (o:Opn) (d:Od):List UInt8:=bigL (u64of (d.get o)) d.size
def wrL (o:Opn) (ds:List Od):List UInt8:=UInt8.ofNat (u64of o.k % 256)::ds.flatMap (wrB o)
def rdL:List Od→Opn→List UInt8→Opn
 | [],o,_=>o
 | d::ds,o,b=>rdL ds (d.set o (valB 0 (b.take d.size))) (b.drop d.size)
def decM (b:List UInt8) (j:Nat):Opn × Nat:=match odsOf ((b[j]?).getD 0).toNat with
 | none=>(oz 0,j+1)
 | some ds=>if b.length - j<1+szL ds then (oz 0,b.length) else (rdL ds (oz ((b[j]?).getD 0).toNat) (b.drop (j+1)),j+(1+szL ds))
theorem decM_lt {b:List UInt8} {j:Nat} (h:j<b.length):j<(decM b j).2∧(decM b j).2≤b.length:=by
 unfold decM
 split
 ·exact⟨by simp only;omega,by simp only;omega⟩
 ·split
  ·exact⟨by simp only;omega,by simp only;omega⟩
  ·exact⟨by simp only;omega,by simp only;omega⟩
def decAll (b:List UInt8) (j:Nat):List Opn:=if h:j<b.length then (decM b j).1::decAll b (decM b j).2 else []
termination_by b.length - j
decreasing_by have:=decM_lt h;omega
theorem decAll_step {b:List UInt8} {j:Nat} (h:j<b.length):decAll b j=(decM b j).1::decAll b (decM b j).2:=by
 rw[decAll,dif_pos h]
theorem decAll_end {b:List UInt8} {j:Nat} (h:b.length≤j):decAll b j=[]:=by
 rw[decAll,dif_neg (by omega)]
structure OpOk (o:Opn) (ds:List Od):Prop where
 k:odsOf o.k=some ds
 i:if .i∈ds then 0≤o.ix∧o.ix≤65535 else o.ix=0
 t:if .t∈ds then 0≤o.tg∧o.tg≤65535 else o.tg=0
 a:.a∉ds→o.am=0
def okM (o:Opn):Bool:=match odsOf o.k with
 | none=>false
 | some ds=>decide (if .i∈ds then 0≤o.ix∧o.ix≤65535 else o.ix=0) && decide (if .t∈ds then 0≤o.tg∧o.tg≤65535 else o.tg=0) && decide (.a∉ds→o.am=0)
theorem okM_iff {o:Opn} {ds:List Od} (h:odsOf o.k=some ds):okM o=true↔OpOk o ds:=by
 unfold okM
 rw[h]
 simp only[Bool.and_eq_true,decide_eq_true_eq]
 exact⟨fun ⟨⟨h1,h2⟩,h3⟩=>⟨h,h1,h2,h3⟩,fun ⟨_,h1,h2,h3⟩=>⟨⟨h1,h2⟩,h3⟩⟩
theorem okM_true {o:Opn} (h:okM o=true):∃ ds,OpOk o ds:=by
 cases hd:odsOf o.k with
 | none=>rw[okM,hd] at h;cases h
 | some ds=>exact⟨ds,(okM_iff hd).1 h⟩
theorem big_val (x:Int) (h:0≤x∧x<18446744073709551616) (n:Nat) (hn:x<256 ^ n):((valB 0 (bigL (u64of x) n):Nat):Int)=x:=by
 rw[valB_big]
 have e:u64of x=x.toNat:=by unfold u64of;rw[Int.emod_eq_of_lt h.1 h.2]
 rw[e,Nat.mod_eq_of_lt,Nat.mul_zero,Nat.zero_add]
 ·omega
 ·have:((256 ^ n:Nat):Int)=256 ^ n:=by simp
  omega
theorem wr_take (o:Opn) (d:Od) (r:List UInt8):(wrB o d++r).take d.size=wrB o d∧(wrB o d++r).drop d.size=r:=by
 have:(wrB o d).length=d.size:=bigL_len _ _
 rw[← this]
 exact⟨List.take_left,List.drop_left⟩
theorem rd_wr:∀ (ds:List Od) (o p:Opn) (r:List UInt8),rdL ds p (ds.flatMap (wrB o)++r)=ds.foldl (fun p d=>d.set p (valB 0 (wrB o d):Nat)) p
 | [],o,p,r=>rfl
 | d::ds,o,p,r=>by
  rw[rdL,List.flatMap_cons,List.append_assoc,(wr_take o d _).1,(wr_take o d _).2,rd_wr ds,List.foldl_cons]
theorem kind_byte {k:Int} {ds:List Od} (h:odsOf k=some ds):((UInt8.ofNat (u64of k % 256)).toNat:Int)=k:=by
 rcases ods_cases h with⟨rfl,_⟩|⟨rfl,_⟩|⟨rfl,_⟩|⟨rfl,_⟩|⟨rfl,_⟩|⟨rfl,_⟩|⟨rfl,_⟩<;>decide
theorem wrL_len (o:Opn) (ds:List Od):(wrL o ds).length=1+szL ds:=by
 have:∀ ds:List Od,(ds.flatMap (wrB o)).length=szL ds:=fun ds=>by
  induction ds with
  | nil=>rfl
  | cons d ds ih=>rw[List.flatMap_cons,List.length_append,ih,szL];rw[show(wrB o d).length=d.size from bigL_len _ _]
 rw[wrL,List.length_cons,this];omega
theorem dec_wr (pre r:List UInt8) (o:Opn) (ds:List Od) (h:odsOf o.k=some ds):decM (pre++(wrL o ds++r)) pre.length=(ds.foldl (fun p d=>d.set p (valB 0 (wrB o d):Nat)) (oz o.k),pre.length+(1+szL ds)):=by
 have e0:(((pre++(wrL o ds++r))[pre.length]?).getD 0).toNat=(UInt8.ofNat (u64of o.k % 256)).toNat:=by
  rw[List.getElem?_append_right (Nat.le_refl _)];simp[wrL]
 have hk:=kind_byte h
 have hl:=wrL_len o ds
 unfold decM
 rw[e0,hk,h]
 simp only
 rw[if_neg (by rw[List.length_append,List.length_append,hl];omega)]
 have ed:(pre++(wrL o ds++r)).drop (pre.length+1)=ds.flatMap (wrB o)++r:=by
  rw[← List.drop_drop]
  rw[show List.drop pre.length (pre++(wrL o ds++r))=wrL o ds++r from List.drop_left]
  rfl
 rw[show List.drop (pre.length+1) (pre++(wrL o ds++r))=ds.flatMap (wrB o)++r from ed,rd_wr]
theorem valid_iff (o:Opn) (hi:-9223372036854775808≤o.ix∧o.ix≤9223372036854775807) (ht:-9223372036854775808≤o.tg∧o.tg≤9223372036854775807) (ha:0≤o.am∧o.am≤18446744073709551615) (ds:List Od) (h:odsOf o.k=some ds):decide ((decM (wrL o ds) 0).1=o)=okM o:=by
 have:=dec_wr [] [] o ds h
 simp only[List.nil_append,List.append_nil,List.length_nil,Nat.zero_add] at this
 rw[this,Bool.eq_iff_iff,okM_iff h,decide_eq_true_eq]
 have e2:∀ x:Int,-9223372036854775808≤x∧x≤9223372036854775807→((valB 0 (bigL (u64of x) 2):Nat):Int)=x % 65536:=fun x hx=>by
  rw[valB_big];unfold u64of;simp only[Nat.mul_zero,Nat.zero_add];omega
 have e8:((valB 0 (bigL (u64of o.am) 8):Nat):Int)=o.am:=big_val _ (by omega) 8 (by omega)
 have k2:=e2 o.ix hi;have k3:=e2 o.tg ht
 obtain ⟨k,ix,tg,am⟩:=o
 simp only at hi ht ha h k2 k3 e8
 have key:OpOk ⟨k,ix,tg,am⟩ ds↔(if .i∈ds then 0≤ix∧ix≤65535 else ix=0)∧(if .t∈ds then 0≤tg∧tg≤65535 else tg=0)∧(.a∉ds→am=0):=⟨fun ⟨_,h1,h2,h3⟩=>⟨h1,h2,h3⟩,fun ⟨h1,h2,h3⟩=>⟨h,h1,h2,h3⟩⟩
 rw[key]
 rcases ods_cases h with⟨rfl,rfl⟩|⟨rfl,rfl⟩|⟨rfl,rfl⟩|⟨rfl,rfl⟩|⟨rfl,rfl⟩|⟨rfl,rfl⟩|⟨rfl,rfl⟩
 all_goals simp[Od.set,Od.get,wrB,Od.size,oz,k2,k3,e8]
 all_goals omega
theorem valid_dec (pre r:List UInt8) (o:Opn) (hi:-9223372036854775808≤o.ix∧o.ix≤9223372036854775807) (ht:-9223372036854775808≤o.tg∧o.tg≤9223372036854775807) (ha:0≤o.am∧o.am≤18446744073709551615) (ds:List Od) (h:OpOk o ds):decM (pre++(wrL o ds++r)) pre.length=(o,pre.length+(1+szL ds)):=by
 have h1:=(valid_iff o hi ht ha ds h.k).trans ((okM_iff h.k).2 h)
 have h0:=dec_wr [] [] o ds h.k
 simp only[List.nil_append,List.append_nil,List.length_nil,Nat.zero_add] at h0
 rw[h0,decide_eq_true_eq] at h1
 simp only at h1
 rw[dec_wr _ _ _ _ h.k,h1]
def encM (o:Opn):List UInt8:=match odsOf o.k with
 | none=>[]
 | some ds=>wrL o ds
def encAll (l:List Opn):List UInt8:=l.flatMap encM
def OpR (o:Opn):Prop:=(-9223372036854775808≤o.ix∧o.ix≤9223372036854775807)∧(-9223372036854775808≤o.tg∧o.tg≤9223372036854775807)∧(0≤o.am∧o.am≤18446744073709551615)
theorem dec_enc:∀ (l:List Opn) (pre:List UInt8),(∀ o∈l,OpR o)→(∀ o∈l,okM o=true)→decAll (pre++encAll l) pre.length=l
 | [],pre,_,_=>by rw[decAll_end];simp[encAll]
 | o::l,pre,hr,hk=>by
  obtain ⟨ds,hd⟩:=okM_true (hk o (by simp))
  obtain ⟨r1,r2,r3⟩:=hr o (by simp)
  have e:encAll (o::l)=wrL o ds++encAll l:=by rw[encAll,List.flatMap_cons,encM,hd.k];rfl
  rw[e]
  have hv:=valid_dec pre (encAll l) o r1 r2 r3 ds hd
  have hl:=wrL_len o ds
  rw[decAll_step (by rw[List.length_append,List.length_append];omega),hv]
  simp only
  have ih:=dec_enc l (pre++wrL o ds) (fun o h=>hr o (by simp[h])) (fun o h=>hk o (by simp[h]))
  rw[List.append_assoc,List.length_append,hl] at ih
  rw[ih]
end
section
open Go.RowKit Go.Maps
section
variable {o:Oper} {n:Nat} {l:List (Nat × Value)} {L:List Asn} {C:Value→List Asn→Prop}
theorem ac_insM {t:TypeId} {x y z:Operand} (ho:o.op=.insert t x y z) {b:Nat} (hx:evl l x=some (.map (some b))) {k v:Value} (hy:evl l y=some k) (hz:evl l z=some v) {K E:TypeId} (ht:MT t K E) {q:Lit} (hk:keyOf Tryz.prog K k=some q) {P:List (Value × Value)} {L2:List Asn} (hp:Rep L (mp b K P) (mp b K ((k,v)::P)) L2) (hno:∀ p∈P,p.1≠k) (h:C undef L2):AC o l L n C:=fun G a w F M=>by
 obtain ⟨L',h1,h2⟩:=hp.both
 obtain ⟨w',e,hm,ht'⟩:=run_mapUpdate_new (v:=v) ht.k ht.h hk (gives_mp (h1.app G) w M) hno
 have:(execOp a.eval o).run Tryz.prog w=.ok .skip w':=by
  unfold execOp
  rw[ho]
  simp[F.eval hx,F.eval hy,F.eval hz,e]
 rw[this]
 refine⟨L2,h,M.rep (hp.app G) fun s hs=>?_⟩
 obtain ⟨rfl,_⟩:=hs.now
 exact⟨ht'.chg,[b],ok_mp (hm.perm (List.Perm.refl _)),fun x hx=>.inl hx⟩
theorem sh_run {a:Act} (F:Fr a n l) {w:World} {b:BinOp} {t ty:TypeId} {x y:Operand} (ho:o.op=.binOp b t x y ty) {k k':IntKind} {m p:Int} (hx:evl l x=some (.int k m)) (hy:evl l y=some (.int k' p)) {r:Value}
  (h:(binOp b t (.int k m) (.int k' p)).run Tryz.prog w=.ok r w):(execOp a.eval o).run Tryz.prog w=.ok (.value r) w:=by
 unfold execOp
 rw[ho]
 have h1:(eqGuard b t x y (.int k m) (.int k' p)).run Tryz.prog w=.ok () w:=by unfold eqGuard;cases b<;>simp[Sem.run_pure]
 simp only[F.eval hx,F.eval hy,Sem.run_bind,h1,Result.andThen_ok,h]
 rfl
theorem rt_shr {t ty:TypeId} {x y:Operand} (ho:o.op=.binOp .shr t x y ty) {k:IntKind} {m s:Nat} (hx:evl l x=some (.int .u64 (m:Int))) (hy:evl l y=some (.int k (s:Int))) (hs:s≤64):RT o l L n (.int .u64 ((m / 2 ^ s:Nat):Int)):=fun a w F M=>by
 refine sh_run F ho hx hy ?_
 have e1:min (Int.toNat (s:Int)) IntKind.u64.bits=s:=by simp[IntKind.bits];omega
 have e2:(m:Int).fdiv (2 ^ s)=((m / 2 ^ s:Nat):Int):=by
  rw[Int.fdiv_eq_ediv_of_nonneg _ (by exact Int.pow_nonneg (by decide))];simp
 simp[binOp,Op.shift,e1,e2]
theorem rt_shl {t ty:TypeId} {x y:Operand} (ho:o.op=.binOp .shl t x y ty) {k:IntKind} {m s:Nat} (hx:evl l x=some (.int .u64 (m:Int))) (hy:evl l y=some (.int k (s:Int))) (hs:s≤64) (hm:m*2 ^ s<18446744073709551616):RT o l L n (.int .u64 ((m*2 ^ s:Nat):Int)):=fun a w F M=>by
 refine sh_run F ho hx hy ?_
 have e1:min (Int.toNat (s:Int)) IntKind.u64.bits=s:=by simp[IntKind.bits];omega
 have e2:IntKind.u64.wrap ((m:Int)*2 ^ s)=((m*2 ^ s:Nat):Int):=by
  rw[IntKind.wrap_u64]
  have:(m:Int)*2 ^ s=((m*2 ^ s:Nat):Int):=by simp
  rw[this];omega
 simp[binOp,Op.shift,e1,e2]
theorem rt_or8 {t ty:TypeId} {x y:Operand} (ho:o.op=.binOp .or t x y ty) {m p:Nat} (hx:evl l x=some (.int .u64 ((m*256:Nat):Int))) (hy:evl l y=some (.int .u64 (p:Int))) (hp:p<256) (hm:m*256<18446744073709551616):RT o l L n (.int .u64 ((256*m+p:Nat):Int)) :=
 rt_bin ho hx hy fun w=>by
  have:bits .or .u64 ((m*256:Nat):Int) (p:Int)=((256*m+p:Nat):Int):=by
   rw[bits_or_u64_nat _ _ hm (by omega),DM.or_add (a:=m) (b:=p) (s:=8) hp]
   simp only[Nat.reducePow];congr 1;omega
  exact Eq.trans (b:=.ok (.int .u64 (bits .or .u64 ((m*256:Nat):Int) (p:Int))) w) rfl (by rw[this])
end
abbrev fnO (k:FuncId):Value:=.func (.func k) #[] #[]
def Od.gf:Od→FuncId
 | .i=>343
 | .t=>345
 | .a=>341
def Od.sf:Od→FuncId
 | .i=>344
 | .t=>346
 | .a=>342
def odL (d:Od):List Value:=[.int .i64 d.size,fnO d.gf,fnO d.sf]
abbrev odV (d:Od):Value:=.agg (odL d).toArray
instance:EL odL 3:=⟨fun _=>rfl,fun x u h=>by simp[odL] at h;rcases h with rfl|rfl|rfl<;>rfl⟩
theorem index_spec (R:List Asn):Spec 310 [] R fun u L'=>u=odV .i∧L'=R:=by
 refine zGz zk310 Tryz.func310 ?_;intro G;(repeat'(first|refine zA ?_;repeat intro nb|refine zB ?_ ?_<;>intro hc<;>try exact no hc|refine zH ?_ ?_<;>(intro hg;rw[hg];try exact no hg)));all_goals exact zXz
theorem target_spec (R:List Asn):Spec 311 [] R fun u L'=>u=odV .t∧L'=R:=by
 refine zGz zk311 Tryz.func311 ?_;intro G;(repeat'(first|refine zA ?_;repeat intro nb|refine zB ?_ ?_<;>intro hc<;>try exact no hc|refine zH ?_ ?_<;>(intro hg;rw[hg];try exact no hg)));all_goals exact zXz
theorem amount_spec (R:List Asn):Spec 309 [] R fun u L'=>u=odV .a∧L'=R:=by
 refine zGz zk309 Tryz.func309 ?_;intro G;(repeat'(first|refine zA ?_;repeat intro nb|refine zB ?_ ?_<;>intro hc<;>try exact no hc|refine zH ?_ ?_<;>(intro hg;rw[hg];try exact no hg)));all_goals exact zXz
theorem scKey {i:Int} (h:I64 i):keyOf Tryz.prog 3 (.int .i64 i)=some (.int .i64 i):=keyOf_int_mk (q:=.i64) (by kernel_rfl) (by
 have:=h.1;have:=h.2;simp[Lit.wf,IntKind.min,IntKind.max,IntKind.signed,IntKind.bits];omega)
instance scMT:MT 407 3 350:=⟨by kernel_rfl,int_keyed (q:=.i64) (by kernel_rfl)⟩
instance scZV:ZV 350 (.slice none 0 0):=⟨by kernel_rfl⟩
theorem operands_spec (k:Int) (hk:I64 k) (R:List Asn):Spec 237 [.int .i64 k] R fun u L'=>∃ h,u=.tuple [sl h,.bool (odsOf k).isSome].toArray∧L'=ownT 356 odL 3 (sl h) ((odsOf k).getD [])::R:=by
 refine zGo Tryz.func237 ?_;intro G w M a F
 have M:=M.own_nil 356 3
 (try refine zI zk237 F M ?_;clear F M a;try clear w);(repeat'(first|refine zA ?_;repeat intro nb|refine zC ?_;(first|apply ac_makeMap;exact rfl;exact inferInstance;intro nm|refine ac_insM rfl rfl rfl rfl inferInstance (scKey (by constructor<;>decide)) (by(focus ((repeat (first|exact Rep.here|apply Rep.there));done))) (by simp) ?_|refine kpW (k:=310) (index_spec _) ?_|refine kpW (k:=311) (target_spec _) ?_|refine kpW (k:=309) (amount_spec _) ?_)|refine zB ?_ ?_<;>intro hc<;>try exact no hc|refine zH ?_ ?_<;>(intro hg;rw[hg];try exact no hg)));all_goals try refine zO fun a w F M=>?_
 by_cases hk7:k=1∨k=2∨k=3∨k=4∨k=5∨k=6∨k=7
 ·rcases hk7 with rfl|rfl|rfl|rfl|rfl|rfl|rfl
  all_goals((try refine zI zk237 F M ?_;clear F M a;try clear w);(repeat'(first|refine zV (h:=⟨_,by((apply rt_hit2;(exact rfl);(exact rfl);(exact rfl);(exact inferInstance);(exact gives_mp pullA);(exact scKey (by constructor<;>decide));((repeat (first|exact List.Mem.head _|apply List.Mem.tail));done))),?_⟩)|refine zA1 ?_;repeat intro(nb:Nat)|refine zC ?_;(first|apply ac_makeMap;exact rfl;exact inferInstance;intro nm|refine ac_insM rfl rfl rfl rfl inferInstance (scKey (by constructor<;>decide)) (by(focus ((repeat (first|exact Rep.here|apply Rep.there));done))) (by simp) ?_|refine kpW (k:=310) (index_spec _) ?_|refine kpW (k:=311) (target_spec _) ?_|refine kpW (k:=309) (amount_spec _) ?_)|refine zB ?_ ?_<;>intro hc<;>try exact no hc|refine zH ?_ ?_<;>(intro hg;rw[hg];try exact no hg)));all_goals try refine zO fun a w F M=>?_)
  all_goals refine zE F M ?_
  all_goals exact⟨_,_,rfl,⟨⟨_,_,_⟩,rfl,rfl⟩,M.perms permsA⟩
 ·have e:odsOf k=none:=by
   unfold odsOf
   repeat rw[if_neg (by omega)]
  (try refine zI zk237 F M ?_;clear F M a;try clear w);(repeat'(first|refine zV (h:=⟨_,by((apply rt_miss2;(exact rfl);(exact rfl);(exact rfl);(exact inferInstance);(exact gives_mp pullA);(exact scKey hk);(intro p hp he;simp only[List.mem_cons,List.not_mem_nil,or_false] at hp;(rcases hp with rfl|rfl|rfl|rfl|rfl|rfl|rfl)<;>(injection he with _ he;omega));(exact inferInstance))),?_⟩)|refine zA1 ?_;repeat intro(nb:Nat)|refine zC ?_;(first|apply ac_makeMap;exact rfl;exact inferInstance;intro nm|refine ac_insM rfl rfl rfl rfl inferInstance (scKey (by constructor<;>decide)) (by(focus ((repeat (first|exact Rep.here|apply Rep.there));done))) (by simp) ?_|refine kpW (k:=310) (index_spec _) ?_|refine kpW (k:=311) (target_spec _) ?_|refine kpW (k:=309) (amount_spec _) ?_)|refine zB ?_ ?_<;>intro hc<;>try exact no hc|refine zH ?_ ?_<;>(intro hg;rw[hg];try exact no hg)));all_goals try refine zO fun a w F M=>?_
  all_goals refine zE F M ?_
  all_goals(rw[e];exact⟨_,_,rfl,⟨nilH,rfl,rfl⟩,M.perms permsA⟩)
theorem szL_take {ds:List Od} {j:Nat} {d:Od} (h:ds[j]? = some d):szL (ds.take (j+1))=szL (ds.take j)+d.size:=by
 induction ds generalizing j with
 | nil=>simp at h
 | cons e ds ih =>
  cases j with
  | zero=>simp at h;subst h;simp[szL]
  | succ j=>simp at h;rw[List.take_succ_cons,List.take_succ_cons,szL,szL,ih h];omega
theorem ods_len {k:Int} {ds:List Od} (h:odsOf k=some ds):ds.length≤2∧szL ds≤10:=by
 rcases ods_cases h with⟨_,rfl⟩|⟨_,rfl⟩|⟨_,rfl⟩|⟨_,rfl⟩|⟨_,rfl⟩|⟨_,rfl⟩|⟨_,rfl⟩<;>decide
theorem od_size (d:Od):d.size≤8∧2≤d.size:=by cases d<;>decide
theorem size_spec (k:Int) (hk:I64 k) (R:List Asn):Spec 307 [.int .i64 k] R fun u L'=>u=.int .i64 (szK k)∧L'=R:=by
 have hop:=fun R=>operands_spec k hk R
 cases hd:odsOf k with
 | none =>
  rw[hd] at hop
  simp only[Option.isSome_none,Option.getD_none] at hop
  have e:szK k=0:=by rw[szK,hd]
  refine zGz zk307 Tryz.func307 ?_;intro G;(repeat'(first|refine zA ?_;repeat intro nb|refine zC ?_;refine acW (k:=237) (hop _) ?_;rintro u L' ⟨h,rfl,rfl⟩|refine zB ?_ ?_<;>intro hc<;>try exact no hc|refine zH ?_ ?_<;>(intro hg;rw[hg];try exact no hg)));all_goals try refine zO fun a w F M=>?_
  all_goals refine zE F M ?_
  all_goals exact⟨_,_,rfl,⟨by rw[e];rfl,rfl⟩,M.perms permsA⟩
 | some ds =>
  rw[hd] at hop
  simp only[Option.isSome_some,Option.getD_some] at hop
  obtain ⟨hl,hz⟩:=ods_len hd
  have e:szK k=1+szL ds:=by rw[szK,hd]
  refine zGz zk307 Tryz.func307 ?_;intro G;(repeat'(first|refine zA ?_;repeat intro nb|refine zC ?_;refine acW (k:=237) (hop _) ?_;rintro u L' ⟨h,rfl,rfl⟩|refine zB ?_ ?_<;>intro hc<;>try exact no hc|refine zH ?_ ?_<;>(intro hg;rw[hg];try exact no hg)));all_goals try refine zO fun a w F M=>?_
  refine svLoop F M (0:Nat) (fun j=>[(17,.int .i64 j),(5,.int .i64 ((1+szL (ds.take j):Nat):Int))]) (fun _=>[]) (fun j=>j≤ds.length) (fun j=>ds.length - j) [7] (Nat.zero_le _) ?_
  (rintro j q1 a w F M;(try simp only[zc,zn] at F M q1 ⊢))
  by_cases hj:j<ds.length
  ·obtain ⟨d,hdj⟩:∃ d,ds[j]? = some d:=⟨ds[j],by simp[hj]⟩
   have hs:=szL_take hdj
   have hds:=od_size d
   have hb:szL (ds.take j)≤100:=by
    have:∀ l:List Od,szL l≤8*l.length:=fun l=>by
     induction l with
     | nil=>decide
     | cons d l ih=>have:=od_size d;rw[szL,List.length_cons];omega
    have:=this (ds.take j)
    rw[List.length_take] at this;omega
   have e2:((1+szL (ds.take j):Nat):Int)+(d.size:Int)=((1+szL (ds.take (j+1)):Nat):Int):=by omega
   (try refine zI zk307 F M ?_;clear F M a;try clear w);(repeat'(first|refine zA ?_;repeat intro nb|refine zC ?_;refine acW (k:=237) (hop _) ?_;rintro u L' ⟨h,rfl,rfl⟩|refine zB ?_ ?_<;>intro hc<;>try exact no hc|refine zH ?_ ?_<;>(intro hg;rw[hg];try exact no hg)));all_goals try refine zO fun a w F M=>?_
   rw[e2] at F
   exact sv_again F M (j+1) kpA permsA (by omega) (by omega)
  ·obtain rfl:j=ds.length:=by omega
   (try refine zI zk307 F M ?_;clear F M a;try clear w);(repeat'(first|refine zA ?_;repeat intro nb|refine zC ?_;refine acW (k:=237) (hop _) ?_;rintro u L' ⟨h,rfl,rfl⟩|refine zB ?_ ?_<;>intro hc<;>try exact no hc|refine zH ?_ ?_<;>(intro hg;rw[hg];try exact no hg)));all_goals try refine zO fun a w F M=>?_
   all_goals refine zE F M ?_
   all_goals exact⟨_,_,rfl,⟨by rw[e,List.take_length];rfl,rfl⟩,M.perms permsA⟩
theorem u64of_wrap (x:Int):IntKind.u64.wrap x=(u64of x:Int):=by rw[IntKind.wrap_u64];unfold u64of;omega
theorem odget_spec (d:Od) (o:Opn) (ho:U64 o.am) (R:List Asn):Spec d.gf [opV o] R fun u L'=>u=.int .u64 (u64of (d.get o):Int)∧L'=R:=by
 have e:((u64of o.am:Nat):Int)=o.am:=by unfold u64of;have:=ho.1;have:=ho.2;omega
 have e2:=u64of_wrap o.ix
 have e3:=u64of_wrap o.tg
 obtain ⟨k,ix,tg,am⟩:=o
 simp only at e e2 e3
 cases d
 ·refine zGz zk343 Tryz.func343 ?_;intro G;(repeat'(first|refine zA ?_;repeat intro nb|refine zB ?_ ?_<;>intro hc<;>try exact no hc|refine zH ?_ ?_<;>(intro hg;rw[hg];try exact no hg)));all_goals try refine zO fun a w F M=>?_
  all_goals refine zE F M ?_
  all_goals exact⟨_,_,rfl,⟨by simp only[tupOf,e2,Od.get],rfl⟩,M.perms permsA⟩
 ·refine zGz zk345 Tryz.func345 ?_;intro G;(repeat'(first|refine zA ?_;repeat intro nb|refine zB ?_ ?_<;>intro hc<;>try exact no hc|refine zH ?_ ?_<;>(intro hg;rw[hg];try exact no hg)));all_goals try refine zO fun a w F M=>?_
  all_goals refine zE F M ?_
  all_goals exact⟨_,_,rfl,⟨by simp only[tupOf,e3,Od.get],rfl⟩,M.perms permsA⟩
 ·refine zGz zk341 Tryz.func341 ?_;intro G;(repeat'(first|refine zA ?_;repeat intro nb|refine zB ?_ ?_<;>intro hc<;>try exact no hc|refine zH ?_ ?_<;>(intro hg;rw[hg];try exact no hg)));all_goals try refine zO fun a w F M=>?_
  all_goals refine zE F M ?_
  all_goals exact⟨_,_,rfl,⟨by simp only[tupOf,e,Od.get],rfl⟩,M.perms permsA⟩
theorem set_spec (d:Od) (o:Opn) (b:Nat) (x:Nat) (hx:x<256 ^ d.size) (R:List Asn):Spec d.sf [ptr b,.int .u64 (x:Int)] (pt b (opL o) 42::R) fun u L'=>L'=pt b (opL (d.set o x)) 42::R:=by
 obtain ⟨k,ix,tg,am⟩:=o
 cases d
 ·have e:IntKind.i64.wrap (x:Int)=x:=IntWalk.i64_in _ ⟨by omega,by simp only[Od.size] at hx;omega⟩
  refine zGz zk344 Tryz.func344 ?_;intro G;(repeat'(first|refine zA ?_;repeat intro nb|refine zB ?_ ?_<;>intro hc<;>try exact no hc|refine zH ?_ ?_<;>(intro hg;rw[hg];try exact no hg)));all_goals try refine zO fun a w F M=>?_
  all_goals(try rw[e] at M)
  all_goals refine zE F M ?_
  all_goals exact⟨_,_,rfl,rfl,M.perms permsA⟩
 ·have e:IntKind.i64.wrap (x:Int)=x:=IntWalk.i64_in _ ⟨by omega,by simp only[Od.size] at hx;omega⟩
  refine zGz zk346 Tryz.func346 ?_;intro G;(repeat'(first|refine zA ?_;repeat intro nb|refine zB ?_ ?_<;>intro hc<;>try exact no hc|refine zH ?_ ?_<;>(intro hg;rw[hg];try exact no hg)));all_goals try refine zO fun a w F M=>?_
  all_goals(try rw[e] at M)
  all_goals refine zE F M ?_
  all_goals exact⟨_,_,rfl,rfl,M.perms permsA⟩
 ·refine zGz zk342 Tryz.func342 ?_;intro G;(repeat'(first|refine zA ?_;repeat intro nb|refine zB ?_ ?_<;>intro hc<;>try exact no hc|refine zH ?_ ?_<;>(intro hg;rw[hg];try exact no hg)));all_goals try refine zO fun a w F M=>?_
  all_goals refine zE F M ?_
  all_goals exact⟨_,_,rfl,rfl,M.perms permsA⟩
end
section
open Go.RowKit Go.Maps
instance scGF (d:Od):FK d.gf:=by
 cases d
 ·exact(inferInstance:FK 343)
 ·exact(inferInstance:FK 345)
 ·exact(inferInstance:FK 341)
instance scSF (d:Od):FK d.sf:=by
 cases d
 ·exact(inferInstance:FK 344)
 ·exact(inferInstance:FK 346)
 ·exact(inferInstance:FK 342)
structure BG (L:List Asn) (h:SlH) (bs:List UInt8):Prop where
 g:GS L 1 (sl h) bs.length (bs.flatMap u8L)
 n:h.n=bs.length
 c:bs.length≤h.c
theorem BG.tail {A:Asn} {L:List Asn} {h:SlH} {bs:List UInt8} (g:BG L h bs):BG (A::L) h bs:=⟨GS.tail g.g,g.n,g.c⟩
theorem BG.app {L:List Asn} {h:SlH} {bs:List UInt8} (g:BG L h bs) (G:List Asn):BG (L++G) h bs:=⟨Gives.app g.g,g.n,g.c⟩
theorem BG.from {L:List Asn} {h:SlH} {bs:List UInt8} (g:BG L h bs) {j:Nat} (hj:j≤bs.length):BG L (fromH h j 1) (bs.drop j):=by
 refine⟨fun w M=>?_,by simp only[List.length_drop];rw[g.n],by simp only[List.length_drop];have:=g.c;omega⟩
 have:=(g.g w M).from hj g.c
 rw[flat_drop (f:=u8L) (k:=1) (fun _=>rfl)] at this
 rw[List.length_drop];exact this
theorem BG.to {L:List Asn} {h:SlH} {bs:List UInt8} (g:BG L h bs) {j:Nat} (hj:j≤bs.length):BG L ⟨h.a,j,h.c⟩ (bs.take j):=by
 have hl:(bs.take j).length=j:=by rw[List.length_take];omega
 refine⟨fun w M=>?_,by simp only[hl],by rw[hl];exact Nat.le_trans hj g.c⟩
 have:=(g.g w M).to hj
 rw[flat_take (f:=u8L) (k:=1) (fun _=>rfl)] at this
 rw[hl];exact this
theorem bg_own {L L':List Asn} {h:SlH} {bs:List UInt8} {e:TypeId} {w:World} (M:Mem w L) (hp:Pull L (ownT e u8L 1 (sl h) bs) L'):BG L h bs:=by
 obtain ⟨h1,h2,_,_⟩:=own_h (M.pull hp)
 exact⟨gs_own hp,h1,h2⟩
theorem valB_snoc:∀ (l:List UInt8) (a:Nat) (c:UInt8),valB a (l++[c])=256*valB a l+c.toNat
 | [],a,c=>rfl
 | x::l,a,c=>by rw[zc,valB,valB_snoc l];rfl
theorem valB_le (l:List UInt8) {n:Nat} (h:l.length≤n):valB 0 l<256 ^ n:=by
 have:=valB_lt l 0
 have h2:256 ^ l.length≤256 ^ n:=Nat.pow_le_pow_right (by decide) h
 omega
theorem reader_spec (h:SlH) (R:List Asn):Spec 308 [sl h] R fun u L'=>∃ b,u=.func (.func 340) #[] #[ptr b]∧L'=pt b [sl h] 97::R:=by
 refine zGz zk308 Tryz.func308 ?_;intro G;(repeat'(first|refine zA ?_;repeat intro nb|refine zB ?_ ?_<;>intro hc<;>try exact no hc|refine zH ?_ ?_<;>(intro hg;rw[hg];try exact no hg)));all_goals try refine zO fun a w F M=>?_
 all_goals refine zE F M ?_
 all_goals exact⟨_,_,rfl,⟨_,rfl,rfl⟩,M.perms permsA⟩
theorem reader1_spec (b:Nat) (h:SlH) (bs:List UInt8) (n:Nat) (hn:n≤8) (hl:n≤bs.length) (R:List Asn) (hg:BG R h bs):Spec 340 [.int .i64 n,ptr b] (pt b [sl h] 97::R) fun u L'=>u=.int .u64 (valB 0 (bs.take n):Nat)∧L'=pt b [sl (fromH h n 1)] 97::R:=by
 have hc:=hg.c
 have hgn:=hg.n
 refine zGo Tryz.func340 ?_;intro G w M a F
 have g2:=(hg.app G).to hl
 have hl2:(bs.take n).length=n:=by rw[List.length_take];omega
 have g3:=g2.g
 rw[hl2] at g3
 (try refine zI zk340 F M ?_;clear F M a;try clear w);(repeat'(first|refine zV (h:=⟨_,by((apply rt_to (h:=h) (k:=.i64) (j:=n);(exact rfl);(exact rfl);(exact rfl);(exact inferInstance);(exact Nat.le_trans hl hc))),?_⟩)|refine zA1 ?_;repeat intro(nb:Nat)|refine zB ?_ ?_<;>intro hc<;>try exact no hc|refine zH ?_ ?_<;>(intro hg;rw[hg];try exact no hg)));all_goals try refine zO fun a w F M=>?_
 refine svLoop F M (0:Nat) (fun j=>[(11,.int .i64 j),(4,.int .u64 (valB 0 (bs.take j):Nat))]) (fun _=>[]) (fun j=>j≤n) (fun j=>n - j) [6] (Nat.zero_le _) ?_
 (rintro j q1 a w F M;(try simp only[zc,zn] at F M q1 ⊢))
 by_cases hj:j<n
 ·obtain ⟨x,hx⟩:∃ x,bs[j]? = some x:=⟨bs[j]'(by omega),by rw[List.getElem?_eq_getElem]⟩
  have hx2:(bs.take n)[j]? = some x:=by rw[List.getElem?_take,if_pos hj,hx]
  have hx3:x.toNat<256:=x.toNat_lt
  have e1:valB 0 (bs.take (j+1))=256*valB 0 (bs.take j)+x.toNat:=by rw[List.take_add_one,hx];exact valB_snoc _ _ _
  have hb:valB 0 (bs.take j)<256 ^ 7:=valB_le _ (by rw[List.length_take];omega)
  have hw:IntKind.u64.wrap (x.toNat:Int)=(x.toNat:Int):=by rw[IntKind.wrap_u64];omega
  generalize valB 0 (bs.take j)=A at *
  have hA:A*256<18446744073709551616:=by omega
  (try refine zI zk340 F M ?_;clear F M a;try clear w);(repeat'(first|refine zV (h:=⟨_,by((first|(apply rt_shl (m:=A) (s:=8) (k:=.u64);(exact rfl);(exact rfl);(exact rfl);decide;(exact hA))|(apply rt_shl (m:=A) (s:=8) (k:=.u8);(exact rfl);(exact rfl);(exact rfl);decide;(exact hA))|(apply rt_conv;(exact rfl);(exact rfl);(exact inferInstance);(exact inferInstance);(exact hw))|(apply rt_or8 (m:=A) (p:=x.toNat);(exact rfl);(exact rfl);(exact rfl);(exact hx3);(exact hA)))),?_⟩)|refine zA1 ?_;repeat intro(nb:Nat)|refine zB ?_ ?_<;>intro hc<;>try exact no hc|refine zH ?_ ?_<;>(intro hg;rw[hg];try exact no hg)));all_goals try refine zO fun a w F M=>?_
  rw[← e1] at F
  exact sv_again F M (j+1) kpA permsA (by omega) (by omega)
 ·obtain rfl:j=n:=by omega
  (try refine zI zk340 F M ?_;clear F M a;try clear w);(repeat'(first|refine zV (h:=⟨_,by((apply rt_from (h:=h) (k:=.i64) (j:=j);(exact rfl);(exact rfl);(exact rfl);(exact inferInstance);omega)),?_⟩)|refine zA1 ?_;repeat intro(nb:Nat)|refine zB ?_ ?_<;>intro hc<;>try exact no hc|refine zH ?_ ?_<;>(intro hg;rw[hg];try exact no hg)));all_goals try refine zO fun a w F M=>?_
  all_goals refine zE F M ?_
  all_goals exact⟨_,_,rfl,⟨rfl,rfl⟩,M.perms permsA⟩
theorem rd_drop {ds:List Od} {j:Nat} {d:Od} (h:ds[j]? = some d) (p:Opn) (r:List UInt8):rdL (ds.drop j) p r=rdL (ds.drop (j+1)) (d.set p (valB 0 (r.take d.size))) (r.drop d.size):=by
 rw[drop_cons h];rfl
structure DcZ where
 j:Nat
 p:Opn
 h:SlH
 r:List UInt8
theorem dec_spec (h:SlH) (bs:List UInt8) (q:Nat) (hq:q<bs.length) (hlen:bs.length≤1000000) (R:List Asn) (hg:BG R h bs):Spec 236 [sl h,.int .i64 q] R fun u L'=>u=.tuple [opV (decM bs q).1,.int .i64 (decM bs q).2,.bool true].toArray∧L'=R:=by
 obtain ⟨x,hx⟩:∃ x,bs[q]? = some x:=⟨bs[q],by rw[List.getElem?_eq_getElem]⟩
 have hgn:=hg.n
 have hx3:x.toNat<256:=x.toNat_lt
 have hI:I64 (x.toNat:Int):=⟨by omega,by omega⟩
 have hsz:=fun R=>size_spec (x.toNat:Int) hI R
 have hop:=fun R=>operands_spec (x.toNat:Int) hI R
 have hcv:IntKind.i64.wrap (x.toNat:Int)=(x.toNat:Int):=IntWalk.i64_in _ ⟨by omega,by omega⟩
 cases hd:odsOf (x.toNat:Int) with
 | none =>
  have e:decM bs q=(oz 0,q+1):=by rw[decM,hx,Option.getD_some,hd]
  rw[szK,hd] at hsz
  rw[e]
  refine zGo Tryz.func236 ?_;intro G w M a F
  have gg:=(hg.app G).g
  (try refine zI zk236 F M ?_;clear F M a;try clear w);(repeat'(first|refine zV (h:=⟨_,by((apply rt_conv;(exact rfl);(exact rfl);(exact inferInstance);(exact inferInstance);(exact hcv))),?_⟩)|refine zA1 ?_;repeat intro(nb:Nat)|refine zC ?_;refine kpW (k:=307) (hsz _) ?_|refine zB ?_ ?_<;>intro hc<;>try exact no hc|refine zH ?_ ?_<;>(intro hg;rw[hg];try exact no hg)));all_goals try refine zO fun a w F M=>?_
  all_goals refine zE F M ?_
  all_goals exact⟨_,_,rfl,⟨rfl,rfl⟩,M.perms permsA⟩
 | some ds =>
  rw[szK,hd] at hsz
  rw[hd] at hop
  simp only[Option.isSome_some,Option.getD_some] at hop hsz
  obtain ⟨hl2,hz⟩:=ods_len hd
  by_cases hs:bs.length - q<1+szL ds
  ·have e:decM bs q=(oz 0,bs.length):=by rw[decM,hx,Option.getD_some,hd];simp only[if_pos hs]
   rw[e]
   refine zGo Tryz.func236 ?_;intro G w M a F
   have gg:=(hg.app G).g
   (try refine zI zk236 F M ?_;clear F M a;try clear w);(repeat'(first|refine zV (h:=⟨_,by((apply rt_conv;(exact rfl);(exact rfl);(exact inferInstance);(exact inferInstance);(exact hcv))),?_⟩)|refine zA1 ?_;repeat intro(nb:Nat)|refine zC ?_;refine kpW (k:=307) (hsz _) ?_|refine zB ?_ ?_<;>intro hc<;>try exact no hc|refine zH ?_ ?_<;>(intro hg;rw[hg];try exact no hg)));all_goals try refine zO fun a w F M=>?_
   all_goals refine zE F M ?_
   all_goals exact⟨_,_,rfl,⟨rfl,rfl⟩,M.perms permsA⟩
  ·have e:decM bs q=(rdL ds (oz x.toNat) (bs.drop (q+1)),q+(1+szL ds)):=by rw[decM,hx,Option.getD_some,hd];simp only[if_neg hs]
   rw[e]
   have hrd:=fun R=>reader_spec (fromH h (q+1) 1) R
   have gb:=hg.from (j:=q+1) (by omega)
   refine zGo Tryz.func236 ?_;intro G w M a F
   have gg:=(hg.app G).g
   have gb:=gb.app G
   (try refine zI zk236 F M ?_;clear F M a;try clear w);(repeat'(first|refine zV (h:=⟨_,by((first|(apply rt_conv;(exact rfl);(exact rfl);(exact inferInstance);(exact inferInstance);(exact hcv))|(apply rt_from (h:=h) (k:=.i64) (j:=q+1);(exact rfl);(exact rfl);(exact rfl);(exact inferInstance);omega))),?_⟩)|refine zA1 ?_;repeat intro(nb:Nat)|refine zC ?_;(first|refine kpW (k:=307) (hsz _) ?_|refine acW (k:=237) (hop _) ?_;rintro u L' ⟨ho,rfl,rfl⟩|refine acW (k:=308) (hrd _) ?_;rintro u L' ⟨rb,rfl,rfl⟩)|refine zB ?_ ?_<;>intro hc<;>try exact no hc|refine zH ?_ ?_<;>(intro hg;rw[hg];try exact no hg)));all_goals try refine zO fun a w F M=>?_
   obtain ⟨b9,hb9⟩:∃ b9,b9=nb:=⟨_,rfl⟩
   rw[← hb9] at F M
   refine svLoop F M (⟨0,oz x.toNat,fromH h (q+1) 1,bs.drop (q+1)⟩:DcZ) (fun z=>[(61,.int .i64 z.j)]) (fun z=>[pt b9 (opL z.p) 42,pt rb [sl z.h] 97]) (fun z=>z.j≤ds.length∧rdL (ds.drop z.j) z.p z.r=rdL ds (oz x.toNat) (bs.drop (q+1))∧szL (ds.drop z.j)≤z.r.length∧BG (R++G) z.h z.r) (fun z=>ds.length - z.j) [14] ⟨Nat.zero_le _,rfl,by simp only[List.drop_zero,List.length_drop];omega,gb⟩ ?_ (hR:=by(repeat (first|exact Pulls.nil|(apply Pulls.cons;(focus ((repeat (first|exact Pull.here|apply Pull.there));done))))))
   (rintro⟨j,p,hh,r⟩ ⟨q1,q2,q3,q4⟩ a w F M;(try simp only[zc,zn] at F M q1 q2 q3 q4 ⊢))
   by_cases hj:j<ds.length
   ·obtain ⟨d,hdj⟩:∃ d,ds[j]? = some d:=⟨ds[j],by simp[hj]⟩
    have hds:=od_size d
    rw[drop_cons hdj,szL] at q3
    rw[rd_drop hdj] at q2
    have hr1:=fun R (hg:BG R hh r)=>reader1_spec rb hh r d.size hds.1 (by omega) R hg
    have hst:=fun R=>set_spec d p b9 (valB 0 (r.take d.size)) (valB_le _ (by rw[List.length_take];omega)) R
    have gr:=q4.from (j:=d.size) (by omega)
    (try refine zI zk236 F M ?_;clear F M a;try clear w);(repeat'(first|refine zV (h:=⟨_,by((first|(apply rt_conv;(exact rfl);(exact rfl);(exact inferInstance);(exact inferInstance);(exact hcv))|(apply rt_from (h:=h) (k:=.i64) (j:=q+1);(exact rfl);(exact rfl);(exact rfl);(exact inferInstance);omega))),?_⟩)|refine zA1 ?_;repeat intro(nb:Nat)|refine zC ?_;(first|refine acK (L1:=pt rb [sl hh] 97::_) (k:=340) (hr1 _ ?_) ?_;(focus ((repeat (first|exact q4|apply BG.tail));done));rintro u L' ⟨rfl,rfl⟩|refine acK (L1:=pt b9 (opL p) 42::_) (k:=d.sf) (hst _) ?_;rintro u L' rfl)|refine zB ?_ ?_<;>intro hc<;>try exact no hc|refine zH ?_ ?_<;>(intro hg;rw[hg];try exact no hg)));all_goals try refine zO fun a w F M=>?_
    refine sv_again F M (⟨j+1,d.set p (valB 0 (r.take d.size)),fromH hh d.size 1,r.drop d.size⟩:DcZ) kpA permsA ⟨by simp only;omega,q2,by simp only[List.length_drop];omega,gr⟩ (by simp only;omega)
   ·obtain rfl:j=ds.length:=by omega
    rw[List.drop_length] at q2
    have q2:p=_:=q2
    subst q2
    (try refine zI zk236 F M ?_;clear F M a;try clear w);(repeat'(first|refine zV (h:=⟨_,by((first|(apply rt_conv;(exact rfl);(exact rfl);(exact inferInstance);(exact inferInstance);(exact hcv))|(apply rt_from (h:=h) (k:=.i64) (j:=q+1);(exact rfl);(exact rfl);(exact rfl);(exact inferInstance);omega))),?_⟩)|refine zA1 ?_;repeat intro(nb:Nat)|refine zC ?_;refine kpW (k:=307) (hsz _) ?_|refine zB ?_ ?_<;>intro hc<;>try exact no hc|refine zH ?_ ?_<;>(intro hg;rw[hg];try exact no hg)));all_goals try refine zO fun a w F M=>?_
    all_goals refine zE F M ?_
    all_goals exact⟨_,_,rfl,⟨rfl,rfl⟩,M.perms permsA⟩
end
def zkl7:List Nat:=[0,1,3,4,5,6,10,25]
def zkl8:List Nat:=[0,2,3,4,6]
section
open Go.RowKit Go.Maps
theorem operations_spec (h:SlH) (L:List Asn):Spec 166 [sl h] L fun u L'=>∃ b,u=.func (.func 240) #[] #[ptr b]∧L'=pt b [sl h] 97::L:=by
 refine zGz zk166 Tryz.func166 ?_;intro G;(repeat'(first|refine zA ?_;repeat intro nb|refine zB ?_ ?_<;>intro hc<;>try exact no hc|refine zH ?_ ?_<;>(intro hg;rw[hg];try exact no hg)));all_goals try refine zO fun a w F M=>?_
 all_goals refine zE F M ?_
 all_goals exact⟨_,_,rfl,⟨_,rfl,rfl⟩,M.perms permsA⟩
def outS (b:Nat) (l:List Opn):Asn:=exA fun h:SlH=>[pt b [sl h] 25,ownT 42 opL 4 (sl h) l]
theorem outS_open {w:World} {L:List Asn} {b:Nat} {l:List Opn} (M:Mem w (outS b l::L)):∃ h,Mem w (pt b [sl h] 25::ownT 42 opL 4 (sl h) l::L):=by
 obtain ⟨h,M⟩:=M.exo
 exact⟨h,M⟩
theorem outS_close {w:World} {L:List Asn} {b:Nat} {l:List Opn} {h:SlH} (M:Mem w (pt b [sl h] 25::ownT 42 opL 4 (sl h) l::L)):Mem w (outS b l::L):=Mem.exc (f:=fun h:SlH=>[pt b [sl h] 25,ownT 42 opL 4 (sl h) l]) h M
section
variable {ops:Array Oper} {Q:Exit→Act→World→Prop} {rest:List Oper} {o:Oper} {a:Act} {w:World} {n:Nat} {l:List (Nat × Value)} {L:List Asn}
theorem lvYs (F:Fr a n l) (M:Mem w L) {d:Nat} {fo:Operand} {xs:Array Operand} {ats:Array TypeId} {lp:Nat} {x:Value} {fn:FuncId} {tmps:Array Value} {p:Nat} {asg bod:Code} {D:Nat} {A B:Asn} {R:List Asn}
  (hR:RoundC lp fn tmps p asg bod x (obA lp (.loop (lpR fn tmps p asg bod D .ready))::[A]) (obA lp (.loop (lpR fn tmps p asg bod D .ready))::[B]))
  (h:∀ a' w',Fr a' n ((d,.bool true)::l)→Mem w' (obA lp (.loop (lpR fn tmps p asg bod D .ready))::B::R)→wpListIn (FR none) 0 Tryz.prog ops Q rest a' w')
  (hp:Perms L (obA lp (.loop (lpR fn tmps p asg bod D .ready))::A::R):=by exact permsA)
  (ho:o.op=.call {callee:=.value fo,args:=xs,argTypes:=ats}:=by exact rfl) (hf:evl l fo=some (.func (.yield lp) #[] #[]):=by exact rfl) (hx:evls l xs.toList=some [x]:=by exact rfl)
  (hw:Wanted o ops l=some true:=by exact rfl) (hd:o.dst=some d:=by exact rfl) (hn:Nat.ble (d+1) n=true:=by exact rfl):wpListIn (FR none) 0 Tryz.prog ops Q (o::rest) a w :=
 lvY (R:=R) F M hR hp h ho hf hx hw hd hn
end
section
variable (bb b7:Nat) (h:SlH) (bs:List UInt8) (hlen:bs.length≤100000) (R:List Asn) (hg:BG R h bs) (lp:Nat) (fn:FuncId) (tmps:Array Value) (p D:Nat) (asg bod:Code)
include hlen hg in
theorem ops1_spec (hrd:∀ (out:List Opn) (o:Opn),out.length≤100000→RoundC lp fn tmps p asg bod (opV o) (obA lp (.loop (lpR fn tmps p asg bod D .ready))::[outS b7 out]) (obA lp (.loop (lpR fn tmps p asg bod D .ready))::[outS b7 (out++[o])])) :
  Spec 240 [.func (.yield lp) #[] #[],ptr bb] (obA lp (.loop (lpR fn tmps p asg bod D .ready))::outS b7 []::pt bb [sl h] 97::R) fun u L'=>L'=obA lp (.loop (lpR fn tmps p asg bod D .ready))::outS b7 (decAll bs 0)::R:=by
 generalize hX:decAll bs 0=X
 refine zGo Tryz.func240 ?_;intro G w M a F
 have gb:=hg.app G
 have gg:=gb.g
 (try refine zI zk240 F M ?_;clear F M a;try clear w);(repeat'(first|refine zA ?_;repeat intro nb|refine zB ?_ ?_<;>intro hc<;>try exact no hc|refine zH ?_ ?_<;>(intro hg;rw[hg];try exact no hg)));all_goals try refine zO fun a w F M=>?_
 refine svLoop F M ((0,[]):Nat × List Opn) (fun s=>[(3,.int .i64 s.1)]) (fun s=>[outS b7 s.2]) (fun s=>s.1≤bs.length∧s.2++decAll bs s.1=X∧s.2.length≤s.1) (fun s=>bs.length - s.1) [4,5,6] ⟨Nat.zero_le _,hX,Nat.zero_le _⟩ ?_ (hR:=by(repeat (first|exact Pulls.nil|(apply Pulls.cons;(focus ((repeat (first|exact Pull.here|apply Pull.there));done))))))
 (rintro⟨j,out⟩ ⟨q1,q2,q3⟩ a w F M;(try simp only[zc,zn] at F M q1 q2 q3 ⊢))
 by_cases hj:j<bs.length
 ·have hd:=fun R hg=>dec_spec h bs j hj (by omega) R hg
  have hlt:=decM_lt hj
  rw[decAll_step hj] at q2
  generalize decM bs j=DD at *
  obtain ⟨o,nx⟩:=DD
  simp only at hd hlt q2
  have hrd2:=hrd out o (by omega)
  (repeat'(first|(refine li_nil ?_;(try(replace F:=F.filt zkl7 rfl)))|(((refine lvYs F M hrd2 ?_);clear F M a;intro a w F M))|(refine lv1 F M (h:=?_);clear F a;intro a F)|(refine lv3 F M (h:=?_);clear M;intro w M)|(refine lv2 F M (h:=?_);clear F M a;intro nb a w F M)|(refine lvC F M (h:=?_);(((refine acW (k:=236) (hd _ ?_) ?_);(focus ((repeat (first|assumption|apply BG.tail));done));rintro u L' ⟨rfl,rfl⟩));(clear F M a;intro a w F M))|(refine lvK F (h:=?_);clear F a;intro a F)|((refine lvG F rfl (fun hg=>?_) (fun hg=>?_))<;>(rw[hg] at F;(try(exact no hg))))|((fail_if_success(with_reducible first|refine isI ?_|refine isL ?_));(first|with_reducible refine reg_out ?_|((with_reducible refine isK ?_);(first|refine svT F (h:=?_)|refine svF F (h:=?_)|((refine svB F (fun hc=>?_) (fun hc=>?_))<;>(try(exact no hc)))))|go_step))))
  exact sv_again F M ((nx,out++[o]):Nat × List Opn) kpA permsA ⟨by simp only;omega,by simpa using q2,by simp;omega⟩ (by simp only;omega)
 ·obtain rfl:j=bs.length:=by omega
  rw[decAll_end (Nat.le_refl _),List.append_nil] at q2
  subst q2
  (repeat'(first|(refine li_nil ?_;(try(replace F:=F.filt zkl7 rfl)))|(fail)|(refine lv1 F M (h:=?_);clear F a;intro a F)|(refine lv3 F M (h:=?_);clear M;intro w M)|(refine lv2 F M (h:=?_);clear F M a;intro nb a w F M)|(refine lvC F M (h:=?_);(fail);(clear F M a;intro a w F M))|(refine lvK F (h:=?_);clear F a;intro a F)|((refine lvG F rfl (fun hg=>?_) (fun hg=>?_))<;>(rw[hg] at F;(try(exact no hg))))|((fail_if_success(with_reducible first|refine isI ?_|refine isL ?_));(first|with_reducible refine reg_out ?_|((with_reducible refine isK ?_);(first|refine svT F (h:=?_)|refine svF F (h:=?_)|((refine svB F (fun hc=>?_) (fun hc=>?_))<;>(try(exact no hc)))))|go_step))))
  all_goals refine zE F M ?_
  all_goals exact⟨_,_,rfl,rfl,M.perms permsA⟩
end
theorem sdec_spec (h:SlH) (bs:List UInt8) (hlen:bs.length≤100000) (R:List Asn) (hg:BG R h bs):Spec 102 [sl h] R fun u L'=>∃ h',u=sl h'∧L'=ownT 42 opL 4 (sl h') (decAll bs 0)::R:=by
 intro G w M
 refine sx_enterM (vs:=([sl h]:List Value)) Tryz.func102 (n:=13) rfl rfl rfl rfl ?_
 intro a F
 have gb:=hg.app G
 (try refine zI zk102 F M ?_;clear F M a;try clear w);(repeat'(first|refine zA ?_;repeat intro nb|refine zC ?_;refine acW (k:=166) (operations_spec h _) ?_;rintro u L' ⟨bb,rfl,rfl⟩|refine zB ?_ ?_<;>intro hc<;>try exact no hc|refine zH ?_ ?_<;>(intro hg;rw[hg];try exact no hg)));all_goals try refine zO fun a w F M=>?_
 obtain ⟨b7,hb7⟩:∃ b7,b7=nb:=⟨_,rfl⟩
 rw[← hb7] at F M
 have M0:=M.own_nil 42 4
 have M1:Mem w (outS b7 []::pt bb [sl h] 97::(R++G)):=outS_close (h:=nilH) (M0.perms permsA)
 clear M M0
 refine rf_range F M1 (g:=.tmp 6) rfl inferInstance (C:=fun L2=>L2=outS b7 (decAll bs 0)::(R++G)) (fun fn lp D=>?_) (fun D w' L2 hC M2=>?_)
 ·refine Spec.mono (ops1_spec bb b7 h bs hlen (R++G) gb lp fn a.tmps 7 D _ _ (fun out o ho=>?_)) ?_
  ·refine round_mk F rfl fun G2 a w F M=>?_
   obtain ⟨ok,oi,ot,oa⟩:=o
   refine reg_in ?_
   (repeat'(first|(refine li_nil ?_;(try(replace F:=F.filt zkl8 rfl)))|(refine lv1 F M (h:=?_);clear F a;intro a F)|(refine lv3 F M (h:=?_);clear M;intro w M)|(refine lv2 F M (h:=?_);clear F M a;intro nb a w F M)|(refine lvC F M (h:=?_);(fail);(clear F M a;intro a w F M))|(refine lvK F (h:=?_);clear F a;intro a F)|((refine lvG F rfl (fun hg=>?_) (fun hg=>?_))<;>(rw[hg] at F;(try(exact no hg))))))
   refine⟨pt nb (opL ⟨ok,oi,ot,oa⟩) 42::outS b7 out::G2,(M.perms permsA:Mem _ _),fun w M=>?_⟩
   refine wpIn_block (reg_in ?_)
   obtain ⟨h9,M2⟩:=outS_open (M.pull (.there (.there .here)))
   clear M;have M:=M2;clear M2
   (repeat'(first|(refine li_nil ?_;(try(replace F:=F.filt zkl8 rfl)))|(refine lv1 F M (h:=?_);clear F a;intro a F)|(refine lv3 F M (h:=?_);clear M;intro w M)|(refine lv2 F M (h:=?_);clear F M a;intro nb a w F M)|(refine lvC F M (h:=?_);((refine ac_appendH (f:=opL) (xs:=out) (ys:=[⟨ok,oi,ot,oa⟩]) rfl rfl inferInstance rfl rfl pullA inferInstance gsA rfl rfl (by simp;omega) ?_;intro nv));(clear F M a;intro a w F M))|(refine lvK F (h:=?_);clear F a;intro a F)|((refine lvG F rfl (fun hg=>?_) (fun hg=>?_))<;>(rw[hg] at F;(try(exact no hg))))))
   exact⟨rfl,(outS_close (h:=nv) (M.perms permsA)).perms permsA⟩
  ·rintro u L' rfl
   exact⟨_,rfl,rfl⟩
 ·subst hC
  clear M1
  obtain ⟨h2,M3⟩:=outS_open (M2.perms (permsA:Perms _ (outS b7 (decAll bs 0)::obA D (.deferred (some []))::(R++G))))
  clear M2;have M:=M3;clear M3
  (repeat'(first|(first|refine sx_nil ?_|refine pv_nil ?_;intro a w F M);try replace F:=F.filt zkl8 rfl|refine zn1 F M ?_;clear F M a;(try clear w);intro a w F M|refine sv2 F M ?_;clear F M a;intro nb a w F M|refine zp1 ?_|refine zp2 ?_;intro nb|((first|refine svC F M ?_|refine svC0 F M ?_|refine pvC ?_|refine pvC0 ?_);(fail);(first|refine⟨rvsA,?_⟩|clear F M a;intro a w F M|clear M;intro w M))|((fail_if_success(with_reducible first|refine isW ?_|refine isP ?_|refine isL ?_));(first|with_reducible refine regL_sh ?_|((with_reducible refine isD ?_);fail)|go_step))))
  refine end_col F (M.perms (permsA:Perms _ (obA D (.deferred (some []))::ownT 42 opL 4 (sl h2) (decAll bs 0)::(R++G)))) ?_
  intro w' M2
  exact⟨_,_,rfl,⟨h2,rfl,rfl⟩,M2⟩
end
section
open Go.RowKit
def rcO (ob:Nat) (X:List Rc):Asn:=exA fun z:SlH × List RcS=>[factA (z.2.map (·.r)=X),pt ob [sl z.1] 68,ownT 39 rsL 9 (sl z.1) z.2,rsA z.2]
theorem rcO_open {w:World} {L:List Asn} {ob:Nat} {X:List Rc} (M:Mem w (rcO ob X::L)):∃ h xs,xs.map (·.r)=X∧Mem w (pt ob [sl h] 68::ownT 39 rsL 9 (sl h) xs::rsA xs::L):=by
 obtain ⟨⟨h,xs⟩,M⟩:=M.exo
 obtain ⟨hx,M⟩:=Mem.factO M
 exact⟨h,xs,hx,M⟩
theorem rcO_close {w:World} {L:List Asn} {ob:Nat} {X:List Rc} {h:SlH} {xs:List RcS} (hx:xs.map (·.r)=X) (M:Mem w (pt ob [sl h] 68::ownT 39 rsL 9 (sl h) xs::rsA xs::L)):Mem w (rcO ob X::L):=Mem.exc (h,xs) (Mem.fact hx M)
theorem run1_spec (ob eb:Nat) (X:List Rc) (hX:X.length≤100000) (x:Rc) (ha hp:SlH) (R:List Asn):Spec 103 [ptr eb,rcV x ha hp,ptr ob] (rcO ob X::ownT 75 asgL 3 (sl ha) x.asg::ownT 57 pmL 3 (sl hp) x.pms::R) fun u L'=>u=.bool true∧L'=rcO ob (X++[x])::R:=by
 intro G w M
 obtain ⟨h,xs,hx,M2⟩:=rcO_open (L:=ownT 75 asgL 3 (sl ha) x.asg::ownT 57 pmL 3 (sl hp) x.pms::(R++G)) M
 clear M;have M:=M2;clear M2
 have hl:xs.length≤100000:=by rw[← hx,List.length_map] at hX;exact hX
 obtain ⟨x1,x2,x3,x4,x5,x6,x7,x8,x9⟩:=x
 (refine zGe Tryz.func103 ?_;intro a F;(try simp only[zc,zn] at M))
 (try refine zI zk103 F M ?_;clear F M a;try clear w);(repeat'(first|refine zA ?_;repeat intro nb|refine zC ?_;refine ac_appendH (f:=rsL) (xs:=xs) (ys:=[⟨⟨x1,x2,x3,x4,x5,x6,x7,x8,x9⟩,ha,hp⟩]) rfl rfl inferInstance rfl rfl pullA inferInstance gsA rfl rfl (by simp;omega) ?_;intro nv|refine zB ?_ ?_<;>intro hc<;>try exact no hc|refine zH ?_ ?_<;>(intro hg;rw[hg];try exact no hg)));all_goals try refine zO fun a w F M=>?_
 have M1:=rs_add (x:=⟨⟨x1,x2,x3,x4,x5,x6,x7,x8,x9⟩,ha,hp⟩) (xs:=xs) (L:=pt ob [sl nv] 68::ownT 39 rsL 9 (sl nv) (xs++[⟨⟨x1,x2,x3,x4,x5,x6,x7,x8,x9⟩,ha,hp⟩])::(R++G)) (M.perms permsA)
 clear M;have M:=rcO_close (X:=X++[⟨x1,x2,x3,x4,x5,x6,x7,x8,x9⟩]) (by simp[hx]) (M1.perms (permsA:Perms _ (pt ob [sl nv] 68::ownT 39 rsL 9 (sl nv) (xs++[⟨⟨x1,x2,x3,x4,x5,x6,x7,x8,x9⟩,ha,hp⟩])::rsA (xs++[⟨⟨x1,x2,x3,x4,x5,x6,x7,x8,x9⟩,ha,hp⟩])::(R++G))))
 clear M1
 all_goals refine zE F M ?_
 exact⟨_,_,rfl,⟨rfl,rfl⟩,M⟩
theorem runM_take1 {c:Cfg} {s:St}:∀ {l:List Opn} {k:Nat} {o:Opn},l[k]? = some o→(runM c s (l.take (k+1))).1=(runM c s (l.take k)).1++[(stepM c (runM c s (l.take k)).2 o).1]
 | [],k,o,h=>by simp at h
 | x::l,0,o,h=>by
  obtain rfl:x=o:=by simpa using h
  rfl
 | x::l,k+1,o,h=>by
  rw[List.take_succ_cons,List.take_succ_cons,runM_cons,runM_cons,runM_take1 (by simpa using h)]
  rfl
theorem runM_len {c:Cfg} {s:St}:∀ (l:List Opn),(runM c s l).1.length=l.length
 | []=>rfl
 | x::l=>by rw[runM_cons,List.length_cons,List.length_cons,runM_len l]
theorem run1_ok (c:Cfg) (l:List Opn) (hl:l.length≤100000) (ob:Nat):AftOk c l 103 [ptr ob] fun i=>rcO ob (runM c St.ini (l.take i)).1:=fun i o s ho hs eb H ha hp R=>by
 have:=run1_spec ob eb (runM c St.ini (l.take i)).1 (by rw[runM_len,List.length_take];omega) (stepM c s o).1 ha hp (engL eb H c (stepM c s o).2 R)
 refine Spec.mono this ?_
 rintro u L' ⟨rfl,rfl⟩
 exact⟨H,rfl,by show _=rcO ob (runM c St.ini (l.take (i+1))).1::_;rw[runM_take1 ho,← hs]⟩
section
variable (c:Cfg) (hc:CfOk c) (hk:checkF c=0)
include hc hk in
theorem perform1_spec (v:Value) (D:List Opn) (hl:D.length≤100000) (hwf:∀ o∈D,I64 o.k∧U64 o.am) (ob:Nat) (R:List Asn) (hg:GS R 4 v D.length (D.flatMap opL)) :
  Spec 101 [cfgV c,v,.func (.func 103) #[] #[ptr ob]] (pt ob [.slice none 0 0] 68::R) fun u L'=>∃ s h0 xs h1 h2 h3 h4 h5 h6,s=(runM c St.ini D).2∧xs.map (·.r)=(runM c St.ini D).1∧u=.tuple [snV (snOf c s h1 h2 h3 h4 h5 h6),.int .i64 0].toArray∧L'=pt ob [sl h0] 68::ownT 39 rsL 9 (sl h0) xs::rsA xs::ownT 62 valL 7 (sl h1) s.V::ownT 3 natL 1 (sl h2) s.pe::ownT 3 natL 1 (sl h3) s.fo::ownT 3 natL 1 (sl h4) s.vo::ownT 77 prL 2 (sl h5) s.me::ownT 79 rqL 2 (sl h6) s.pa::R:=by
 intro G w M
 have M1:Mem w (rcO ob []::(R++G)):=rcO_close (h:=nilH) (xs:=[]) rfl ((rs_nil (M.own_nil 39 9)).perms (permsA:Perms _ (pt ob [sl nilH] 68::ownT 39 rsL 9 (sl nilH) []::rsA []::(R++G))))
 have hpf:=perform_spec c hc hk v D hl hwf 103 [ptr ob] _ (run1_ok c D hl ob) R hg
 refine(hpf G w M1).mono ?_
 rintro e w' ⟨u,L',rfl,⟨s,h1,h2,h3,h4,h5,h6,hs,rfl,rfl⟩,M2⟩
 rw[List.take_length] at M2
 obtain ⟨h0,xs,hx,M3⟩:=rcO_open M2
 exact⟨_,_,rfl,⟨s,h0,xs,h1,h2,h3,h4,h5,h6,hs,hx,rfl,rfl⟩,M3⟩
include hc hk in
theorem rrun_spec (h:SlH) (bs:List UInt8) (hlen:bs.length≤100000) (hl:(decAll bs 0).length≤100000) (hwf:∀ o∈decAll bs 0,I64 o.k∧U64 o.am) (R:List Asn) (hg:BG R h bs) :
  Spec 38 [cfgV c,sl h] R fun u L'=>∃ s h0 xs h1 h2 h3 h4 h5 h6,s=(runM c St.ini (decAll bs 0)).2∧xs.map (·.r)=(runM c St.ini (decAll bs 0)).1∧u=.tuple [.agg (sl h0::snL (snOf c s h1 h2 h3 h4 h5 h6)).toArray,.int .i64 0].toArray∧L'=ownT 39 rsL 9 (sl h0) xs::rsA xs::ownT 62 valL 7 (sl h1) s.V::ownT 3 natL 1 (sl h2) s.pe::ownT 3 natL 1 (sl h3) s.fo::ownT 3 natL 1 (sl h4) s.vo::ownT 77 prL 2 (sl h5) s.me::ownT 79 rqL 2 (sl h6) s.pa::R:=by
 have hde:=fun R hg=>sdec_spec h bs hlen R hg
 generalize hD:decAll bs 0=D at *
 have hpf:=fun v ob R hg=>perform1_spec c hc hk v D hl hwf ob R hg
 refine zGo Tryz.func38 ?_;intro G w M a F
 have gb:=hg.app G
 (try refine zI zk38 F M ?_;clear F M a;try clear w);(repeat'(first|refine zA ?_;repeat intro nb|refine zC ?_;(first|refine acW (k:=102) (hde _ ?_) ?_;(focus ((repeat (first|assumption|apply BG.tail));done));rintro u L' ⟨h',rfl,rfl⟩|refine acK (k:=101) (hpf _ _ _ ?_) ?_;exact gs_own pullA;rintro u L' ⟨s,h0,xs,h1,h2,h3,h4,h5,h6,hs,hx,rfl,rfl⟩)|refine zB ?_ ?_<;>intro hc<;>try exact no hc|refine zH ?_ ?_<;>(intro hg;rw[hg];try exact no hg)));all_goals try refine zO fun a w F M=>?_
 all_goals refine zE F M ?_
 all_goals exact⟨_,_,rfl,⟨s,h0,xs,h1,h2,h3,h4,h5,h6,hs,hx,rfl,rfl⟩,M.perms permsA⟩
end
end
end Go.Proofs.YtjbfcacmdahnhaaGreat
