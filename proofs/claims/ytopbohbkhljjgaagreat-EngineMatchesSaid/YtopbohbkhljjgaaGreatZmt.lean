import Derived.Test.YtopbohbkhljjgaaGreatZms
set_option linter.unusedVariables false
set_option linter.unusedSimpArgs false
set_option linter.unusedSectionVars false
set_option maxRecDepth 100000
set_option maxHeartbeats 8000000
namespace Go.Proofs.YtopbohbkhljjgaaGreat
section
open Go.RowKit Go.Maps
instance apMT:MT 136 3 135:=⟨by kernel_rfl,int_keyed (q:=.i64) (by kernel_rfl)⟩
instance apZV:ZV 135 (.nilFunc):=⟨by kernel_rfl⟩
section
variable {o:Oper} {n:Nat} {l:List (Nat × Value)} {L:List Asn} {C:Value→List Asn→Prop}
theorem ac_insNew {t:TypeId} {x y z:Operand} (ho:o.op=.insert t x y z) {b:Nat} (hx:evl l x=some (.map (some b))) {k v:Value} (hy:evl l y=some k) (hz:evl l z=some v) {K E:TypeId} (ht:MT t K E) {q:Lit} (hk:keyOf Tryz.prog K k=some q) {P:List (Value × Value)} {L2:List Asn} (hp:Rep L (mp b K P) (mp b K ((k,v)::P)) L2) (hno:∀ p∈P,p.1≠k) (h:C undef L2):AC o l L n C:=fun G a w F M=>by
 obtain ⟨L',h1,h2⟩:=hp.both
 obtain ⟨w',e,hm,ht'⟩:=run_mapUpdate_new (v:=v) ht.k ht.h hk (gives_mp (h1.app G) w M) hno
 have:(execOp a.eval o).run Tryz.prog w=.ok .skip w':=by
  unfold execOp
  rw[ho]
  simp[F.eval hx,F.eval hy,F.eval hz,e]
 rw[this]
 refine⟨L2,h,M.rep (hp.app G) fun s hs=>?_⟩
 obtain ⟨rfl,_⟩:=hs.now
 exact⟨ht'.chg,[b],ok_mp (hm.perm (List.Perm.refl _)),fun x hx=>.inl hx⟩
class FT (t:TypeId):Prop where
 k:(match Tryz.prog.underlying t with|some (.func _ _ _)=>true|_=>false)=true
theorem FT.ex {t:TypeId} (h:FT t):∃ a b c,Tryz.prog.underlying t=some (.func a b c):=by
 have:=h.k
 split at this
 ·rename_i a b c e;exact⟨a,b,c,e⟩
 ·cases this
theorem equalIn_fn (d:Nat) {t:TypeId} (h:FT t) (g:Fn) (fs cs:Array Value) (w:World):(Op.equalIn (d+1) t (.func g fs cs) .nilFunc).run Tryz.prog w=.ok false w:=by
 obtain ⟨a1,b1,c1,h⟩:=h.ex
 simp[Op.equalIn,run_underlying h]
theorem equalIn_nn (d:Nat) {t:TypeId} (h:FT t) (w:World):(Op.equalIn (d+1) t .nilFunc .nilFunc).run Tryz.prog w=.ok true w:=by
 obtain ⟨a1,b1,c1,h⟩:=h.ex
 simp[Op.equalIn,run_underlying h]
theorem rt_neF {t ty:TypeId} {x y:Operand} (ho:o.op=.binOp .neq t x y ty) {g:Fn} {fs cs:Array Value} (hx:evl l x=some (.func g fs cs)) (hy:evl l y=some .nilFunc) (ht:FT t):RT o l L n (.bool true):=fun a w F M=>by
 have h2:(Op.equal t (.func g fs cs) .nilFunc).run Tryz.prog w=.ok false w:=equalIn_fn 9999 ht g fs cs w
 have hr:(binOp .neq t (.func g fs cs) .nilFunc).run Tryz.prog w=.ok (.bool true) w:=by
  simp only[binOp]
  simp[h2]
 unfold execOp
 rw[ho]
 simp[F.eval hx,F.eval hy,eqGuard,hr]
theorem rt_neN {t ty:TypeId} {x y:Operand} (ho:o.op=.binOp .neq t x y ty) (hx:evl l x=some .nilFunc) (hy:evl l y=some .nilFunc) (ht:FT t):RT o l L n (.bool false):=fun a w F M=>by
 have h2:(Op.equal t .nilFunc .nilFunc).run Tryz.prog w=.ok true w:=equalIn_nn 9999 ht w
 have hr:(binOp .neq t .nilFunc .nilFunc).run Tryz.prog w=.ok (.bool false) w:=by
  simp only[binOp]
  simp[h2]
 unfold execOp
 rw[ho]
 simp[F.eval hx,F.eval hy,eqGuard,hr]
end
instance apFT:FT 135:=⟨by kernel_rfl⟩
theorem rej_spec (o:Opn) (e bk ep:Int) (R:List Asn):Spec 64 [opV o,.int .i64 e,.int .i64 bk,.int .i64 ep] R fun u L'=>u=rcV ⟨o.k,e,-1,bk,ep,-1,0,[],[]⟩ nilH nilH∧L'=R:=by
 obtain ⟨k,ix,tg,am⟩:=o
 refine zGz Tryz.func64 ?_;intro G;(repeat'(first|refine zA zk64 ?_;repeat intro nb|refine zB ?_ ?_<;>intro hc<;>try exact no hc|refine zH ?_ ?_<;>(intro hg;rw[hg];try exact no hg)));all_goals exact zXz
theorem acp_spec (o:Opn) (ix dl bk ep:Int) (R:List Asn):Spec 75 [opV o,.int .i64 ix,.int .i64 dl,.int .i64 bk,.int .i64 ep] R fun u L'=>u=rcV ⟨o.k,0,ix,bk,ep,dl,0,[],[]⟩ nilH nilH∧L'=R:=Spec.of_reads (accept_reads o ix dl bk ep) rfl ⟨rfl,rfl⟩
theorem Inv.same {c:Cfg} (hc:CfOk c) {s:St} (h:Inv c s) (hb:s.bk<1000000000) (hz:((s.bk+1:Nat):Int) % c.epochLen≠0):Inv c {s with bk:=s.bk+1}:=by
 have he:=epo_same hc hz
 exact⟨h.cap,fun i v hv=>by rw[he];exact h.val i v hv,h.sum,h.sup,h.tot,h.pe,h.ex,h.lv,h.bo,fun y hy=>by rw[he];exact h.bw y hy,h.ql,h.me,h.pa,h.at',h.ca,by simp only;omega⟩
section
variable (b:Nat) (H:EH) (c:Cfg) (s:St) (R:List Asn)
theorem tick_spec (hc:CfOk c) (h:Inv c s) (hb:s.bk<1000000000) (o:Opn) (ho:o.k=7):Spec 65 [ptr b,opV o] (engL b H c s R) fun u L'=>∃ ha hp H',u=rcV (tickM c s).1 ha hp∧L'=ownT 87 asgL 3 (sl ha) (tickM c s).1.asg::ownT 65 pmL 3 (sl hp) (tickM c s).1.pms::engL b H' c (tickM c s).2 R:=by
 have hel:=hc.el
 obtain ⟨k,ix,tg,am⟩:=o
 simp only at ho
 subst ho
 have htk:=fun R=>clk_tick H.ck s.bk c.epochLen hel (by omega) R
 have hac:=fun ep R=>acp_spec ⟨7,ix,tg,am⟩ (-1) (-1) ((s.bk+1:Nat):Int) ep R
 have hcb:=fun (b:Nat) R=>clk_block b (s.bk+1) c.epochLen R
 have hce:=fun (b:Nat) R=>clk_epoch b (s.bk+1) c.epochLen hel (by omega) R
 have hep:epo c {s with bk:=s.bk+1} = ((s.bk+1:Nat):Int) / c.epochLen:=rfl
 rw[← hep] at hce
 by_cases hz:((s.bk+1:Nat):Int) % c.epochLen=0
 ·have h1:=boundM_inv hc h hb hz
  have hbo:=fun R=>boundary_spec b H c s R hc h hb hz
  have hB:(boundM c {s with bk:=s.bk+1}).s.bk=s.bk+1:=rfl
  have hT:tickM c s=(⟨7,0,-1,((s.bk+1:Nat):Int),epo c {s with bk:=s.bk+1},-1,(payM c (boundM c {s with bk:=s.bk+1}).s).vi,(boundM c {s with bk:=s.bk+1}).ag,(payM c (boundM c {s with bk:=s.bk+1}).s).pm⟩,(payM c (boundM c {s with bk:=s.bk+1}).s).s):=by
   unfold tickM;simp only[if_pos hz];rfl
  rw[hT]
  generalize boundM c {s with bk:=s.bk+1} = B at *
  obtain ⟨ag,B⟩:=B
  simp only at *
  have hpy:=fun (H:EH) R=>pay_spec b H c B R hc h1
  have hP:(payM c B).s.bk=s.bk+1:=hB
  generalize payM c B=P at *
  obtain ⟨pm,pv,⟨pk,V',dep',pd',bu',pe',fo',vo',me',pa',at2,ca',lv',bo'⟩⟩:=P
  simp only at hP
  subst hP
  rw[show decide (((s.bk+1:Nat):Int) % c.epochLen=0)=true by simpa using hz] at htk
  refine zGz Tryz.func65 ?_;intro G;(repeat'(first|refine zA zk65 ?_;repeat intro nb|refine zC ?_;(first|refine kp (k:=137) (htk _) ?_|refine acK (L1:=engL b H c {s with bk:=s.bk+1} _) (k:=138) (hbo _) ?_;rintro u L' ⟨ha,H1,rfl,rfl⟩|refine acK (L1:=engL b H1 c B _) (k:=139) (hpy _ _) ?_;rintro u L' ⟨hp,rfl,rfl⟩|refine kp (k:=73) (hcb _ _) ?_|refine kp (k:=74) (hce _ _) ?_|refine kpW (k:=75) (hac _ _) ?_)|refine zB ?_ ?_<;>intro hc<;>try exact no hc|refine zH ?_ ?_<;>(intro hg;rw[hg];try exact no hg)));all_goals try refine⟨fun a w F M=>?_⟩
  all_goals refine zE F M ?_
  exact⟨_,_,rfl,⟨ha,hp,H1,rfl,rfl⟩,M.perms permsA⟩
 ·have h1:=Inv.same hc h hb hz
  have hT:tickM c s=(⟨7,0,-1,((s.bk+1:Nat):Int),epo c {s with bk:=s.bk+1},-1,(payM c {s with bk:=s.bk+1}).vi,[],(payM c {s with bk:=s.bk+1}).pm⟩,(payM c {s with bk:=s.bk+1}).s):=by
   unfold tickM;simp only[if_neg hz];rfl
  rw[hT]
  have hpy:=fun (H:EH) R=>pay_spec b H c {s with bk:=s.bk+1} R hc h1
  have hP:(payM c {s with bk:=s.bk+1}).s.bk=s.bk+1:=rfl
  generalize payM c {s with bk:=s.bk+1} = P at *
  obtain ⟨pm,pv,⟨pk,V',dep',pd',bu',pe',fo',vo',me',pa',at2,ca',lv',bo'⟩⟩:=P
  simp only at hP
  subst hP
  rw[show decide (((s.bk+1:Nat):Int) % c.epochLen=0)=false by simpa using hz] at htk
  refine zGo Tryz.func65 ?_;intro G w M a F
  have M:=M.own_nil 87 3
  (try refine zI F M ?_;clear F M a;try clear w);(repeat'(first|refine zA zk65 ?_;repeat intro nb|refine zC ?_;(first|refine kp (k:=137) (htk _) ?_|refine acK (L1:=engL b H c {s with bk:=s.bk+1} _) (k:=139) (hpy _ _) ?_;rintro u L' ⟨hp,rfl,rfl⟩|refine kp (k:=73) (hcb _ _) ?_|refine kp (k:=74) (hce _ _) ?_|refine kpW (k:=75) (hac _ _) ?_)|refine zB ?_ ?_<;>intro hc<;>try exact no hc|refine zH ?_ ?_<;>(intro hg;rw[hg];try exact no hg)));all_goals try refine⟨fun a w F M=>?_⟩
  all_goals refine zE F M ?_
  exact⟨_,_,rfl,⟨nilH,hp,H,rfl,rfl⟩,M.perms permsA⟩
variable (hc:CfOk c) (hi:Inv c s)
theorem rs3 (r:Rs):∃ x y z:Int,rsI r=[.int .i64 x,.int .i64 y,.int .i64 z]:=by
 unfold rsI;split
 ·exact⟨_,_,_,rfl⟩
 ·exact⟨_,_,_,rfl⟩
theorem exit_spec (hc:CfOk c) (h:Inv c s) (o:Opn):Spec 67 [ptr b,opV o] (engL b H c s R) fun u L'=>u=rsV (opLeave c s 1 o.ix)∧L'=engL b H c (opLeave c s 1 o.ix).s R:=by
 obtain ⟨k,ix,tg,am⟩:=o
 have hl:∀ R,Spec 146 [ptr b,.int .i64 1,.int .i64 ix] (engL b H c s R) fun u L'=>u=rsV (opLeave c s 1 ix)∧L'=engL b H c (opLeave c s 1 ix).s R:=fun R=>leave_spec b H c s hc h R 1 (by omega) ix
 obtain ⟨x,y,z,hr⟩:=rs3 (opLeave c s 1 ix)
 simp only[rsV,hr] at hl ⊢
 refine zGz Tryz.func67 ?_;intro G;(repeat'(first|refine zA zk67 ?_;repeat intro nb|refine zC ?_;refine acK (L1:=engL b H c s _) (k:=146) (hl _) ?_;rintro u L' ⟨rfl,rfl⟩|refine zB ?_ ?_<;>intro hc<;>try exact no hc|refine zH ?_ ?_<;>(intro hg;rw[hg];try exact no hg)));all_goals exact zXz
theorem eject_spec (hc:CfOk c) (h:Inv c s) (o:Opn):Spec 68 [ptr b,opV o] (engL b H c s R) fun u L'=>u=rsV (opLeave c s 0 o.ix)∧L'=engL b H c (opLeave c s 0 o.ix).s R:=by
 obtain ⟨k,ix,tg,am⟩:=o
 have hl:∀ R,Spec 146 [ptr b,.int .i64 0,.int .i64 ix] (engL b H c s R) fun u L'=>u=rsV (opLeave c s 0 ix)∧L'=engL b H c (opLeave c s 0 ix).s R:=fun R=>leave_spec b H c s hc h R 0 (by omega) ix
 obtain ⟨x,y,z,hr⟩:=rs3 (opLeave c s 0 ix)
 simp only[rsV,hr] at hl ⊢
 refine zGz Tryz.func68 ?_;intro G;(repeat'(first|refine zA zk68 ?_;repeat intro nb|refine zC ?_;refine acK (L1:=engL b H c s _) (k:=146) (hl _) ?_;rintro u L' ⟨rfl,rfl⟩|refine zB ?_ ?_<;>intro hc<;>try exact no hc|refine zH ?_ ?_<;>(intro hg;rw[hg];try exact no hg)));all_goals exact zXz
theorem opM_no (o:Opn) (h:(opM c s o).c≠0):(opM c s o).ix = -1∧(opM c s o).dl = -1:=by
 revert h
 unfold opM opDep opLeave opSlash opMerge opPart no'
 repeat'(first|(intro h;exact⟨rfl,rfl⟩)|(intro h;exact absurd rfl h)|split|dsimp only)
def opP (b:Nat):List (Value × Value):=[(.int .i64 6,.func (.func 71) #[ptr b] #[]),(.int .i64 5,.func (.func 70) #[ptr b] #[]),(.int .i64 4,.func (.func 69) #[ptr b] #[]),(.int .i64 3,.func (.func 68) #[ptr b] #[]),(.int .i64 2,.func (.func 67) #[ptr b] #[]),(.int .i64 1,.func (.func 66) #[ptr b] #[])]
theorem ap_miss (hc:CfOk c) (h:Inv c s) (o:Opn) (ho:I64 o.k) (h1:o.k<1∨7<o.k):Spec 31 [ptr b,opV o] (engL b H c s R) fun u L'=>u=rcV ⟨o.k,11,-1,s.bk,epo c s,-1,0,[],[]⟩ nilH nilH∧L'=engL b H c s R:=by
 have hno:∀ p∈opP b,p.1≠.int .i64 o.k:=by
  intro p hp he
  simp only[opP,List.mem_cons,List.not_mem_nil,or_false] at hp
  rcases hp with rfl|rfl|rfl|rfl|rfl|rfl<;>(simp only[Value.int.injEq] at he;omega)
 have hrj:=fun e bk ep R=>rej_spec o e bk ep R
 have hac:=fun ix dl bk ep R=>acp_spec o ix dl bk ep R
 have hbk:=h.bk
 have hcb:=fun R=>clk_block H.ck s.bk c.epochLen R
 have hce:=fun R=>clk_epoch H.ck s.bk c.epochLen hc.el (by omega) R
 rw[show(s.bk:Int) / c.epochLen=epo c s from rfl] at hce
 obtain ⟨k,ix,tg,am⟩:=o
 simp only at ho h1 hno
 have hne:decide (k=7)=false:=by simp;omega
 refine zGz Tryz.func31 ?_;intro G;(repeat'(first|refine zV (h:=⟨_,by((first|(refine rt_neN rfl rfl rfl inferInstance)|(apply rt_miss1;(exact rfl);(exact rfl);(exact rfl);(exact inferInstance);(exact gives_mp pullA);(exact intKey ho);(exact hno);(exact inferInstance)))),?_⟩)|refine zA1 zk31 ?_;repeat intro(nb:Nat)|refine zC ?_;(first|apply ac_makeMap;exact rfl;exact inferInstance;intro nm|refine ac_insNew rfl rfl rfl rfl inferInstance (intKey (by constructor<;>decide)) (by(focus ((repeat (first|exact Rep.here|apply Rep.there));done))) (by simp) ?_|refine kpW (k:=72) (efail_spec _ _) ?_|refine kp (k:=73) (hcb _) ?_|refine kp (k:=74) (hce _) ?_|refine kpW (k:=64) (hrj _ _ _ _) ?_|refine kpW (k:=75) (hac _ _ _ _ _) ?_)|refine zB ?_ ?_<;>intro hc<;>try exact no hc|refine zH ?_ ?_<;>(intro hg;rw[hg];try exact no hg)));all_goals try refine⟨fun a w F M=>?_⟩
 all_goals refine zE F M ?_
 all_goals exact⟨_,_,rfl,⟨rfl,rfl⟩,M.perms permsA⟩
theorem ap_hit (hc:CfOk c) (h:Inv c s) (o:Opn) (ho:I64 o.k) (h1:o.k≠7) (g:FuncId) [hg:FK g] (r:Rs) (hin:(Value.int .i64 o.k,Value.func (.func g) #[ptr b] #[])∈opP b) (hop:∀ R,Spec g [ptr b,opV o] (engL b H c s R) fun u L'=>u=rsV r∧L'=engL b H c r.s R) (hrb:r.s.bk=s.bk) (hr0:r.c≠0→r.ix = -1∧r.dl = -1) :
  Spec 31 [ptr b,opV o] (engL b H c s R) fun u L'=>u=rcV ⟨o.k,r.c,r.ix,s.bk,epo c s,r.dl,0,[],[]⟩ nilH nilH∧L'=engL b H c r.s R:=by
 have hrj:=fun e bk ep R=>rej_spec o e bk ep R
 have hac:=fun ix dl bk ep R=>acp_spec o ix dl bk ep R
 have hbk:=h.bk
 have hcb:=fun R=>clk_block H.ck s.bk c.epochLen R
 have hce:=fun R=>clk_epoch H.ck s.bk c.epochLen hc.el (by omega) R
 rw[show(s.bk:Int) / c.epochLen=epo c s from rfl] at hce
 obtain ⟨k,ix,tg,am⟩:=o
 obtain ⟨rc,rix,rdl,⟨rk,V',dep',pd',bu',pe',fo',vo',me',pa',at2,ca',lv',bo'⟩⟩:=r
 simp only at ho h1 hin hrb hr0
 subst hrb
 have hne:decide (k=7)=false:=by simp;omega
 by_cases hz:rc=0
 ·subst hz
  have e3:rsI ⟨0,rix,rdl,⟨s.bk,V',dep',pd',bu',pe',fo',vo',me',pa',at2,ca',lv',bo'⟩⟩=[.int .i64 0,.int .i64 rix,.int .i64 rdl]:=rfl
  simp only[rsV,e3] at hop
  refine zGz Tryz.func31 ?_;intro G;(repeat'(first|refine zV (h:=⟨_,by((first|(refine rt_neF rfl rfl rfl inferInstance)|(apply rt_hit1;(exact rfl);(exact rfl);(exact rfl);(exact inferInstance);(exact gives_mp pullA);(exact intKey ho);(exact hin)))),?_⟩)|refine zA1 zk31 ?_;repeat intro(nb:Nat)|refine zC ?_;(first|(first|apply ac_makeMap;exact rfl;exact inferInstance;intro nm|refine ac_insNew rfl rfl rfl rfl inferInstance (intKey (by constructor<;>decide)) (by(focus ((repeat (first|exact Rep.here|apply Rep.there));done))) (by simp) ?_|refine kpW (k:=72) (efail_spec _ _) ?_|refine kp (k:=73) (hcb _) ?_|refine kp (k:=74) (hce _) ?_|refine kpW (k:=64) (hrj _ _ _ _) ?_|refine kpW (k:=75) (hac _ _ _ _ _) ?_)|refine acF (k:=g) (L1:=engL b H c s _) (hop _) ?_;rintro u L' ⟨rfl,rfl⟩)|refine zB ?_ ?_<;>intro hc<;>try exact no hc|refine zH ?_ ?_<;>(intro hg;rw[hg];try exact no hg)));all_goals try refine⟨fun a w F M=>?_⟩
  all_goals refine zE F M ?_
  all_goals exact⟨_,_,rfl,⟨rfl,rfl⟩,M.perms permsA⟩
 ·have e3:rsI ⟨rc,rix,rdl,⟨s.bk,V',dep',pd',bu',pe',fo',vo',me',pa',at2,ca',lv',bo'⟩⟩=[.int .i64 rc,.int .i64 0,.int .i64 0]:=by unfold rsI;rw[if_neg hz]
  simp only[rsV,e3] at hop
  obtain ⟨rfl,rfl⟩:=hr0 hz
  refine zGz Tryz.func31 ?_;intro G;(repeat'(first|refine zV (h:=⟨_,by((first|(refine rt_neF rfl rfl rfl inferInstance)|(apply rt_hit1;(exact rfl);(exact rfl);(exact rfl);(exact inferInstance);(exact gives_mp pullA);(exact intKey ho);(exact hin)))),?_⟩)|refine zA1 zk31 ?_;repeat intro(nb:Nat)|refine zC ?_;(first|(first|apply ac_makeMap;exact rfl;exact inferInstance;intro nm|refine ac_insNew rfl rfl rfl rfl inferInstance (intKey (by constructor<;>decide)) (by(focus ((repeat (first|exact Rep.here|apply Rep.there));done))) (by simp) ?_|refine kpW (k:=72) (efail_spec _ _) ?_|refine kp (k:=73) (hcb _) ?_|refine kp (k:=74) (hce _) ?_|refine kpW (k:=64) (hrj _ _ _ _) ?_|refine kpW (k:=75) (hac _ _ _ _ _) ?_)|refine acF (k:=g) (L1:=engL b H c s _) (hop _) ?_;rintro u L' ⟨rfl,rfl⟩)|refine zB ?_ ?_<;>intro hc<;>try exact no hc|refine zH ?_ ?_<;>(intro hg;rw[hg];try exact no hg)));all_goals try refine⟨fun a w F M=>?_⟩
  all_goals first|(exfalso;rename_i hc;exact hc hz)|(refine zE F M ?_;exact⟨_,_,rfl,⟨rfl,rfl⟩,M.perms permsA⟩)
end
end
section
open Go.RowKit
theorem Spec.nils {k:FuncId} {us:List Value} {L:List Asn} {D:Value→List Asn→Prop} (h:Spec k us L D):Spec k us L fun u L'=>∃ L1,D u L1∧L'=ownT 87 asgL 3 (sl nilH) []::ownT 65 pmL 3 (sl nilH) []::L1:=fun G w M=>by
 refine(h G w M).mono ?_
 rintro e w' ⟨v,L',h1,h2,M'⟩
 have M2:=(M'.own_nil 65 3).own_nil 87 3
 exact⟨v,_,h1,⟨_,h2,rfl⟩,M2⟩
section
variable (b:Nat) (H:EH) (c:Cfg) (s:St) (R:List Asn)
def apQ (b:Nat) (c:Cfg) (R:List Asn) (x:Rc × St) (u:Value) (L':List Asn):Prop:=∃ ha hp H',u=rcV x.1 ha hp∧L'=ownT 87 asgL 3 (sl ha) x.1.asg::ownT 65 pmL 3 (sl hp) x.1.pms::engL b H' c x.2 R
theorem ap_tick (hc:CfOk c) (h:Inv c s) (hb:s.bk<1000000000) (o:Opn) (ho:o.k=7):Spec 31 [ptr b,opV o] (engL b H c s R) fun u L'=>apQ b c R (tickM c s) u L':=by
 obtain ⟨k,ix,tg,am⟩:=o
 simp only at ho
 subst ho
 have ht:=fun R=>tick_spec b H c s R hc h hb ⟨7,ix,tg,am⟩ rfl
 unfold apQ
 generalize tickM c s=X at *
 obtain ⟨⟨x1,x2,x3,x4,x5,x6,x7,x8,x9⟩,s2⟩:=X
 simp only at ht ⊢
 refine zGz Tryz.func31 ?_;intro G;(repeat'(first|refine zA zk31 ?_;repeat intro nb|refine zC ?_;refine acK (L1:=engL b H c s _) (k:=65) (ht _) ?_;rintro u L' ⟨ha,hp,H1,rfl,rfl⟩|refine zB ?_ ?_<;>intro hc<;>try exact no hc|refine zH ?_ ?_<;>(intro hg;rw[hg];try exact no hg)));all_goals try refine⟨fun a w F M=>?_⟩
 all_goals refine zE F M ?_
 all_goals exact⟨_,_,rfl,⟨ha,hp,H1,rfl,rfl⟩,M.perms permsA⟩
theorem apply_spec (hc:CfOk c) (h:Inv c s) (hb:s.bk<1000000000) (o:Opn) (hk:I64 o.k) (ho:U64 o.am):Spec 31 [ptr b,opV o] (engL b H c s R) fun u L'=>apQ b c R (stepM c s o) u L':=by
 by_cases h7:o.k=7
 ·have e:stepM c s o=tickM c s:=by unfold stepM;rw[if_pos h7]
  rw[e]
  exact ap_tick b H c s R hc h hb o h7
 ·have e:stepM c s o=(⟨o.k,(opM c s o).c,(opM c s o).ix,s.bk,epo c s,(opM c s o).dl,0,[],[]⟩,(opM c s o).s):=by unfold stepM;rw[if_neg h7]
  rw[e]
  have fin:Spec 31 [ptr b,opV o] (engL b H c s R) fun u L'=>u=rcV ⟨o.k,(opM c s o).c,(opM c s o).ix,s.bk,epo c s,(opM c s o).dl,0,[],[]⟩ nilH nilH∧L'=engL b H c (opM c s o).s R:=by
   have hit:=fun (g:FuncId) (hg:FK g) hin hop=>ap_hit b H c s R hc h o hk h7 g (opM c s o) hin hop (opM_bk c s o) (opM_no c s o)
   by_cases h1:o.k=1
   ·exact hit 66 inferInstance (by rw[h1];simp[opP]) fun R=>by
     have:opM c s o=opDep c s o.am:=by unfold opM;rw[if_pos h1]
     rw[this];exact dep_spec b H c s hc h R o ho
   by_cases h2:o.k=2
   ·exact hit 67 inferInstance (by rw[h2];simp[opP]) fun R=>by
     have:opM c s o=opLeave c s 1 o.ix:=by unfold opM;rw[if_neg h1,if_pos h2]
     rw[this];exact exit_spec b H c s R hc h o
   by_cases h3:o.k=3
   ·exact hit 68 inferInstance (by rw[h3];simp[opP]) fun R=>by
     have:opM c s o=opLeave c s 0 o.ix:=by unfold opM;rw[if_neg h1,if_neg h2,if_pos h3]
     rw[this];exact eject_spec b H c s R hc h o
   by_cases h4:o.k=4
   ·exact hit 69 inferInstance (by rw[h4];simp[opP]) fun R=>by
     have:opM c s o=opSlash c s o.ix:=by unfold opM;rw[if_neg h1,if_neg h2,if_neg h3,if_pos h4]
     rw[this];exact slash_spec b H c s hc h R o
   by_cases h5:o.k=5
   ·exact hit 70 inferInstance (by rw[h5];simp[opP]) fun R=>by
     have:opM c s o=opMerge c s o.ix o.tg:=by unfold opM;rw[if_neg h1,if_neg h2,if_neg h3,if_neg h4,if_pos h5]
     rw[this];exact cons_spec b H c s hc h R o
   by_cases h6:o.k=6
   ·exact hit 71 inferInstance (by rw[h6];simp[opP]) fun R=>by
     have:opM c s o=opPart c s o.ix o.am:=by unfold opM;rw[if_neg h1,if_neg h2,if_neg h3,if_neg h4,if_neg h5,if_pos h6]
     rw[this];exact part_spec b H c s hc h R o ho
   have:opM c s o=no' s 11:=by unfold opM;rw[if_neg h1,if_neg h2,if_neg h3,if_neg h4,if_neg h5,if_neg h6]
   rw[this]
   exact ap_miss b H c s R hc h o hk (by omega)
  refine fin.nils.mono ?_
  rintro u L' ⟨L1,⟨rfl,rfl⟩,rfl⟩
  exact⟨nilH,nilH,H,rfl,rfl⟩
end
end
section
open Go.RowKit
section
variable (b:Nat) (H:EH) (c:Cfg) (s:St) (R:List Asn)
theorem config_spec:Spec 42 [ptr b] (engL b H c s R) fun u L'=>u=cfgV c∧L'=engL b H c s R:=by
 refine zGz Tryz.func42 ?_;intro G;(repeat'(first|refine zA zk42 ?_;repeat intro nb|refine zB ?_ ?_<;>intro hc<;>try exact no hc|refine zH ?_ ?_<;>(intro hg;rw[hg];try exact no hg)));all_goals try refine⟨fun a w F M=>?_⟩
 all_goals refine zE F M ?_
 all_goals exact⟨_,_,rfl,⟨rfl,rfl⟩,M.perms permsA⟩
end
end
section
open Go.RowKit
def rcP (x:RcS):List Asn:=[ownT 87 asgL 3 (sl x.s) x.r.asg,ownT 65 pmL 3 (sl x.p) x.r.pms]
def rsA (xs:List RcS):Asn:=exA fun _:Unit=>xs.flatMap rcP
theorem rs_nil {w:World} {L:List Asn} (M:Mem w L):Mem w (rsA []::L):=Mem.exc (f:=fun _:Unit=>([]:List RcS).flatMap rcP) () (by simpa using M)
theorem rs_add {w:World} {L:List Asn} {xs:List RcS} {x:RcS} (M:Mem w (ownT 87 asgL 3 (sl x.s) x.r.asg::ownT 65 pmL 3 (sl x.p) x.r.pms::rsA xs::L)):Mem w (rsA (xs++[x])::L):=by
 obtain ⟨_,M2⟩:=(M.perms (permsA:Perms _ (rsA xs::ownT 87 asgL 3 (sl x.s) x.r.asg::ownT 65 pmL 3 (sl x.p) x.r.pms::L))).exo
 refine Mem.exc (f:=fun _:Unit=>(xs++[x]).flatMap rcP) () ?_
 simpa[List.flatMap_append,rcP] using M2
theorem runM_cons (c:Cfg) (s:St) (o:Opn) (r:List Opn):runM c s (o::r)=((stepM c s o).1::(runM c (stepM c s o).2 r).1,(runM c (stepM c s o).2 r).2):=rfl
structure RnZ where
 k:Nat
 H:EH
 h:SlH
 xs:List RcS
 s:St
section
variable (b:Nat) (H:EH) (c:Cfg) (s:St) (R:List Asn)
theorem run_spec (hc:CfOk c) (h:Inv c s) (v:Value) (l:List Opn) (hg:GS R 4 v l.length (l.flatMap opL)) (hl:l.length≤100000) (hb:s.bk+l.length<1000000000) (hwf:∀ o∈l,I64 o.k∧U64 o.am) :
  Spec 35 [ptr b,v] (engL b H c s R) fun u L'=>∃ hr H' xs,(u=sl hr∧xs.map (·.r)=(runM c s l).1)∧L'=ownT 62 rsL 9 (sl hr) xs::rsA xs::engL b H' c (runM c s l).2 R:=by
 obtain ⟨X,hX⟩:∃ X,runM c s l=X:=⟨_,rfl⟩
 rw[hX]
 refine zGo Tryz.func35 ?_;intro G w M a F
 have hG:GS (R++G) 4 v l.length (l.flatMap opL):=Gives.app hg
 have M:=rs_nil (M.own_nil 62 9)
 (try refine zI F M ?_;clear F M a;try clear w);(repeat'(first|refine zA zk35 ?_;repeat intro nb|refine zB ?_ ?_<;>intro hc<;>try exact no hc|refine zH ?_ ?_<;>(intro hg;rw[hg];try exact no hg)));all_goals try refine⟨fun a w F M=>?_⟩
 refine svLoop F M (⟨0,H,nilH,[],s⟩:RnZ) (fun z=>[(10,.int .i64 z.k),(5,sl z.h)]) (fun z=>ownT 62 rsL 9 (sl z.h) z.xs::rsA z.xs::engL b z.H c z.s []) (fun z=>z.k≤l.length∧Inv c z.s∧z.s.bk≤s.bk+z.k∧z.xs.length=z.k∧z.xs.map (·.r)++(runM c z.s (l.drop z.k)).1=X.1∧(runM c z.s (l.drop z.k)).2=X.2) (fun z=>l.length - z.k) [7] ⟨Nat.zero_le _,h,Nat.le_refl _,rfl,by simp[hX],by simp[hX]⟩ ?_ (hR:=by(repeat (first|exact Pulls.nil|(apply Pulls.cons;(focus ((repeat (first|exact Pull.here|apply Pull.there));done))))))
 (rintro⟨k,H',hh,xs,s'⟩ ⟨q1,q2,q3,q4,q5,q6⟩ a w F M;(try simp only[zc,zn] at F M q1 q2 q3 q4 q5 q6 ⊢))
 by_cases hk:k<l.length
 ·obtain ⟨o,ho⟩:∃ o,l[k]? = some o:=⟨l[k],by simp[hk]⟩
  obtain ⟨ho1,ho2⟩:=hwf o (List.mem_of_getElem? ho)
  rw[drop_cons ho,runM_cons] at q5 q6
  have hap:=fun R=>apply_spec b H' c s' R hc q2 (by omega) o ho1 ho2
  obtain ⟨n1,n2⟩:=stepM_inv hc q2 (by omega) o ho2
  simp only[apQ] at hap
  obtain ⟨Y,hY⟩:∃ Y,stepM c s' o=Y:=⟨_,rfl⟩
  simp only[hY] at hap q5 q6 n1 n2
  obtain ⟨⟨x1,x2,x3,x4,x5,x6,x7,x8,x9⟩,s2⟩:=Y
  obtain ⟨ok,oi,ot,oa⟩:=o
  simp only at hap q5 q6 n1 n2
  (try refine zI F M ?_;clear F M a;try clear w);(repeat'(first|refine zA zk35 ?_;repeat intro nb|refine zC ?_;(first|refine acK (L1:=engL b H' c s' _) (k:=31) (hap _) ?_;rintro u L' ⟨ha,hp,H2,rfl,rfl⟩|refine ac_appendH (f:=rsL) (xs:=xs) (ys:=[⟨⟨x1,x2,x3,x4,x5,x6,x7,x8,x9⟩,ha,hp⟩]) rfl rfl inferInstance rfl rfl pullA inferInstance gsA rfl rfl (by simp;omega) ?_;intro nv)|refine zB ?_ ?_<;>intro hc<;>try exact no hc|refine zH ?_ ?_<;>(intro hg;rw[hg];try exact no hg)));all_goals try refine⟨fun a w F M=>?_⟩
  have M1:=rs_add (x:=⟨⟨x1,x2,x3,x4,x5,x6,x7,x8,x9⟩,ha,hp⟩) (xs:=xs) (L:=ownT 62 rsL 9 (sl nv) (xs++[⟨⟨x1,x2,x3,x4,x5,x6,x7,x8,x9⟩,ha,hp⟩])::engL b H2 c s2 (R++G)) (M.perms permsA)
  clear M;have M:=M1;clear M1
  refine sv_again F M (⟨k+1,H2,nv,xs++[⟨⟨x1,x2,x3,x4,x5,x6,x7,x8,x9⟩,ha,hp⟩],s2⟩:RnZ) kpA permsA ⟨by simp only;omega,n1,by simp only;omega,by simp[q4],?_,q6⟩ (by simp only;omega)
  rw[← q5];simp
 obtain rfl:k=l.length:=by omega
 rw[List.drop_length] at q5 q6
 simp only[runM,List.append_nil] at q5 q6
 subst q6
 (try refine zI F M ?_;clear F M a;try clear w);(repeat'(first|refine zA zk35 ?_;repeat intro nb|refine zB ?_ ?_<;>intro hc<;>try exact no hc|refine zH ?_ ?_<;>(intro hg;rw[hg];try exact no hg)));all_goals try refine⟨fun a w F M=>?_⟩
 all_goals refine zE F M ?_
 exact⟨_,_,rfl,⟨hh,H',xs,⟨rfl,q5⟩,rfl⟩,M.perms permsA⟩
end
end
section
open Go.RowKit Go.Maps
open Go.ChangeMaps (setBlock)
def pairL (l:List MapEntry):List (Value × Value):=l.map fun e=>(e.key,e.val)
def MapR (w:World) (b r:Nat) (K:TypeId) (P todo:List (Value × Value)) (cur:Option (Value × Value)):Prop :=
 ∃ es clk since seen c0,w.heap[b]? = some (.map es clk)∧w.heap[r]? = some (.mapIter (some b) since seen c0)∧(pairs es).Perm P∧(∀ p∈P,∃ l,keyOf Tryz.prog K p.1=some l)∧(P.map (·.1)).Nodup∧BornOK es clk∧(since≤c0∧since≤clk)∧(∀ e∈es.toList,e.born<since)∧(pairL (leftOf es seen).toList).Perm todo ∧
  ∀ p,cur=some p→∃ (e:MapEntry) (seen':Array Nat),e∈es.toList∧seen=seen'.push e.born∧c0=clk∧p=(e.key,e.val)
theorem MapR.of_block {w w':World} {b r:Nat} {K:TypeId} {P todo:List (Value × Value)} {cur:Option (Value × Value)} (h:MapR w b r K P todo cur) (e1:w'.heap[b]? = w.heap[b]?) (e2:w'.heap[r]? = w.heap[r]?):MapR w' b r K P todo cur:=by
 obtain ⟨es,clk,since,seen,c0,h1,h2,h3⟩:=h
 exact⟨es,clk,since,seen,c0,e1.trans h1,e2.trans h2,h3⟩
section
variable {o:Oper} {n:Nat} {l:List (Nat × Value)} {L:List Asn} {C:Value→List Asn→Prop}
end
end
section
open Go.RowKit
def pBond (v:Val):Bool:=decide (v.st=4) || decide (v.st=3) && decide (v.ex≠-1)
def epR (x:Val):Prop:=(-1152921504606846976≤x.ex∧x.ex≤1152921504606846976)∧(-1152921504606846976≤x.wd∧x.wd≤1152921504606846976)
end
section
open Go.RowKit Go.Maps
def CntOf (P:List (Value × Value)) (xs:List Int):Prop:=(∀ p∈P,∃ i,i∈xs∧p=(.int .i64 i,.int .i64 (xs.count i:Nat)))∧∀ i∈xs,(Value.int .i64 i,Value.int .i64 (xs.count i:Nat))∈P
theorem CntOf.nil:CntOf [] []:=⟨by simp,by simp⟩
theorem CntOf.vals {P:List (Value × Value)} {xs:List Int} (h:CntOf P xs):∀ p∈P,∃ v,p.2=.int .i64 v:=fun p hp=>by
 obtain ⟨i,_,rfl⟩:=h.1 p hp
 exact⟨_,rfl⟩
theorem CntOf.new {P:List (Value × Value)} {xs:List Int} (h:CntOf P xs) {i:Int} (hi:i∉xs):CntOf ((.int .i64 i,.int .i64 1)::P) (xs++[i]):=by
 have hc:xs.count i=0:=List.count_eq_zero.2 hi
 refine⟨fun p hp=>?_,fun j hj=>?_⟩
 ·rcases List.mem_cons.1 hp with rfl|hp
  ·exact⟨i,by simp,by simp[List.count_append,hc]⟩
  ·obtain ⟨j,hj,rfl⟩:=h.1 p hp
   have hne:¬i=j:=fun e=>hi (e ▸ hj)
   exact⟨j,by simp[hj],by simp[List.count_append,List.count_cons,hne]⟩
 ·rcases List.mem_append.1 hj with hj|hj
  ·have hne:¬i=j:=fun e=>hi (e ▸ hj)
   refine List.mem_cons_of_mem _ ?_
   have:=h.2 j hj
   simpa[List.count_append,List.count_cons,hne] using this
  ·obtain rfl:j=i:=by simpa using hj
   simp[List.count_append,hc]
theorem CntOf.upd {P:List (Value × Value)} {xs:List Int} (h:CntOf P xs) {i:Int} (hi:i∈xs):CntOf (updP i (.int .i64 ((xs.count i:Nat)+1:Int)) P) (xs++[i]):=by
 refine⟨fun p hp=>?_,fun j hj=>?_⟩
 ·obtain ⟨q,hq,rfl⟩:=List.mem_map.1 hp
  obtain ⟨j,hj,rfl⟩:=h.1 q hq
  by_cases hji:j=i
  ·subst hji
   rw[updF_hit]
   exact⟨j,by simp,by simp[List.count_append]⟩
  ·rw[updF_miss (by simp[hji])]
   exact⟨j,by simp[hj],by simp[List.count_append,List.count_cons,Ne.symm hji]⟩
 ·by_cases hji:j=i
  ·subst hji
   refine List.mem_map.2 ⟨_,h.2 j hi,?_⟩
   rw[updF_hit]
   simp[List.count_append]
  ·have hj':j∈xs:=by
    rcases List.mem_append.1 hj with h|h
    ·exact h
    ·exact absurd (by simpa using h) hji
   refine List.mem_map.2 ⟨_,h.2 j hj',?_⟩
   rw[updF_miss (by simp[hji])]
   simp[List.count_append,List.count_cons,Ne.symm hji]
theorem CntOf.len {P:List (Value × Value)} {xs:List Int} (h:CntOf P xs):P.length=0↔xs=[]:=by
 constructor
 ·intro hp
  cases xs with
  | nil=>rfl
  | cons x xs =>
   have:=h.2 x (by simp)
   rw[List.length_eq_zero_iff.1 hp] at this
   cases this
 ·rintro rfl
  cases P with
  | nil=>rfl
  | cons p P=>obtain ⟨i,hi,_⟩:=h.1 p (by simp);cases hi
section
variable (c:FuncId) [hfk:FK c] (p:Val→Bool) (V:List Val) (v:Value) (R:List Asn) (hg:GS R 7 v V.length (V.flatMap valL)) (hlen:V.length≤1000000)
end
end
section
open Go.RowKit
structure SnD where
 V:List Val
 pe:List Int
 fo:List Int
 vo:List Int
 nM:Nat
 nQ:Nat
structure AuOK (R:List Asn) (x:Sn) (d:SnD) (c:Cfg):Prop where
 gV:GS R 7 (sl x.hV) d.V.length (d.V.flatMap valL)
 gP:GS R 1 (sl x.hP) d.pe.length (d.pe.flatMap intL)
 gF:GS R 1 (sl x.hF) d.fo.length (d.fo.flatMap intL)
 gO:GS R 1 (sl x.hO) d.vo.length (d.vo.flatMap intL)
 gM:∃ cs,GS R 2 (sl x.hM) d.nM cs
 gQ:∃ cs,GS R 2 (sl x.hQ) d.nQ cs
 lV:d.V.length≤1000000
 lP:d.pe.length≤400000
 lF:d.fo.length≤400000
 lO:d.vo.length≤400000
 bal:∀ v∈d.V,U64 v.bal
 ep:∀ v∈d.V,epR v
 iP:∀ z∈d.pe,I64 z
 iF:∀ z∈d.fo,I64 z
 iO:∀ z∈d.vo,I64 z
 pd:U64 x.pd
 bu:U64 x.bu
 bk:I64 x.bk
 el:1≤c.epochLen
theorem AuOK.app {R:List Asn} {x:Sn} {d:SnD} {c:Cfg} (h:AuOK R x d c) (G:List Asn):AuOK (R++G) x d c :=
 {h with gV:=Gives.app h.gV,gP:=Gives.app h.gP,gF:=Gives.app h.gF,gO:=Gives.app h.gO,gM:=h.gM.imp fun _ h=>Gives.app h,gQ:=h.gQ.imp fun _ h=>Gives.app h}
theorem AuOK.tail {R:List Asn} {x:Sn} {d:SnD} {c:Cfg} (h:AuOK R x d c) (A:Asn):AuOK (A::R) x d c :=
 {h with gV:=GS.tail h.gV,gP:=GS.tail h.gP,gF:=GS.tail h.gF,gO:=GS.tail h.gO,gM:=h.gM.imp fun _ h=>GS.tail h,gQ:=h.gQ.imp fun _ h=>GS.tail h}
def mxI (x y:Int):Int:=if y>x then y else x
section
variable (x:Sn) (d:SnD) (c:Cfg) (R:List Asn) (h:AuOK R x d c)
end
end
section
open Go.RowKit
section
variable {o:Oper} {n:Nat} {l:List (Nat × Value)} {L:List Asn}
theorem rt_fieldV {t:TypeId} {x:Operand} {f:Nat} (ho:o.op=.field t x f) {cs:List Value} (hx:evl l x=some (.agg cs.toArray)) {ft off:Nat} (hu:(match Tryz.prog.underlying t with|some (.struct fs)=>(fs[f]?).map (fun f=>(f.type,f.offset))|_=>none)=some (ft,off)) (hkt:KT ft none) {v:Value} (hv:cs[off]? = some v):RT o l L n v:=fun a w F M=>by
 unfold execOp
 rw[ho]
 split at hu
 ·rename_i fs hus
  cases hfs:fs[f]? with
  | none=>rw[hfs] at hu;cases hu
  | some fd =>
   rw[hfs] at hu
   have h2:=Option.some.inj hu
   simp only[Prod.mk.injEq] at h2
   obtain ⟨h2,h3⟩:=h2
   subst h2;subst h3
   have hv':cs.toArray[fd.offset]? = some v:=by simpa using hv
   simp[F.eval hx,Instr.field,run_underlying hus w,hfs,asAgg,part,(run_isAgg (h:=hkt) w).1,hv,hv']
 ·cases hu
end
section
variable (x:Sn) (d:SnD) (c:Cfg) (R:List Asn) (h:AuOK R x d c)
end
end
section
open Go.RowKit
instance:DecidableEq Val:=fun a b=>decidable_of_iff (a.bal=b.bal∧a.st=b.st∧a.sl=b.sl∧a.rq=b.rq∧a.ex=b.ex∧a.wd=b.wd∧a.dl=b.dl) (by cases a;cases b;simp)
end
section
open Go.RowKit
def d0:SnD:=⟨[],[],[],[],0,0⟩
end
section
open Go.RowKit
structure SnG (R:List Asn) (x:Sn) (d:SnD):Prop where
 gV:GS R 7 (sl x.hV) d.V.length (d.V.flatMap valL)
 gP:GS R 1 (sl x.hP) d.pe.length (d.pe.flatMap intL)
 gF:GS R 1 (sl x.hF) d.fo.length (d.fo.flatMap intL)
 gO:GS R 1 (sl x.hO) d.vo.length (d.vo.flatMap intL)
 gM:∃ cs,GS R 2 (sl x.hM) d.nM cs
 gQ:∃ cs,GS R 2 (sl x.hQ) d.nQ cs
theorem SnG.app {R:List Asn} {x:Sn} {d:SnD} (h:SnG R x d) (G:List Asn):SnG (R++G) x d :=
 ⟨Gives.app h.gV,Gives.app h.gP,Gives.app h.gF,Gives.app h.gO,h.gM.imp fun _ h=>Gives.app h,h.gQ.imp fun _ h=>Gives.app h⟩
theorem SnG.tail {R:List Asn} {x:Sn} {d:SnD} (h:SnG R x d) (A:Asn):SnG (A::R) x d :=
 ⟨GS.tail h.gV,GS.tail h.gP,GS.tail h.gF,GS.tail h.gO,h.gM.imp fun _ h=>GS.tail h,h.gQ.imp fun _ h=>GS.tail h⟩
structure SnR (x:Sn) (d:SnD):Prop where
 bal:∀ v∈d.V,U64 v.bal
 iP:∀ z∈d.pe,I64 z
 iF:∀ z∈d.fo,I64 z
 iO:∀ z∈d.vo,I64 z
 pd:U64 x.pd
 bu:U64 x.bu
 bk:I64 x.bk
def mnI (x y:Int):Int:=if y<x then y else x
def fewV (v:Val):Bool:=!(decide (1152921504606846976<mxI (mxI v.ex v.wd) v.rq) || decide (mnI (mnI v.ex v.wd) v.rq < -1152921504606846976))
def fewT (d:SnD):Bool:=decide ((d.V.length:Int)≤60) && decide ((d.pe.length:Int)≤60) && decide ((d.fo.length:Int)≤60) && decide ((d.vo.length:Int)≤60) && decide ((d.nM:Int)≤60) && decide ((d.nQ:Int)≤60)
def fewB (d:SnD):Bool:=d.V.all fewV && fewT d
theorem rcheck_spec (c:Cfg) (R:List Asn):Spec 16 [cfgV c] R fun u L'=>u=.int .i64 (checkF c)∧L'=R:=Spec.of_below (fun w=>rCheck_any c w) ⟨rfl,rfl⟩
section
variable (x:Sn) (d:SnD) (R:List Asn) (h:SnG R x d)
include h
end
end
section
open Go.RowKit
theorem eqs_pm (u v:Value) (xs ys:List Pm) {L:List Asn} (hu:GS L 3 u xs.length (xs.flatMap pmL)) (hv:GS L 3 v ys.length (ys.flatMap pmL)) :
  Reads 63 [u,v] (.bool (decide (xs=ys))) L:=by
 (intro K hK w M;refine sx_enter Tryz.func63 (n:=26) rfl rfl rfl rfl ?_;intro a F)
 replace hu:=hu.imp hK
 replace hv:=hv.imp hK
 have hlu:=hu.len_le M
 have hlv:=hv.len_le M
 by_cases hl:xs.length=ys.length
 ·have hR:decide (xs=ys)=decide (xs.drop 0=ys.drop 0):=by simp
  generalize decide (xs=ys)=R at *
  (try refine zI F M ?_;clear F M a;try clear w);(repeat'(first|refine zV (h:=⟨_,by(apply(rt_neqT (f:=pmL));(exact rfl);(exact rfl);(exact rfl);(exact inferInstance);(exact inferInstance)),?_⟩)|refine zA1 zk63 ?_;repeat intro(b:Nat)|refine zB ?_ ?_<;>intro hc<;>try exact no hc|refine zH ?_ ?_<;>(intro hg;rw[hg];try exact no hg)));all_goals try refine⟨fun a w F M=>?_⟩
  refine sv_loop (σ:=Nat) (fun s=>[(0,u),(1,v),(12,.int .i64 xs.length),(13,.int .i64 s)]) (fun _=>K) (fun s=>s≤xs.length∧R=decide (xs.drop s=ys.drop s)) (fun s=>xs.length - s) F M 0 kpA permsA ⟨by omega,hR⟩ ?_
  rintro k ⟨h1,h2⟩ a w F M
  try simp only at h1 h2 F ⊢
  by_cases hlt:k<xs.length
  ·obtain ⟨x,hx⟩:∃ x,xs[k]? = some x:=⟨xs[k],by simp[hlt]⟩
   obtain ⟨y,hy⟩:∃ y,ys[k]? = some y:=⟨ys[k]'(by omega),by rw[List.getElem?_eq_getElem (by omega)]⟩
   rw[drop_cons hx,drop_cons hy] at h2
   by_cases he:x=y
   ·subst he
    (try refine zI F M ?_;clear F M a;try clear w);(repeat'(first|refine zV (h:=⟨_,by(apply(rt_neqT (f:=pmL));(exact rfl);(exact rfl);(exact rfl);(exact inferInstance);(exact inferInstance)),?_⟩)|refine zA1 zk63 ?_;repeat intro(b:Nat)|refine zB ?_ ?_<;>intro hc<;>try exact no hc|refine zH ?_ ?_<;>(intro hg;rw[hg];try exact no hg)));all_goals try refine⟨fun a w F M=>?_⟩
    (refine sv_again F M (k+1) kpA permsA ?_ ?_)
    ·exact⟨by omega,by rw[h2];simp⟩
    ·omega
   ·(try refine zI F M ?_;clear F M a;try clear w);(repeat'(first|refine zV (h:=⟨_,by(apply(rt_neqT (f:=pmL));(exact rfl);(exact rfl);(exact rfl);(exact inferInstance);(exact inferInstance)),?_⟩)|refine zA1 zk63 ?_;repeat intro(b:Nat)|refine zB ?_ ?_<;>intro hc<;>try exact no hc|refine zH ?_ ?_<;>(intro hg;rw[hg];try exact no hg)));all_goals try refine⟨fun a w F M=>?_⟩
    (all_goals((first|(refine svEnd F M ?_)|(refine svRet F M ?_));refine⟨?_,M.perms permsA⟩))
    rw[h2];simp[tupOf,he]
  ·(try refine zI F M ?_;clear F M a;try clear w);(repeat'(first|refine zV (h:=⟨_,by(apply(rt_neqT (f:=pmL));(exact rfl);(exact rfl);(exact rfl);(exact inferInstance);(exact inferInstance)),?_⟩)|refine zA1 zk63 ?_;repeat intro(b:Nat)|refine zB ?_ ?_<;>intro hc<;>try exact no hc|refine zH ?_ ?_<;>(intro hg;rw[hg];try exact no hg)));all_goals try refine⟨fun a w F M=>?_⟩
   (all_goals((first|(refine svEnd F M ?_)|(refine svRet F M ?_));refine⟨?_,M.perms permsA⟩))
   rw[h2,List.drop_of_length_le (by omega),List.drop_of_length_le (by omega)];rfl
 ·have hne:xs≠ys:=fun e=>hl (by rw[e])
  have hl':¬((xs.length:Int)=(ys.length:Int)):=by omega
  (try refine zI F M ?_;clear F M a;try clear w);(repeat'(first|refine zV (h:=⟨_,by(apply(rt_neqT (f:=pmL));(exact rfl);(exact rfl);(exact rfl);(exact inferInstance);(exact inferInstance)),?_⟩)|refine zA1 zk63 ?_;repeat intro(b:Nat)|refine zB ?_ ?_<;>intro hc<;>try exact no hc|refine zH ?_ ?_<;>(intro hg;rw[hg];try exact no hg)));all_goals try refine⟨fun a w F M=>?_⟩
  (all_goals((first|(refine svEnd F M ?_)|(refine svRet F M ?_));refine⟨?_,M.perms permsA⟩))
  simp[tupOf,hne]
end
section
open Go.RowKit
abbrev tkO:Opn:=⟨7,0,0,0⟩
def exO:List Opn:=[⟨1,0,0,32⟩,tkO,tkO,tkO,tkO]
def exS1:St:=(runM Cfg.deflt St.ini exO).2
def exR:Rc × St:=stepM Cfg.deflt exS1 ⟨2,0,0,0⟩
def tN (s:St):Nat→St
 | 0=>s
 | k+1=>(stepM Cfg.deflt (tN s k) tkO).2
theorem ex_c:exR.1.c=0:=by kernel_rfl
theorem ex_dl:exR.1.dl=8:=by kernel_rfl
theorem ex_no:((List.range 15).all fun k=>(stepM Cfg.deflt (tN exR.2 k) tkO).1.pms.isEmpty)=true:=by kernel_rfl
theorem ex_ep:(stepM Cfg.deflt (tN exR.2 15) tkO).1.ep=5:=by kernel_rfl
theorem ex_bk:(stepM Cfg.deflt (tN exR.2 15) tkO).1.bk=20:=by kernel_rfl
theorem ex_pm:(stepM Cfg.deflt (tN exR.2 15) tkO).1.pms=[⟨0,32,true⟩]:=by kernel_rfl
theorem ex_ck:checkF Cfg.deflt=0:=by kernel_rfl
theorem runM_inv {c:Cfg} (hc:CfOk c):∀ (l:List Opn) {s:St},Inv c s→s.bk+l.length<1000000000→(∀ o∈l,U64 o.am)→Inv c (runM c s l).2∧(runM c s l).2.bk≤s.bk+l.length
 | [],s,h,_,_=>⟨h,Nat.le_refl _⟩
 | o::r,s,h,hb,ho=>by
  rw[List.length_cons] at hb
  obtain ⟨h1,h2⟩:=stepM_inv hc h (by omega) o (ho o (by simp))
  obtain ⟨h3,h4⟩:=runM_inv hc r h1 (by omega) fun x hx=>ho x (by simp[hx])
  rw[runM_cons,List.length_cons]
  exact⟨h3,by simp only;omega⟩
theorem cfD:CfOk Cfg.deflt:=cfOk_of ex_ck (by decide) (by decide)
theorem exO_wf:∀ o∈exO,I64 o.k∧U64 o.am:=by
 intro o ho
 simp only[exO,List.mem_cons,List.not_mem_nil,or_false] at ho
 rcases ho with rfl|rfl|rfl|rfl|rfl<;>exact⟨⟨by decide,by decide⟩,⟨by decide,by decide⟩⟩
theorem exS1_inv:Inv Cfg.deflt exS1∧exS1.bk≤5:=by
 have:=runM_inv cfD exO (Inv.ini cfD) (by decide) fun o ho=>(exO_wf o ho).2
 exact⟨this.1,Nat.le_trans this.2 (by decide)⟩
theorem exR_inv:Inv Cfg.deflt exR.2∧exR.2.bk≤6:=by
 obtain ⟨h1,h2⟩:=exS1_inv
 have:=stepM_inv cfD h1 (by omega) ⟨2,0,0,0⟩ ⟨by decide,by decide⟩
 exact⟨this.1,by have:=this.2;unfold exR;omega⟩
theorem tN_inv {s:St} (h:Inv Cfg.deflt s) (hb:s.bk≤6):∀ k:Nat,k≤100→Inv Cfg.deflt (tN s k)∧(tN s k).bk≤6+k
 | 0,_=>⟨h,hb⟩
 | k+1,hk=>by
  obtain ⟨h1,h2⟩:=tN_inv h hb k (by omega)
  have:=stepM_inv cfD h1 (by omega) tkO ⟨by decide,by decide⟩
  exact⟨this.1,by have:=this.2;simp only[tN];omega⟩
theorem alive22_spec (R:List Asn):Spec 30 [] R fun u L'=>u=.bool true∧L'=R:=by
 have hdf:=fun R=>default_spec R
 have hnw:=fun R=>eng_new Cfg.deflt cfD ex_ck R
 have hrun:∀ (b:Nat) (H:EH) (v:Value) (R:List Asn),GS R 4 v 5 (exO.flatMap opL)→Spec 35 [ptr b,v] (engL b H Cfg.deflt St.ini R) fun u L'=>∃ hr H' xs,(u=sl hr∧xs.map (·.r)=(runM Cfg.deflt St.ini exO).1)∧L'=ownT 62 rsL 9 (sl hr) xs::rsA xs::engL b H' Cfg.deflt exS1 R:=fun b H v R hg=>run_spec b H Cfg.deflt St.ini R cfD (Inv.ini cfD) v exO hg (by decide) (by decide) exO_wf
 obtain ⟨i1,i2⟩:=exS1_inv
 obtain ⟨j1,j2⟩:=exR_inv
 have hex:∀ (b:Nat) (H:EH) (R:List Asn),Spec 31 [ptr b,opV ⟨2,0,0,0⟩] (engL b H Cfg.deflt exS1 R) fun u L'=>∃ ha hp H',u=rcV exR.1 ha hp∧L'=ownT 87 asgL 3 (sl ha) exR.1.asg::ownT 65 pmL 3 (sl hp) exR.1.pms::engL b H' Cfg.deflt exR.2 R:=fun b H R=>apply_spec b H Cfg.deflt exS1 R cfD i1 (by omega) ⟨2,0,0,0⟩ ⟨by decide,by decide⟩ ⟨by decide,by decide⟩
 have htk:∀ (k:Nat),k≤15→∀ (b:Nat) (H:EH) (R:List Asn),Spec 31 [ptr b,opV tkO] (engL b H Cfg.deflt (tN exR.2 k) R) fun u L'=>∃ ha hp H',u=rcV (stepM Cfg.deflt (tN exR.2 k) tkO).1 ha hp∧L'=ownT 87 asgL 3 (sl ha) (stepM Cfg.deflt (tN exR.2 k) tkO).1.asg::ownT 65 pmL 3 (sl hp) (stepM Cfg.deflt (tN exR.2 k) tkO).1.pms::engL b H' Cfg.deflt (tN exR.2 (k+1)) R:=fun k hk b H R=>by
  obtain ⟨t1,t2⟩:=tN_inv j1 j2 k (by omega)
  exact apply_spec b H Cfg.deflt (tN exR.2 k) R cfD t1 (by omega) tkO ⟨by decide,by decide⟩ ⟨by decide,by decide⟩
 have f1:=ex_c;have f2:=ex_dl;have f4:=ex_ep;have f5:=ex_bk;have f6:=ex_pm
 have f3:∀ k,k<15→(stepM Cfg.deflt (tN exR.2 k) tkO).1.pms=[]:=fun k hk=>by
  have:=List.all_eq_true.1 ex_no k (List.mem_range.2 hk)
  simpa using this
 clear i1 i2 j1 j2
 generalize exR=X at *
 obtain ⟨⟨x1,x2,x3,x4,x5,x6,x7,x8,x9⟩,s2⟩:=X
 simp only at hex htk f1 f2 f3 f4 f5 f6
 subst f1;subst f2
 obtain ⟨S,hS⟩:∃ S:Nat→St,S=tN s2:=⟨_,rfl⟩
 have hS0:s2=S 0:=by rw[hS];rfl
 simp only[← hS] at htk f3 f4 f5 f6
 rw[hS0] at hex
 obtain ⟨Y,hY⟩:∃ Y:Nat→Rc,Y=fun k=>(stepM Cfg.deflt (S k) tkO).1:=⟨_,rfl⟩
 have hYk:∀ k,(stepM Cfg.deflt (S k) tkO).1=Y k:=fun k=>by rw[hY]
 simp only[hYk] at htk f3 f4 f5 f6
 clear hY hYk hS hS0
 generalize exS1=s1 at *
 generalize Cfg.deflt=c0 at *
 refine zGz Tryz.func30 ?_;intro G;(repeat'(first|refine zA zk30 ?_;repeat intro nb|refine zC ?_;(first|refine kpW (k:=49) (hdf _) ?_|refine acW (k:=28) (hnw _) ?_;rintro u L' ⟨eb,H,rfl,rfl⟩|refine acK (L1:=engL eb H c0 St.ini _) (k:=35) (hrun _ _ _ _ ?_) ?_;apply gs_own;(focus ((repeat (first|exact Pull.here|apply Pull.there));done));rintro u L' ⟨hr,H1,xs,⟨rfl,hxs⟩,rfl⟩|refine acK (L1:=engL eb H1 c0 s1 _) (k:=31) (hex _ _ _) ?_;rintro u L' ⟨ha,hp,H2,rfl,rfl⟩)|refine zB ?_ ?_<;>intro hc<;>try exact no hc|refine zH ?_ ?_<;>(intro hg;rw[hg];try exact no hg)));all_goals try refine⟨fun a w F M=>?_⟩
 refine svLoop F M ((0,H2):Nat × EH) (fun z=>[(37,.int .i64 z.1)]) (fun z=>engL eb z.2 c0 (S z.1) []) (fun z=>z.1≤15) (fun z=>15 - z.1) [] (Nat.zero_le _) ?_ (hR:=by(repeat (first|exact Pulls.nil|(apply Pulls.cons;(focus ((repeat (first|exact Pull.here|apply Pull.there));done))))))
 (rintro⟨k,H3⟩ q1 a w F M;(try simp only[zc,zn] at F M q1 ⊢))
 by_cases hk:k<15
 ·have g3:=f3 k hk
  have ht:=fun b H R=>htk k (by omega) b H R
  generalize Y k=y at *
  obtain ⟨y1,y2,y3,y4,y5,y6,y7,y8,y9⟩:=y
  simp only at g3 ht
  subst g3
  (try refine zI F M ?_;clear F M a;try clear w);(repeat'(first|refine zV (h:=⟨_,by((exact rt_fieldV (ft:=60) (off:=7) rfl rfl (by kernel_rfl) inferInstance rfl)),?_⟩)|refine zA1 zk30 ?_;repeat intro(nb:Nat)|refine zC ?_;refine acK (L1:=engL eb H3 c0 (S k) _) (k:=31) (ht _ _ _) ?_;rintro u L' ⟨ha2,hp2,H4,rfl,rfl⟩|refine zB ?_ ?_<;>intro hc<;>try exact no hc|refine zH ?_ ?_<;>(intro hg;rw[hg];try exact no hg)));all_goals try refine⟨fun a w F M=>?_⟩
  exact sv_again F M (k+1,H4) kpA permsA (by simp only;omega) (by simp only;omega)
 obtain rfl:k=15:=by omega
 have ht:=fun b H R=>htk 15 (by omega) b H R
 generalize Y 15=y at *
 obtain ⟨y1,y2,y3,y4,y5,y6,y7,y8,y9⟩:=y
 simp only at f4 f5 f6 ht
 subst f4;subst f5;subst f6
 have hq:∀ {u v:Value} {L:List Asn},GS L 3 u 1 ([(⟨0,32,true⟩:Pm)].flatMap pmL)→GS L 3 v 1 ([(⟨0,32,true⟩:Pm)].flatMap pmL)→Reads 63 [u,v] (.bool true) L:=fun g1 g2=>by simpa using eqs_pm _ _ [(⟨0,32,true⟩:Pm)] [(⟨0,32,true⟩:Pm)] g1 g2
 (try refine zI F M ?_;clear F M a;try clear w);(repeat'(first|refine zA zk30 ?_;repeat intro nb|refine zC ?_;(first|refine acK (L1:=engL eb H3 c0 (S 15) _) (k:=31) (ht _ _ _) ?_;rintro u L' ⟨ha2,hp2,H4,rfl,rfl⟩|refine acCall (k:=63) ?_;refine Spec.of_reads (hq (gs_own pullA) (gs_own pullA)) rfl ?_)|refine zB ?_ ?_<;>intro hc<;>try exact no hc|refine zH ?_ ?_<;>(intro hg;rw[hg];try exact no hg)));all_goals try refine⟨fun a w F M=>?_⟩
 all_goals refine zE F M ?_
 exact⟨_,_,rfl,⟨rfl,rfl⟩,M.perms permsA⟩
end
section
open Go.RowKit
structure Fit (c:Cfg) (n:Nat):Prop where
 ck:checkF c=0
 ca:c.capacity≤100
 vi:c.visits≤200
 py:c.payments≤200
 me:c.merges≤200
 qs:c.queueSize≤200
 n:n≤400
section
variable (c:Cfg) (v:Value) (l:List Opn) (R:List Asn) (hg:GS R 4 v l.length (l.flatMap opL))
include hg
theorem fits_yes (h:Fit c l.length):Spec 29 [cfgV c,v] R fun u L'=>u=.int .i64 1∧L'=R:=by
 obtain ⟨h1,h2,h3,h4,h5,h6,h7⟩:=h
 have hck:=fun R=>rcheck_spec c R
 rw[h1] at hck
 refine zGo Tryz.func29 ?_;intro G w M a F
 have hG:GS (R++G) 4 v l.length (l.flatMap opL):=Gives.app hg
 (try refine zI F M ?_;clear F M a;try clear w);(repeat'(first|refine zA zk29 ?_;repeat intro nb|refine zC ?_;refine kpW (k:=16) (hck _) ?_|refine zB ?_ ?_<;>intro hc<;>try exact no hc|refine zH ?_ ?_<;>(intro hg;rw[hg];try exact no hg)));all_goals try refine⟨fun a w F M=>?_⟩
 all_goals refine zE F M ?_
 exact⟨_,_,rfl,⟨rfl,rfl⟩,M.perms permsA⟩
theorem fits_no (h:¬Fit c l.length):Spec 29 [cfgV c,v] R fun u L'=>u=.int .i64 0∧L'=R:=by
 have hck:=fun R=>rcheck_spec c R
 obtain ⟨x,hx⟩:∃ x:Int,(checkF c:Int)=x:=⟨_,rfl⟩
 simp only[hx] at hck
 refine zGo Tryz.func29 ?_;intro G w M a F
 have hG:GS (R++G) 4 v l.length (l.flatMap opL):=Gives.app hg
 (try refine zI F M ?_;clear F M a;try clear w);(repeat'(first|refine zA zk29 ?_;repeat intro nb|refine zC ?_;refine kpW (k:=16) (hck _) ?_|refine zB ?_ ?_<;>intro hc<;>try exact no hc|refine zH ?_ ?_<;>(intro hg;rw[hg];try exact no hg)));all_goals try refine⟨fun a w F M=>?_⟩
 all_goals first
  | (refine zE F M ?_;exact⟨_,_,rfl,⟨rfl,rfl⟩,M.perms permsA⟩)
  | (exfalso;apply h;simp only[decide_eq_false_iff_not] at *;exact⟨by omega,by omega,by omega,by omega,by omega,by omega,by omega⟩)
  | trace_state
end
end
section
open Go.RowKit
instance eqfP:EQF prL [.int,.int]:=⟨fun x y=>by
 obtain ⟨a,b⟩:=x;obtain ⟨d,e⟩:=y
 simp only[prL,cellsEq,scEq,if_true,Bool.and_true,Prod.mk.injEq,Option.some.injEq]
 rw[Bool.eq_iff_iff];simp;try omega⟩
theorem eqs_nat (u v:Value) (xs ys:List Nat) {L:List Asn} (hu:GS L 1 u xs.length (xs.flatMap natL)) (hv:GS L 1 v ys.length (ys.flatMap natL)) :
  Reads 20 [u,v] (.bool (decide (xs=ys))) L:=by
 (intro K hK w M;refine sx_enter Tryz.func20 (n:=26) rfl rfl rfl rfl ?_;intro a F)
 replace hu:=hu.imp hK
 replace hv:=hv.imp hK
 have hlu:=hu.len_le M
 have hlv:=hv.len_le M
 by_cases hl:xs.length=ys.length
 ·have hR:decide (xs=ys)=decide (xs.drop 0=ys.drop 0):=by simp
  generalize decide (xs=ys)=R at *
  (try refine zI F M ?_;clear F M a;try clear w);(repeat'(first|refine zV (h:=⟨_,by(apply(rt_neqT (f:=natL));(exact rfl);(exact rfl);(exact rfl);(exact inferInstance);(exact inferInstance)),?_⟩)|refine zA1 zk20 ?_;repeat intro(b:Nat)|refine zB ?_ ?_<;>intro hc<;>try exact no hc|refine zH ?_ ?_<;>(intro hg;rw[hg];try exact no hg)));all_goals try refine⟨fun a w F M=>?_⟩
  refine sv_loop (σ:=Nat) (fun s=>[(0,u),(1,v),(12,.int .i64 xs.length),(13,.int .i64 s)]) (fun _=>K) (fun s=>s≤xs.length∧R=decide (xs.drop s=ys.drop s)) (fun s=>xs.length - s) F M 0 kpA permsA ⟨by omega,hR⟩ ?_
  rintro k ⟨h1,h2⟩ a w F M
  try simp only at h1 h2 F ⊢
  by_cases hlt:k<xs.length
  ·obtain ⟨x,hx⟩:∃ x,xs[k]? = some x:=⟨xs[k],by simp[hlt]⟩
   obtain ⟨y,hy⟩:∃ y,ys[k]? = some y:=⟨ys[k]'(by omega),by rw[List.getElem?_eq_getElem (by omega)]⟩
   rw[drop_cons hx,drop_cons hy] at h2
   by_cases he:x=y
   ·subst he
    (try refine zI F M ?_;clear F M a;try clear w);(repeat'(first|refine zV (h:=⟨_,by(apply(rt_neqT (f:=natL));(exact rfl);(exact rfl);(exact rfl);(exact inferInstance);(exact inferInstance)),?_⟩)|refine zA1 zk20 ?_;repeat intro(b:Nat)|refine zB ?_ ?_<;>intro hc<;>try exact no hc|refine zH ?_ ?_<;>(intro hg;rw[hg];try exact no hg)));all_goals try refine⟨fun a w F M=>?_⟩
    (refine sv_again F M (k+1) kpA permsA ?_ ?_)
    ·exact⟨by omega,by rw[h2];simp⟩
    ·omega
   ·(try refine zI F M ?_;clear F M a;try clear w);(repeat'(first|refine zV (h:=⟨_,by(apply(rt_neqT (f:=natL));(exact rfl);(exact rfl);(exact rfl);(exact inferInstance);(exact inferInstance)),?_⟩)|refine zA1 zk20 ?_;repeat intro(b:Nat)|refine zB ?_ ?_<;>intro hc<;>try exact no hc|refine zH ?_ ?_<;>(intro hg;rw[hg];try exact no hg)));all_goals try refine⟨fun a w F M=>?_⟩
    (all_goals((first|(refine svEnd F M ?_)|(refine svRet F M ?_));refine⟨?_,M.perms permsA⟩))
    rw[h2];simp[tupOf,he]
  ·(try refine zI F M ?_;clear F M a;try clear w);(repeat'(first|refine zV (h:=⟨_,by(apply(rt_neqT (f:=natL));(exact rfl);(exact rfl);(exact rfl);(exact inferInstance);(exact inferInstance)),?_⟩)|refine zA1 zk20 ?_;repeat intro(b:Nat)|refine zB ?_ ?_<;>intro hc<;>try exact no hc|refine zH ?_ ?_<;>(intro hg;rw[hg];try exact no hg)));all_goals try refine⟨fun a w F M=>?_⟩
   (all_goals((first|(refine svEnd F M ?_)|(refine svRet F M ?_));refine⟨?_,M.perms permsA⟩))
   rw[h2,List.drop_of_length_le (by omega),List.drop_of_length_le (by omega)];rfl
 ·have hne:xs≠ys:=fun e=>hl (by rw[e])
  have hl':¬((xs.length:Int)=(ys.length:Int)):=by omega
  (try refine zI F M ?_;clear F M a;try clear w);(repeat'(first|refine zV (h:=⟨_,by(apply(rt_neqT (f:=natL));(exact rfl);(exact rfl);(exact rfl);(exact inferInstance);(exact inferInstance)),?_⟩)|refine zA1 zk20 ?_;repeat intro(b:Nat)|refine zB ?_ ?_<;>intro hc<;>try exact no hc|refine zH ?_ ?_<;>(intro hg;rw[hg];try exact no hg)));all_goals try refine⟨fun a w F M=>?_⟩
  (all_goals((first|(refine svEnd F M ?_)|(refine svRet F M ?_));refine⟨?_,M.perms permsA⟩))
  simp[tupOf,hne]
theorem eqs_pr (u v:Value) (xs ys:List (Nat × Nat)) {L:List Asn} (hu:GS L 2 u xs.length (xs.flatMap prL)) (hv:GS L 2 v ys.length (ys.flatMap prL)) :
  Reads 87 [u,v] (.bool (decide (xs=ys))) L:=by
 (intro K hK w M;refine sx_enter Tryz.func87 (n:=26) rfl rfl rfl rfl ?_;intro a F)
 replace hu:=hu.imp hK
 replace hv:=hv.imp hK
 have hlu:=hu.len_le M
 have hlv:=hv.len_le M
 by_cases hl:xs.length=ys.length
 ·have hR:decide (xs=ys)=decide (xs.drop 0=ys.drop 0):=by simp
  generalize decide (xs=ys)=R at *
  (try refine zI F M ?_;clear F M a;try clear w);(repeat'(first|refine zV (h:=⟨_,by(apply(rt_neqT (f:=prL));(exact rfl);(exact rfl);(exact rfl);(exact inferInstance);(exact inferInstance)),?_⟩)|refine zA1 zk87 ?_;repeat intro(b:Nat)|refine zB ?_ ?_<;>intro hc<;>try exact no hc|refine zH ?_ ?_<;>(intro hg;rw[hg];try exact no hg)));all_goals try refine⟨fun a w F M=>?_⟩
  refine sv_loop (σ:=Nat) (fun s=>[(0,u),(1,v),(12,.int .i64 xs.length),(13,.int .i64 s)]) (fun _=>K) (fun s=>s≤xs.length∧R=decide (xs.drop s=ys.drop s)) (fun s=>xs.length - s) F M 0 kpA permsA ⟨by omega,hR⟩ ?_
  rintro k ⟨h1,h2⟩ a w F M
  try simp only at h1 h2 F ⊢
  by_cases hlt:k<xs.length
  ·obtain ⟨x,hx⟩:∃ x,xs[k]? = some x:=⟨xs[k],by simp[hlt]⟩
   obtain ⟨y,hy⟩:∃ y,ys[k]? = some y:=⟨ys[k]'(by omega),by rw[List.getElem?_eq_getElem (by omega)]⟩
   rw[drop_cons hx,drop_cons hy] at h2
   by_cases he:x=y
   ·subst he
    (try refine zI F M ?_;clear F M a;try clear w);(repeat'(first|refine zV (h:=⟨_,by(apply(rt_neqT (f:=prL));(exact rfl);(exact rfl);(exact rfl);(exact inferInstance);(exact inferInstance)),?_⟩)|refine zA1 zk87 ?_;repeat intro(b:Nat)|refine zB ?_ ?_<;>intro hc<;>try exact no hc|refine zH ?_ ?_<;>(intro hg;rw[hg];try exact no hg)));all_goals try refine⟨fun a w F M=>?_⟩
    (refine sv_again F M (k+1) kpA permsA ?_ ?_)
    ·exact⟨by omega,by rw[h2];simp⟩
    ·omega
   ·(try refine zI F M ?_;clear F M a;try clear w);(repeat'(first|refine zV (h:=⟨_,by(apply(rt_neqT (f:=prL));(exact rfl);(exact rfl);(exact rfl);(exact inferInstance);(exact inferInstance)),?_⟩)|refine zA1 zk87 ?_;repeat intro(b:Nat)|refine zB ?_ ?_<;>intro hc<;>try exact no hc|refine zH ?_ ?_<;>(intro hg;rw[hg];try exact no hg)));all_goals try refine⟨fun a w F M=>?_⟩
    (all_goals((first|(refine svEnd F M ?_)|(refine svRet F M ?_));refine⟨?_,M.perms permsA⟩))
    rw[h2];simp[tupOf,he]
  ·(try refine zI F M ?_;clear F M a;try clear w);(repeat'(first|refine zV (h:=⟨_,by(apply(rt_neqT (f:=prL));(exact rfl);(exact rfl);(exact rfl);(exact inferInstance);(exact inferInstance)),?_⟩)|refine zA1 zk87 ?_;repeat intro(b:Nat)|refine zB ?_ ?_<;>intro hc<;>try exact no hc|refine zH ?_ ?_<;>(intro hg;rw[hg];try exact no hg)));all_goals try refine⟨fun a w F M=>?_⟩
   (all_goals((first|(refine svEnd F M ?_)|(refine svRet F M ?_));refine⟨?_,M.perms permsA⟩))
   rw[h2,List.drop_of_length_le (by omega),List.drop_of_length_le (by omega)];rfl
 ·have hne:xs≠ys:=fun e=>hl (by rw[e])
  have hl':¬((xs.length:Int)=(ys.length:Int)):=by omega
  (try refine zI F M ?_;clear F M a;try clear w);(repeat'(first|refine zV (h:=⟨_,by(apply(rt_neqT (f:=prL));(exact rfl);(exact rfl);(exact rfl);(exact inferInstance);(exact inferInstance)),?_⟩)|refine zA1 zk87 ?_;repeat intro(b:Nat)|refine zB ?_ ?_<;>intro hc<;>try exact no hc|refine zH ?_ ?_<;>(intro hg;rw[hg];try exact no hg)));all_goals try refine⟨fun a w F M=>?_⟩
  (all_goals((first|(refine svEnd F M ?_)|(refine svRet F M ?_));refine⟨?_,M.perms permsA⟩))
  simp[tupOf,hne]
end
section
open Go.RowKit
theorem rlive_spec (s:Int) (R:List Asn):Spec 92 [.int .i64 s] R fun u L'=>u=.bool (decide (s=2) || decide (s=3))∧L'=R:=by
 refine zGz Tryz.func92 ?_;intro G;(repeat'(first|refine zA zk92 ?_;repeat intro nb|refine zB ?_ ?_<;>intro hc<;>try exact no hc|refine zH ?_ ?_<;>(intro hg;rw[hg];try exact no hg)));all_goals try refine⟨fun a w F M=>?_⟩
 all_goals refine zE F M ?_
 all_goals exact⟨_,_,rfl,⟨by simp_all [tupOf],rfl⟩,M.perms permsA⟩
section
variable (V:List Val) (v:Value) (R:List Asn) (hg:GS R 7 v V.length (V.flatMap valL)) (hlen:V.length≤1000000)
include hg hlen
theorem rbals_spec:Spec 90 [v] R fun u L'=>∃ h,u=sl h∧L'=ownT 23 u64L 1 (sl h) (bals V)::R:=by
 have hbl:(bals V).length=V.length:=by simp[bals]
 refine zGo Tryz.func90 ?_;intro G w M a F
 have hG:GS (R++G) 7 v V.length (V.flatMap valL):=Gives.app hg
 have M:=M.own_nil 23 1
 (try refine zI F M ?_;clear F M a;try clear w);(repeat'(first|refine zA zk90 ?_;repeat intro nb|refine zB ?_ ?_<;>intro hc<;>try exact no hc|refine zH ?_ ?_<;>(intro hg;rw[hg];try exact no hg)));all_goals try refine⟨fun a w F M=>?_⟩
 refine svLoop F M ((0,nilH):Nat × SlH) (fun s=>[(4,.int .i64 s.1),(3,sl s.2)]) (fun s=>[ownT 23 u64L 1 (sl s.2) ((bals V).take s.1)]) (fun s=>s.1≤V.length) (fun s=>V.length - s.1) [] (Nat.zero_le _) ?_ (hR:=by simp only[List.take_zero];(repeat (first|exact Pulls.nil|(apply Pulls.cons;(focus ((repeat (first|exact Pull.here|apply Pull.there));done))))))
 (rintro⟨k,h⟩ q1 a w F M;(try simp only[zc,zn] at F M q1 ⊢))
 by_cases hlt:k<V.length
 ·obtain ⟨x,hx⟩:∃ x,V[k]? = some x:=⟨V[k],by simp[hlt]⟩
  have ht:(bals V).take (k+1)=(bals V).take k++[x.bal]:=by rw[List.take_add_one,bals_get hx];rfl
  have htl:((bals V).take k).length≤1000000:=by rw[List.length_take];omega
  (try refine zI F M ?_;clear F M a;try clear w);(repeat'(first|refine zA zk90 ?_;repeat intro nb|refine zC ?_;refine ac_appendH rfl rfl inferInstance rfl rfl pullA inferInstance (ys:=[x.bal]) gsA rfl rfl (by simp;omega) ?_;intro nv|refine zB ?_ ?_<;>intro hc<;>try exact no hc|refine zH ?_ ?_<;>(intro hg;rw[hg];try exact no hg)));all_goals try refine⟨fun a w F M=>?_⟩
  rw[← ht] at M
  refine sv_again F M (k+1,nv) kpA permsA (by simp only;omega) (by simp only;omega)
 ·obtain rfl:k=V.length:=by omega
  rw[List.take_of_length_le (by omega)] at M
  (try refine zI F M ?_;clear F M a;try clear w);(repeat'(first|refine zA zk90 ?_;repeat intro nb|refine zB ?_ ?_<;>intro hc<;>try exact no hc|refine zH ?_ ?_<;>(intro hg;rw[hg];try exact no hg)));all_goals try refine⟨fun a w F M=>?_⟩
  (all_goals(refine zE F M ?_;exact⟨_,_,rfl,⟨h,rfl,rfl⟩,M.perms permsA⟩))
end
section
variable (x:Sn) (d:SnD) (c:Cfg) (R:List Asn) (h:SnG R x d) (hl:d.V.length≤1000)
include h hl
end
end
section
open Go.RowKit
section
variable (R:List Asn)
theorem rnext_spec (s e:Int):Spec 232 [.int .i64 s,.int .i64 e] R fun u L'=>u=.int .i64 (nextF s e)∧L'=R:=Spec.of_quiet (fun w=>rNext_any s e w) ⟨rfl,rfl⟩
theorem racc_spec (v:Val) (ep:Int):Spec 170 [valV v,.int .i64 ep] R fun u L'=>u=.tuple [valV (accR v ep).2.1,.int .i64 (accR v ep).1].toArray∧L'=R:=Spec.of_below (fun w=>rAccept_any v ep w) ⟨rfl,rfl⟩
theorem rasg_spec (v:Val) (xt:Int) (c:Cfg) (hdy:(Lit.int .i64 c.unbonding).wf=true):Spec 242 [valV v,.int .i64 xt,cfgV c] R fun u L'=>u=.tuple [valV (asgR v xt c.unbonding).2.1,.int .i64 (asgR v xt c.unbonding).1].toArray∧L'=R:=Spec.of_below (fun w=>rAssign_any v xt c hdy w) ⟨rfl,rfl⟩
theorem rsla_spec (v:Val) (hb0:0≤v.bal) (hb:v.bal≤18446744073709551615) (ep:Int) (c:Cfg) (hdy:(Lit.int .i64 c.slashDelay).wf=true) (hn0:0≤c.penNum) (hn:c.penNum≤18446744073709551615) (hd0:0≤c.penDen) (hd:c.penDen≤18446744073709551615):Spec 175 [valV v,.int .i64 ep,cfgV c] R fun u L'=>u=.tuple [valV (slaR v ep c.slashDelay c.penNum c.penDen).2.1,.int .u64 (slaR v ep c.slashDelay c.penNum c.penDen).2.2,.int .i64 (slaR v ep c.slashDelay c.penNum c.penDen).1].toArray∧L'=R:=Spec.of_below (fun w=>rSlash_any v hb0 hb ep c hdy hn0 hn hd0 hd w) ⟨rfl,rfl⟩
theorem rpayv_spec (v:Val) (ep:Int):Spec 183 [valV v,.int .i64 ep] R fun u L'=>u=.tuple [valV (payR v ep).2.1,.int .u64 (if (payR v ep).1=0 then v.bal else 0),.int .i64 (payR v ep).1].toArray∧L'=R:=Spec.of_below (fun w=>rPay_any v ep w) ⟨rfl,rfl⟩
theorem rlater_spec (a:Int) (v:Value) (l:List Int) (hg:GS R 1 v l.length (l.flatMap intL)) (hl:l.length≤1000000) (hr:∀ z∈l,I64 z):Spec 236 [.int .i64 a,v] R fun u L'=>u=.tuple [.int .i64 (laterF a l),.bool (laterB a l)].toArray∧L'=R :=
 Spec.of_below_g (us':=[.int .i64 a,v]) (fun w h=>(rLater_any a v l w (by rw[ints_flat];exact h) hl hr).mono fun e w' hh=>⟨hh.1,hh.2.below _⟩) hg rfl ⟨rfl,rfl⟩
theorem ceilD_rem {a d:Int} (ha:0≤a) (hd:1≤d):ceilD a d=if 0<a % d then a / d+1 else a / d:=by
 unfold ceilD
 have h1:=Int.emod_add_mul_ediv a d
 have h2:=Int.emod_nonneg a (show d≠0 by omega)
 have h3:=Int.emod_lt_of_pos a (show 0<d by omega)
 have e:a+d - 1=(a % d+d - 1)+d*(a / d):=by omega
 rw[e,Int.add_mul_ediv_left _ _ (by omega)]
 split
 ·rw[show a % d+d - 1=(a % d - 1)+d*1 by omega,Int.add_mul_ediv_left _ _ (by omega),Int.ediv_eq_zero_of_lt (by omega) (by omega)];omega
 ·rw[Int.ediv_eq_zero_of_lt (by omega) (by omega)];omega
theorem rceil_spec (a d:Int) (ha:U64 a) (hd:1≤d) (hd2:d≤18446744073709551615):Spec 346 [.int .u64 a,.int .u64 d] R fun u L'=>u=.tuple [.int .u64 (ceilD a d),.bool true].toArray∧L'=R:=by
 have h1:=ha.1;have h2:=ha.2
 have hr:=ceilD_range h1 hd
 have hx:=ceilD_rem h1 hd
 have h3:0≤a / d:=Int.ediv_nonneg h1 (by omega)
 have h4:a / d≤a:=Int.ediv_le_self _ h1
 have hw:IntKind.u64.wrap (a / d)=a / d:=u64_wrap_id ⟨h3,by omega⟩
 by_cases h0:0<a % d
 ·rw[if_pos h0] at hx
  refine zGz Tryz.func346 ?_;intro G;(repeat'(first|refine zA zk346 ?_;repeat intro nb|refine zB ?_ ?_<;>intro hc<;>try exact no hc|refine zH ?_ ?_<;>(intro hg;rw[hg];try exact no hg)));all_goals try refine⟨fun a w F M=>?_⟩
  all_goals refine zE F M ?_
  all_goals exact⟨_,_,rfl,⟨by rw[hx];rfl,rfl⟩,M.perms permsA⟩
 ·rw[if_neg h0] at hx
  refine zGz Tryz.func346 ?_;intro G;(repeat'(first|refine zA zk346 ?_;repeat intro nb|refine zB ?_ ?_<;>intro hc<;>try exact no hc|refine zH ?_ ?_<;>(intro hg;rw[hg];try exact no hg)));all_goals try refine⟨fun a w F M=>?_⟩
  all_goals refine zE F M ?_
  all_goals exact⟨_,_,rfl,⟨by rw[hx];rfl,rfl⟩,M.perms permsA⟩
theorem repochs10_spec (x d:Int) (hx:U64 x) (hd:1≤d) (hd2:d≤18446744073709551615):Spec 343 [.int .u64 x,.int .u64 d] R fun u L'=>u=(if 1099511627776<ceilD x d then .tuple [.int .i64 0,.bool false].toArray else .tuple [.int .i64 (ceilD x d),.bool true].toArray)∧L'=R:=by
 have hr:=ceilD_range hx.1 hd
 by_cases h:1099511627776<ceilD x d
 ·rw[if_pos h]
  refine zGz Tryz.func343 ?_;intro G;(repeat'(first|refine zA zk343 ?_;repeat intro nb|refine zC ?_;refine kpW (k:=346) (rceil_spec _ x d hx hd hd2) ?_|refine zB ?_ ?_<;>intro hc<;>try exact no hc|refine zH ?_ ?_<;>(intro hg;rw[hg];try exact no hg)));all_goals exact zXz
 ·rw[if_neg h]
  have hw:IntKind.i64.wrap (ceilD x d)=ceilD x d:=IntWalk.i64_in _ ⟨by omega,by omega⟩
  refine zGz Tryz.func343 ?_;intro G;(repeat'(first|refine zA zk343 ?_;repeat intro nb|refine zC ?_;refine kpW (k:=346) (rceil_spec _ x d hx hd hd2) ?_|refine zB ?_ ?_<;>intro hc<;>try exact no hc|refine zH ?_ ?_<;>(intro hg;rw[hg];try exact no hg)));all_goals exact zXz
theorem rchurn_spec (x m q:Int) (hx:U64 x) (hq:1≤q):Spec 240 [.int .u64 x,.int .u64 m,.int .u64 q] R fun u L'=>u=.int .u64 (max m (x / q))∧L'=R:=by
 have h3:0≤x / q:=Int.ediv_nonneg hx.1 (by omega)
 have h4:x / q≤x:=Int.ediv_le_self _ hx.1
 have hx2:=hx.2
 have hw:IntKind.u64.wrap (x / q)=x / q:=u64_wrap_id ⟨h3,by omega⟩
 refine zGz Tryz.func240 ?_;intro G;(repeat'(first|refine zV (h:=⟨_,by((apply rt_max2;(exact rfl);(exact rfl);((show _=max m (x / q);split<;>omega)))),?_⟩)|refine zA1 zk240 ?_;repeat intro(nb:Nat)|refine zB ?_ ?_<;>intro hc<;>try exact no hc|refine zH ?_ ?_<;>(intro hg;rw[hg];try exact no hg)));all_goals try refine⟨fun a w F M=>?_⟩
 all_goals refine zE F M ?_
 all_goals exact⟨_,_,rfl,⟨rfl,rfl⟩,M.perms permsA⟩
variable (c:Cfg) (hc:CfOk c)
include hc
theorem rbnd_spec (a x:Int) (ha:U64 a) (hx:U64 x):Spec 329 [.int .u64 a,.int .u64 x,cfgV c] R fun u L'=>u=(match bndD c a x with|none=>.tuple [.int .i64 0,.bool false].toArray|some k=>.tuple [.int .i64 k,.bool true].toArray)∧L'=R:=by
 have h1:=hc.fc;have h2:=hc.mc
 have a1:=ha.1;have a2:=ha.2;have x1:=hx.1;have x2:=hx.2
 have hadd:∀ {L:List Asn} {v:Value},GS L 1 v 3 ([a,x,c.forcedCap].flatMap u64L)→Reads 89 [v] (.tuple [.int .u64 (addR [a,x,c.forcedCap]).1,.bool (addR [a,x,c.forcedCap]).2].toArray) L:=fun hg=>radd_reads _ [a,x,c.forcedCap] (by simp only[List.mem_cons,List.not_mem_nil,or_false];rintro z (rfl|rfl|rfl);exact ha;exact hx;exact⟨by omega,by omega⟩) hg
 have hsum:[a,x,c.forcedCap].sum=a+x+c.forcedCap:=by simp;omega
 rw[addR_sum _ (by simp only[List.mem_cons,List.not_mem_nil,or_false];rintro z (rfl|rfl|rfl)<;>omega),hsum] at hadd
 unfold bndD
 by_cases k1:18446744073709551615<a+x+c.forcedCap
 ·rw[if_pos k1] at hadd ⊢
  refine zGz Tryz.func329 ?_;intro G;(repeat'(first|refine zA zk329 ?_;repeat intro nb|refine zC ?_;refine acCall (k:=89) ?_;refine Spec.of_reads (hadd (gs_own pullA)) rfl ?_|refine zB ?_ ?_<;>intro hc<;>try exact no hc|refine zH ?_ ?_<;>(intro hg;rw[hg];try exact no hg)));all_goals exact zXz
 ·rw[if_neg k1] at hadd ⊢
  have he:=fun R=>repochs10_spec R (a+x+c.forcedCap) c.minChurn ⟨by omega,by omega⟩ (by omega) (by omega)
  have hr:=ceilD_range (a:=a+x+c.forcedCap) (d:=c.minChurn) (by omega) (by omega)
  generalize ceilD (a+x+c.forcedCap) c.minChurn=n at *
  by_cases k2:1099511627776<n
  ·rw[if_pos k2]
   simp only[k2,if_true] at he
   refine zGz Tryz.func329 ?_;intro G;(repeat'(first|refine zA zk329 ?_;repeat intro nb|refine zC ?_;(first|refine acCall (k:=89) ?_;refine Spec.of_reads (hadd (gs_own pullA)) rfl ?_|refine kpW (k:=343) (he _) ?_)|refine zB ?_ ?_<;>intro hc<;>try exact no hc|refine zH ?_ ?_<;>(intro hg;rw[hg];try exact no hg)));all_goals exact zXz
  ·rw[if_neg k2]
   simp only[k2,if_false] at he
   refine zGz Tryz.func329 ?_;intro G;(repeat'(first|refine zV (h:=⟨_,by((apply rt_max2;(exact rfl);(exact rfl);((show _=max n 1;split<;>omega)))),?_⟩)|refine zA1 zk329 ?_;repeat intro(nb:Nat)|refine zC ?_;(first|refine acCall (k:=89) ?_;refine Spec.of_reads (hadd (gs_own pullA)) rfl ?_|refine kpW (k:=343) (he _) ?_)|refine zB ?_ ?_<;>intro hc<;>try exact no hc|refine zH ?_ ?_<;>(intro hg;rw[hg];try exact no hg)));all_goals exact zXz
theorem rblocks_spec:Spec 330 [cfgV c] R fun u L'=>u=.int .i64 ((c.capacity - 1) / (min (c.visits - c.partials) (c.payments - c.partials))+1)∧L'=R:=by
 have h1:=hc.vi;have h2:=hc.py;have h3:=hc.pa;have h4:=hc.ca
 obtain ⟨m,hm⟩:∃ m,min (c.visits - c.partials) (c.payments - c.partials)=m:=⟨_,rfl⟩
 obtain ⟨m2,hm2⟩:∃ m2,min c.visits c.payments=m2:=⟨_,rfl⟩
 have hmin:(if c.payments<c.visits then c.payments else c.visits)=m2:=by split<;>omega
 have hmm:m2 - c.partials=m:=by omega
 have hm1:1≤m:=by omega
 have hd0:0≤(c.capacity - 1) / m:=Int.ediv_nonneg (by omega) (by omega)
 have hd1:(c.capacity - 1) / m≤c.capacity - 1:=Int.ediv_le_self _ (by omega)
 have he:(c.capacity+(m2 - c.partials) - 1) / (m2 - c.partials)=(c.capacity - 1) / m+1:=by
  rw[hmm,show c.capacity+m - 1=(c.capacity - 1)+1*m by omega,Int.add_mul_ediv_right _ _ (by omega)]
 have hw:IntKind.i64.wrap ((c.capacity+(m2 - c.partials) - 1) / (m2 - c.partials))=(c.capacity+(m2 - c.partials) - 1) / (m2 - c.partials):=IntWalk.i64_in _ ⟨by omega,by omega⟩
 rw[hm]
 refine zGz Tryz.func330 ?_;intro G;(repeat'(first|refine zV (h:=⟨_,by((apply rt_min2;(exact rfl);(exact rfl);(exact hmin))),?_⟩)|refine zA1 zk330 ?_;repeat intro(nb:Nat)|refine zB ?_ ?_<;>intro hc<;>try exact no hc|refine zH ?_ ?_<;>(intro hg;rw[hg];try exact no hg)));all_goals try refine⟨fun a w F M=>?_⟩
 all_goals refine zE F M ?_
 all_goals exact⟨_,_,rfl,⟨by rw[← he];rfl,rfl⟩,M.perms permsA⟩
theorem rsweepD_spec:Spec 298 [cfgV c] R fun u L'=>u=.int .i64 (swpB c)∧L'=R:=by
 have h1:=hc.vi;have h2:=hc.py;have h3:=hc.pa;have h4:=hc.ca;have h5:=hc.el
 have hb:=fun R=>rblocks_spec R c hc
 unfold swpB
 obtain ⟨m,hm⟩:∃ m,min (c.visits - c.partials) (c.payments - c.partials)=m:=⟨_,rfl⟩
 rw[hm] at hb ⊢
 have hd0:0≤(c.capacity - 1) / m:=Int.ediv_nonneg (by omega) (by omega)
 have hd1:(c.capacity - 1) / m≤c.capacity - 1:=Int.ediv_le_self _ (by omega)
 generalize (c.capacity - 1) / m=n at *
 have hd2:0≤n / c.epochLen:=Int.ediv_nonneg (by omega) (by omega)
 have hd3:n / c.epochLen≤n:=Int.ediv_le_self _ (by omega)
 have hw:IntKind.i64.wrap ((n+1 - 1) / c.epochLen)=(n+1 - 1) / c.epochLen:=IntWalk.i64_in _ ⟨by rw[Int.add_sub_cancel];omega,by rw[Int.add_sub_cancel];omega⟩
 refine zGz Tryz.func298 ?_;intro G;(repeat'(first|refine zA zk298 ?_;repeat intro nb|refine zC ?_;refine kpW (k:=330) (hb _) ?_|refine zB ?_ ?_<;>intro hc<;>try exact no hc|refine zH ?_ ?_<;>(intro hg;rw[hg];try exact no hg)));all_goals try refine⟨fun a w F M=>?_⟩
 (all_goals(refine zE F M ?_;exact⟨_,_,rfl,⟨by rw[Int.add_sub_cancel];rfl,rfl⟩,M.perms permsA⟩))
def bndG (c:Cfg) (ep a x m:Int):Value:=match bndD c a x with
 | none=>.tuple [.int .i64 0,.bool false].toArray
 | some k=>if 1099511627776<ep+k+1+m then .tuple [.int .i64 0,.bool false].toArray else .tuple [.int .i64 (ep+k+1+m),.bool true].toArray
theorem rbound_spec (ep a x m:Int) (hm:0≤m∧m≤1000000000000) (hep:0≤ep∧ep≤1099511627776) (ha:U64 a) (hx:U64 x) :
  Spec 297 [.int .i64 ep,.int .u64 a,.int .u64 x,cfgV c,.int .i64 m] R fun u L'=>u=bndG c ep a x m∧L'=R:=by
 have hb:=fun R=>rbnd_spec R c hc a x ha hx
 have hr:∀ k,bndD c a x=some k→0≤k∧k≤1099511627776:=fun k hk=>by
  unfold bndD at hk
  split at hk
  ·cases hk
  ·split at hk
   ·cases hk
   ·have:=Option.some.inj hk;omega
 unfold bndG
 cases hd:bndD c a x with
 | none =>
  rw[hd] at hb
  simp only at hb
  refine zGz Tryz.func297 ?_;intro G;(repeat'(first|refine zA zk297 ?_;repeat intro nb|refine zC ?_;refine kpW (k:=329) (hb _) ?_|refine zB ?_ ?_<;>intro hc<;>try exact no hc|refine zH ?_ ?_<;>(intro hg;rw[hg];try exact no hg)));all_goals exact zXz
 | some k =>
  obtain ⟨k1,k2⟩:=hr k hd
  rw[hd] at hb
  simp only at hb
  have hl:=fun (R:List Asn) (v:Value) hg=>rlater_spec R ep v [k,1,m] hg (by simp) (by simp only[List.mem_cons,List.not_mem_nil,or_false];rintro z (rfl|rfl|rfl)<;>exact⟨by omega,by omega⟩)
  have hs:laterGo 0 [ep,k,1,m]=if 1099511627776<ep+k+1+m then (0,false) else (ep+k+1+m,true):=by
   rw[laterGo_sum _ _ (by omega) (by simp only[List.mem_cons,List.not_mem_nil,or_false];rintro z (rfl|rfl|rfl|rfl)<;>omega)]
   rw[show 0 + [ep,k,1,m].sum=ep+k+1+m by simp;omega]
  simp only[laterF,laterB,hs] at hl
  by_cases hk:1099511627776<ep+k+1+m
  all_goals simp only[hk,if_true,if_false] at hl ⊢
  all_goals(refine zGo Tryz.func297 ?_;intro G w M a F)
  all_goals((try refine zI F M ?_;clear F M a;try clear w);(repeat'(first|refine zA zk297 ?_;repeat intro nb|refine zC ?_;(first|refine kpW (k:=329) (hb _) ?_|refine acW (k:=236) (hl _ _ ?_) ?_;exact gs_own pullA;rintro u L' ⟨rfl,rfl⟩)|refine zB ?_ ?_<;>intro hc<;>try exact no hc|refine zH ?_ ?_<;>(intro hg;rw[hg];try exact no hg)));all_goals try refine⟨fun a w F M=>?_⟩)
  all_goals refine zE F M ?_
  all_goals exact⟨_,_,rfl,⟨rfl,rfl⟩,M.perms permsA⟩
def payT:Option Int→Value
 | none=>.tuple [.int .i64 0,.bool false].toArray
 | some t=>.tuple [.int .i64 t,.bool true].toArray
theorem payT_form (o:Option Int):∃ t f,payT o=.tuple [.int .i64 t,.bool f].toArray:=by
 cases o<;>exact⟨_,_,rfl⟩
theorem bndG_payD (ep a x:Int):bndG c ep a x (c.unbonding+swpB c)=payT (payD c ep a x):=by
 refine Eq.trans ?_ (payG_payD c hc ep a x)
 unfold bndG payG
 cases bndD c a x with
 | none=>rfl
 | some k =>
  simp only
  rw[show ∀ k:Int,ep+k+1+(c.unbonding+swpB c)=ep+k+1+c.unbonding+swpB c from fun k=>by omega]
theorem rdpay_spec (ep a x:Int) (hep:0≤ep∧ep≤1099511627776) (ha:U64 a) (hx:U64 x):Spec 235 [.int .i64 ep,.int .u64 a,.int .u64 x,cfgV c] R fun u L'=>u=payT (payD c ep a x)∧L'=R:=by
 rw[← bndG_payD c hc ep a x]
 have h4:=hc.un
 have h5:=swpB_range c hc
 have hsw:=fun R=>rsweepD_spec R c hc
 have hbo:=fun R=>rbound_spec R c hc ep a x (c.unbonding+swpB c) (by omega) hep ha hx
 have hcase:∃ t f,bndG c ep a x (c.unbonding+swpB c)=.tuple [.int .i64 t,.bool f].toArray:=by
  unfold bndG
  split
  ·exact⟨_,_,rfl⟩
  ·split<;>exact⟨_,_,rfl⟩
 obtain ⟨t,f,ht⟩:=hcase
 rw[ht] at hbo ⊢
 generalize swpB c=m2 at *
 refine zGz Tryz.func235 ?_;intro G;(repeat'(first|refine zA zk235 ?_;repeat intro nb|refine zC ?_;(first|refine kpW (k:=298) (hsw _) ?_|refine kpW (k:=297) (hbo _) ?_)|refine zB ?_ ?_<;>intro hc<;>try exact no hc|refine zH ?_ ?_<;>(intro hg;rw[hg];try exact no hg)));all_goals exact zXz
end
end
end Go.Proofs.YtopbohbkhljjgaaGreat
