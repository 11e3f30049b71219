import Derived.Test.YtjbfcacmdahnhaaGreatZri
set_option linter.unusedVariables false
set_option linter.unusedSimpArgs false
set_option linter.unusedSectionVars false
set_option maxRecDepth 100000
set_option maxHeartbeats 8000000
namespace Go.Proofs.YtjbfcacmdahnhaaGreat
section
open Go.RowKit
def sh (D:List Deferred) (a:Act):Act:={a with defers:=a.defers++D}
theorem sh_put (D:List Deferred) (a:Act) (d:Option Tmp) (v:Value):(sh D a).put d v=sh D (a.put d v):=by cases d<;>rfl
section
variable {P:Program} {ops:Array Oper} {Q:Exit→Act→World→Prop} {D:List Deferred}
theorem upon_sh {o:Oper} {a:Act} {next:Act→World→Prop} {r:Result Next} (h:o.upon P a (fun a w=>next (sh D a) w) (fun e a w=>Q e (sh D a) w) r):o.upon P (sh D a) next Q r:=by
 cases r with
 | ok x w =>
  cases x<;>simp only[Oper.upon,sh_put] at h ⊢<;>first|exact h|skip
  ·exact h.mono fun e w' he=>by cases e<;>first|exact he|(obtain ⟨a',w'',h'⟩:=he;exact⟨_,_,h'⟩)
  ·rename_i d
   have e:({sh D a with defers:=d::(sh D a).defers}:Act)=sh D {a with defers:=d::a.defers}:=rfl
   rw[e,sh_put];exact h
 | halt x w=>cases x<;>simp only[Oper.upon] at h ⊢<;>exact h
theorem wp_sh {o:Oper} {a:Act} {w:World} {next:Act→World→Prop} (h:o.wp P a w (fun a w=>next (sh D a) w) (fun e a w=>Q e (sh D a) w)):o.wp P (sh D a) w next Q:=upon_sh h
theorem outs_sh (h:LetsOut fun e a w=>Q e (sh D a) w):LetsOut Q:=by obtain ⟨a,w,h⟩:=h;exact⟨_,w,h⟩
theorem wpList_sh:∀ (rest:List Oper) (a:Act) (w:World),wpList P ops (fun e a w=>Q e (sh D a) w) rest a w→wpList P ops Q rest (sh D a) w
 | [],a,w,h=>h
 | o::rest,a,w,h=>by
  simp only[wpList] at h ⊢
  have e:yielded ops (sh D a).tmps=yielded ops a.tmps:=rfl
  rw[e]
  split at h
  ·rename_i hw
   rw[if_pos hw]
   rcases h with h|⟨h1,h2⟩
   ·exact .inl (wp_sh (Oper.wp_mono (fun a w h=>wpList_sh rest a w h) h))
   ·exact .inr ⟨h1,outs_sh h2⟩
  ·rename_i hw
   rw[if_neg hw,sh_put]
   exact wpList_sh rest _ w h
theorem wpAny_sh:∀ (fuel:Nat) (listed:Array Bool) (a:Act) (w:World),wpAny P .any ops (fun e a w=>Q e (sh D a) w) fuel listed a w→wpAny P .any ops Q fuel listed (sh D a) w
 | 0,listed,a,w,h=>h
 | fuel+1,listed,a,w,h=>by
  refine⟨h.1,fun i hi=>?_⟩
  have h2:=h.2 i hi
  unfold wpOp at h2 ⊢
  cases ho:ops[i]? with
  | none=>rw[ho] at h2;exact wpAny_sh fuel _ a w h2
  | some o =>
   rw[ho] at h2
   have e:yielded ops (sh D a).tmps=yielded ops a.tmps:=rfl
   simp only[e] at h2 ⊢
   split at h2
   ·rename_i hw
    rw[if_pos hw]
    rcases h2 with h2|⟨h1,h3⟩
    ·exact .inl (wp_sh (Oper.wp_mono (fun a w h=>wpAny_sh fuel _ a w h) h2))
    ·exact .inr ⟨h1,outs_sh h3⟩
   ·rename_i hw
    rw[if_neg hw,sh_put]
    exact wpAny_sh fuel _ _ w h2
theorem regL_sh {id:Nat} {os:List Oper} {a:Act} {w:World} (h:wpList P os.toArray (fun e a w=>Q e (sh D a) w) os a w):(Code.region id os.toArray false).wp P Q (sh D a) w:=wp_region_lit (wpList_sh os a w h)
end
section
variable {ops:Array Oper} {Q:Exit→Act→World→Prop} {D:List Deferred} {a:Act} {w:World} {n:Nat} {l:List (Nat × Value)} {L:List Asn}
theorem regD_sh {id:Nat} (E Fl:List Nat) (S:List (Nat × List Nat)) (σ:List Nat) (F:Fr a n l) (M:Mem w L) (h:PW Tryz.prog ops n (fun e a w=>Q e (sh D a) w) E Fl S σ [] l L) (hok:drawOK ops E Fl S σ n=true:=by kernel_rfl) (hFl:FlOK Tryz.prog ops Fl:=by(first|(focus ((repeat (first|exact flok_nil|(apply flok_cons;(exact rfl);(exact rfl);(exact inferInstance);(exact rfl);(exact rfl))));done))|fail)):(Code.region id ops true).wp Tryz.prog Q (sh D a) w:=by
 simp only[drawOK,Bool.and_eq_true] at hok
 obtain ⟨⟨⟨⟨⟨hB,ho⟩,hlen⟩,hall⟩,hfl⟩,hds⟩:=hok
 have hn:∀ (i:Nat) (o:Oper) (d:Nat),ops[i]? = some o→o.dst=some d→d<n:=fun i o d hi hd=>by
  have:=Array.all_eq_true_iff_forall_mem.1 hds o (Array.mem_of_getElem? hi)
  rw[hd] at this
  exact Nat.le_of_ble_eq_true this
 have hEF:∀ i,Fl.contains i=true→E.contains i=false:=fun i hi=>by
  have:=List.all_eq_true.1 hfl i (by simpa using hi)
  simp only[Bool.and_eq_true,Bool.not_eq_true'] at this
  exact this.1
 have hrep:∀ j,(Array.replicate ops.size false).getD j true=true→ops.size≤j:=fun j hj=>by
  by_cases hlt:j<ops.size
  ·simp[hlt] at hj
  ·omega
 obtain ⟨done',rest',l',L',ear',hp,hh⟩:=norm hB hn (listed:=Array.replicate ops.size false) (a:=a) (w:={w with drawn:=w.drawn+1}) σ [] l L [] ⟨h,ho,fun i hi=>.inr (by simpa using List.all_eq_true.1 hall i (List.mem_range.2 hi)),by rw[List.map_nil,List.append_nil];exact M.drew _,by simp,by simp,fun j hj hjl=>by have:=hrep j hjl;omega,by simp,by simp,
  fun j o hj hjl=>by have:=hrep j hjl;have:=(Array.getElem?_eq_some_iff.1 hj).1;omega,F.ds,F.size,fun t v ht=>(F.val t v ht).1,fun t v ht=>.inl (F.val t v ht).2,by simp⟩
 exact wp_region_any mixed (wpAny_sh _ _ _ _ (pw_any hB hn hFl hEF ops.size _ a _ (by simp) (by simp[unlisted]) ⟨done',rest',l',L',ear',hp,hh⟩))
theorem sx_enterD {f:FuncId} {fn:Func} {c:Code} {vs:List Value} {w:World} {R:Ending→World→Prop} (hf:Tryz.prog.funcs[f]? = some fn) (hb:fn.body=some c) {n k:Nat} (hn:fn.ntmps=n) (hle:Nat.ble vs.length n=true) (hk0:n - vs.length=k)
  (h:∀ a,Fr a n (initL 0 vs)→c.wp Tryz.prog (bodyPostD Tryz.prog fn R) a w):Calls Tryz.prog f vs.toArray w R:=by
 have hk:vs.length+k=n:=by have:=Nat.le_of_ble_eq_true hle;omega
 subst hn
 refine calls_of_wp_defers hf hb (h _ ?_)
 have:=Fr.init vs k
 rw[hk] at this
 rw[show fn.ntmps - vs.toArray.size=k by simp;omega]
 exact this
def SpecD (k:FuncId) (us:List Value) (L:List Asn) (C:List Asn→Prop):Prop:=∀ G u w,Mem w (L++G)→CallsD Tryz.prog k us.toArray u w fun e u' w'=>u'=u∧∃ v L',e=.returned v∧C L'∧Mem w' (L'++G)
theorem sx_enterC {f:FuncId} {fn:Func} {c:Code} {vs:List Value} {u:FrameMode} {w:World} {R:Ending→World→Prop} (hf:Tryz.prog.funcs[f]? = some fn) (hb:fn.body=some c) {n k:Nat} (hn:fn.ntmps=n) (hle:Nat.ble vs.length n=true) (hk0:n - vs.length=k)
  (h:∀ a,Fr a n (initL 0 vs)→c.wp Tryz.prog (bodyPost Tryz.prog fn R) a w):CallsD Tryz.prog f vs.toArray u w fun e u' w'=>u'=u∧R e w':=by
 have hk:vs.length+k=n:=by have:=Nat.le_of_ble_eq_true hle;omega
 subst hn
 refine callsD_of_wp hf hb (h _ ?_)
 have:=Fr.init vs k
 rw[hk] at this
 rw[show fn.ntmps - vs.toArray.size=k by simp;omega]
 exact this
theorem sh_of (F:Fr a n l) (d:Deferred):({a with defers:=d::a.defers}:Act)=sh [d] a:=by
 have:=F.ds
 obtain ⟨t,ds⟩:=a
 simp only at this
 subst this;rfl
theorem svDefer {rest:List Oper} {o:Oper} (F:Fr a n l) {k:FuncId} {us:List Value} {fo:Operand} {xs:Array Operand} {ats:Array TypeId} (h:wpList Tryz.prog ops Q rest (sh [{target:=.fn (.func k) #[],args:=us.toArray}] a) w)
  (hw:Wanted o ops l=some true:=by exact rfl) (hd:o.dst=none:=by exact rfl) (ho:o.op=.defer {callee:=.value fo,args:=xs,argTypes:=ats}:=by exact rfl) (hf:evl l fo=some (.func (.func k) #[] #[]):=by exact rfl) (hx:evls l xs.toList=some us:=by exact rfl):wpList Tryz.prog ops Q (o::rest) a w:=by
 unfold wpList
 rw[if_pos (F.wanted hw)]
 refine .inl ?_
 unfold Oper.wp
 have e1:xs.map a.eval=us.toArray:=by have:=F.evals hx;apply Array.toList_inj.1;simpa using this
 have hr:(execOp a.eval o).run Tryz.prog w=.ok (.defer {target:=.fn (.func k) #[],args:=us.toArray}) w:=by
  unfold execOp
  rw[ho]
  simp[resolve,F.eval hf,Deferred.ofValue,e1]
 rw[hr]
 unfold Oper.upon
 rw[hd]
 show wpList Tryz.prog ops Q rest ({a with defers:=({target:=.fn (.func k) #[],args:=us.toArray}:Deferred)::a.defers}:Act) w
 rw[sh_of F]
 exact h
theorem svRetD {fn:Func} {R:Ending→World→Prop} {rs:List ResultVar} {vs:List Value} {v:Value} (F:Fr a n l) (M:Mem w L) (hR:R (.returned v) w) (hf:fn.results=rs.toArray:=by exact rfl) (hr:Ress L l rs vs:=by(first|(focus ((repeat (first|exact Ress.nil|(apply Ress.cons)|(apply Res.tmp;exact rfl)|(apply Res.agg;(exact rfl);(exact inferInstance);(exact pullA);(exact rfl))|(apply Res.one;(exact rfl);(exact inferInstance);(exact pullA);(exact rfl))));done))|fail)) (hv:tupOf vs=v:=by exact rfl):bodyPostD Tryz.prog fn R .ret a w:=by
 subst hv
 show Leaves _ _ _ _ _ _ _
 rw[F.ds]
 exact⟨_,hr.run F M hf,hR⟩
theorem end_sh {fn:Func} {R:Ending→World→Prop} {f:FuncId} [hfk:FK f] {us:List Value} {L1:List Asn} {C:List Asn→Prop} {rs:List ResultVar} {vs:List Value} (F:Fr a n l) (M:Mem w L) (hs:SpecD f us L1 C) {G:List Asn} (hp:Perms L (L1++G))
  (hf:fn.results=rs.toArray) (hr:∀ L',Ress (L'++G) l rs vs) (hR:∀ w' L',C L'→Mem w' (L'++G)→R (.returned (tupOf vs)) w'):bodyPostD Tryz.prog fn R .ret (sh [{target:=.fn (.func f) #[],args:=us.toArray}] a) w:=by
 have e:(sh [({target:=.fn (.func f) #[],args:=us.toArray}:Deferred)] a).defers=[{target:=.fn (.func f) #[],args:=us.toArray}]:=by simp[sh,F.ds]
 show Leaves _ _ _ _ _ _ _
 rw[e]
 refine leaves_cons (f:=f) (args:=us.toArray) (by simp) ?_ ?_
 ·have:=run_callFunc f us.toArray w
  simpa[invoke] using this
 ·refine(hs G .returning w (M.perms hp)).mono ?_
  rintro e u' w' ⟨rfl,v,L',rfl,hC,hM⟩
  exact⟨_,(show(results fn a.tmps).run Tryz.prog w'=_ from (hr L').run F hM hf),hR w' L' hC hM⟩
end
end
section
open Go.RowKit
abbrev ckC (b k:Nat) (e:Int):Asn:=pt b [.int .i64 (k:Int),.int .i64 e] 198
section
variable (b k:Nat) (e:Int) (he:1≤e∧e≤4096) (hk:k≤1000000001) (R:List Asn)
include he in
theorem clk_new:Spec 68 [.int .i64 e] R fun u L'=>∃ b,u=ptr b∧L'=ckC b 0 e::R:=by
 refine zGz zk68 Tryz.func68 ?_;intro G;(repeat'(first|refine zA ?_;repeat intro nb|refine zB ?_ ?_<;>intro hc<;>try exact no hc|refine zH ?_ ?_<;>(intro hg;rw[hg];try exact no hg)));all_goals try refine zO fun a w F M=>?_
 (all_goals(refine zE F M ?_;exact⟨_,_,rfl,⟨nb,rfl,rfl⟩,M.perms permsA⟩))
theorem clk_now:Spec 107 [ptr b] (ckC b k e::R) fun u L'=>u=.int .i64 k∧L'=ckC b k e::R:=by
 refine zGz zk107 Tryz.func107 ?_;intro G;(repeat'(first|refine zA ?_;repeat intro nb|refine zB ?_ ?_<;>intro hc<;>try exact no hc|refine zH ?_ ?_<;>(intro hg;rw[hg];try exact no hg)));all_goals exact zXz
include hk in
theorem clk_next:Spec 169 [ptr b] (ckC b k e::R) fun u L'=>u=.tuple #[]∧L'=ckC b (k+1) e::R:=by
 refine zGz zk169 Tryz.func169 ?_;intro G;(repeat'(first|refine zA ?_;repeat intro nb|refine zB ?_ ?_<;>intro hc<;>try exact no hc|refine zH ?_ ?_<;>(intro hg;rw[hg];try exact no hg)));all_goals try refine zO fun a w F M=>?_
 all_goals refine zE F M ?_
 have e1:(k:Int)+1=((k+1:Nat):Int):=by omega
 rw[e1] at M
 exact⟨_,_,rfl,⟨rfl,rfl⟩,M.perms permsA⟩
theorem clk_block:Spec 42 [ptr b] (ckC b k e::R) fun u L'=>u=.int .i64 k∧L'=ckC b k e::R:=by
 refine zGz zk42 Tryz.func42 ?_;intro G;(repeat'(first|refine zA ?_;repeat intro nb|refine zC ?_;refine kp (k:=107) (clk_now b k e _) ?_|refine zB ?_ ?_<;>intro hc<;>try exact no hc|refine zH ?_ ?_<;>(intro hg;rw[hg];try exact no hg)));all_goals exact zXz
include he hk in
theorem epochOf_spec:Spec 108 [.int .i64 k,.int .i64 e] R fun u L'=>u=.int .i64 ((k:Int) / e)∧L'=R:=by
 have hd0:0≤(k:Int) / e:=Int.ediv_nonneg (by omega) (by omega)
 have hd1:(k:Int) / e≤k:=Int.ediv_le_self _ (by omega)
 have hw:IntKind.i64.wrap ((k:Int) / e)=(k:Int) / e:=IntWalk.i64_in _ ⟨by omega,by omega⟩
 refine zGz zk108 Tryz.func108 ?_;intro G;(repeat'(first|refine zA ?_;repeat intro nb|refine zC ?_;refine kp (k:=107) (clk_now b k e _) ?_|refine zB ?_ ?_<;>intro hc<;>try exact no hc|refine zH ?_ ?_<;>(intro hg;rw[hg];try exact no hg)));all_goals exact zXz
include he hk in
theorem clk_epoch:Spec 43 [ptr b] (ckC b k e::R) fun u L'=>u=.int .i64 ((k:Int) / e)∧L'=ckC b k e::R:=by
 refine zGz zk43 Tryz.func43 ?_;intro G;(repeat'(first|refine zA ?_;repeat intro nb|refine zC ?_;(first|refine kp (k:=107) (clk_now b k e _) ?_|refine kpW (k:=108) (epochOf_spec k e he hk _) ?_)|refine zB ?_ ?_<;>intro hc<;>try exact no hc|refine zH ?_ ?_<;>(intro hg;rw[hg];try exact no hg)));all_goals exact zXz
include he hk in
theorem clk_tick:Spec 122 [ptr b] (ckC b k e::R) fun u L'=>u=.bool (decide (((k+1:Nat):Int) % e=0))∧L'=ckC b (k+1) e::R:=by
 refine zGz zk122 Tryz.func122 ?_;intro G;(repeat'(first|refine zA ?_;repeat intro nb|refine zC ?_;(first|refine kp (k:=107) (clk_now b (k+1) e _) ?_|refine kp (k:=169) (clk_next b k e hk _) ?_)|refine zB ?_ ?_<;>intro hc<;>try exact no hc|refine zH ?_ ?_<;>(intro hg;rw[hg];try exact no hg)));all_goals exact zXz
end
abbrev ldC (b:Nat) (d p u c:Int):Asn:=pt b [.int .u64 d,.int .u64 p,.int .u64 u,.int .u64 c] 194
theorem addR_one {x:Int} (h:U64 x):addR [x]=(x,true):=by
 have:=h.1;have:=h.2
 have e:satGo 0 [x]=(x,false):=by rw[satGo,if_neg (by omega),satGo,Int.zero_add]
 rw[addR,e];rfl
theorem addR_two {x y:Int} (h:U64 x) (k:U64 y):addR [x,y]=if 18446744073709551615<x+y then (0,false) else (x+y,true):=by
 have:=h.1;have:=h.2;have:=k.1;have:=k.2
 by_cases h:18446744073709551615<x+y
 ·have e:satGo 0 [x,y]=(18446744073709551615,true):=by rw[satGo,if_neg (by omega),satGo,if_pos (by omega)]
  rw[addR,e,if_pos h];rfl
 ·have e:satGo 0 [x,y]=(x+y,false):=by rw[satGo,if_neg (by omega),satGo,if_neg (by omega),satGo,Int.zero_add]
  rw[addR,e,if_neg h];rfl
section
variable (b:Nat) (d p u c:Int) (h0:0≤p∧0≤u∧p+u≤d∧d≤18446744073709551615) (R:List Asn)
theorem led_new:Spec 69 [.int .u64 c] R fun v L'=>∃ b,v=ptr b∧L'=ldC b 0 0 0 c::R:=by
 refine zGz zk69 Tryz.func69 ?_;intro G;(repeat'(first|refine zA ?_;repeat intro nb|refine zC ?_;(first|refine kp (k:=107) (clk_now b (k+1) e _) ?_|refine kp (k:=169) (clk_next b k e hk _) ?_)|refine zB ?_ ?_<;>intro hc<;>try exact no hc|refine zH ?_ ?_<;>(intro hg;rw[hg];try exact no hg)));all_goals try refine zO fun a w F M=>?_
 (all_goals(refine zE F M ?_;exact⟨_,_,rfl,⟨nb,rfl,rfl⟩,M.perms permsA⟩))
theorem led_totals:Spec 41 [ptr b] (ldC b d p u c::R) fun v L'=>v=.agg [.int .u64 d,.int .u64 p,.int .u64 u].toArray∧L'=ldC b d p u c::R:=by
 refine zGz zk41 Tryz.func41 ?_;intro G;(repeat'(first|refine zA ?_;repeat intro nb|refine zC ?_;(first|refine kp (k:=107) (clk_now b (k+1) e _) ?_|refine kp (k:=169) (clk_next b k e hk _) ?_)|refine zB ?_ ?_<;>intro hc<;>try exact no hc|refine zH ?_ ?_<;>(intro hg;rw[hg];try exact no hg)));all_goals exact zXz
include h0 in
theorem led_rest:Spec 184 [ptr b] (ldC b d p u c::R) fun v L'=>v=.int .u64 (d - p - u)∧L'=ldC b d p u c::R:=by
 refine zGz zk184 Tryz.func184 ?_;intro G;(repeat'(first|refine zA ?_;repeat intro nb|refine zC ?_;(first|refine kp (k:=107) (clk_now b (k+1) e _) ?_|refine kp (k:=169) (clk_next b k e hk _) ?_)|refine zB ?_ ?_<;>intro hc<;>try exact no hc|refine zH ?_ ?_<;>(intro hg;rw[hg];try exact no hg)));all_goals exact zXz
include h0 in
theorem led_dep (x:Int) (hx:U64 x) (hc:d - p - u≤c∧c≤18446744073709551615):Spec 126 [ptr b,.int .u64 x] (ldC b d p u c::R) fun v L'=>v=.int .i64 (if c<x+(d - p - u) then 4 else if 18446744073709551615<d+x then 10 else 0)∧L'=ldC b (if c<x+(d - p - u) then d else if 18446744073709551615<d+x then d else d+x) p u c::R:=by
 have hd:U64 d:=⟨by omega,by omega⟩
 have:=hx.1;have:=hx.2
 have ha:∀ {L:List Asn} {v:Value},GS L 1 v 2 ([d,x].flatMap u64L)→Reads 185 [v] (.tuple [.int .u64 (addR [d,x]).1,.bool (addR [d,x]).2].toArray) L:=fun hg=>gadd_reads _ [d,x] (by simp;exact⟨hd,hx⟩) hg
 rw[addR_two hd hx] at ha
 by_cases h1:c<x+(d - p - u)
 ·simp only[h1,if_true]
  refine zGz zk126 Tryz.func126 ?_;intro G;(repeat'(first|refine zA ?_;repeat intro nb|refine zC ?_;refine kp (k:=184) (led_rest b d p u c h0 _) ?_|refine zB ?_ ?_<;>intro hc<;>try exact no hc|refine zH ?_ ?_<;>(intro hg;rw[hg];try exact no hg)));all_goals exact zXz
 ·simp only[h1,if_false]
  by_cases h2:18446744073709551615<d+x
  ·simp only[h2,if_true] at ha ⊢
   refine zGz zk126 Tryz.func126 ?_;intro G;(repeat'(first|refine zA ?_;repeat intro nb|refine zC ?_;(first|refine kp (k:=184) (led_rest b d p u c h0 _) ?_|refine acCall (k:=185) ?_;refine Spec.of_reads (ha (gs_own (by(focus ((repeat (first|exact Pull.here|apply Pull.there));done))))) rfl ?_)|refine zB ?_ ?_<;>intro hc<;>try exact no hc|refine zH ?_ ?_<;>(intro hg;rw[hg];try exact no hg)));all_goals exact zXz
  ·simp only[h2,if_false] at ha ⊢
   refine zGz zk126 Tryz.func126 ?_;intro G;(repeat'(first|refine zA ?_;repeat intro nb|refine zC ?_;(first|refine kp (k:=184) (led_rest b d p u c h0 _) ?_|refine acCall (k:=185) ?_;refine Spec.of_reads (ha (gs_own (by(focus ((repeat (first|exact Pull.here|apply Pull.there));done))))) rfl ?_)|refine zB ?_ ?_<;>intro hc<;>try exact no hc|refine zH ?_ ?_<;>(intro hg;rw[hg];try exact no hg)));all_goals exact zXz
include h0 in
theorem led_pay (x:Int) (hx:0≤x∧x≤d - p - u):Spec 183 [ptr b,.int .u64 x] (ldC b d p u c::R) fun v L'=>v=.int .i64 0∧L'=ldC b d (p+x) u c::R:=by
 have hx':U64 x:=⟨by omega,by omega⟩
 have ha:∀ {L:List Asn} {v:Value},GS L 1 v 1 ([x].flatMap u64L)→Reads 185 [v] (.tuple [.int .u64 (addR [x]).1,.bool (addR [x]).2].toArray) L:=fun hg=>gadd_reads _ [x] (by simp;exact hx') hg
 rw[addR_one hx'] at ha
 have hb:∀ (nb:Nat) (R:List Asn),Spec 199 [ptr b,.pointer (some ⟨b,1,none⟩),.slice (some ⟨nb,0,none⟩) 1 1] (ldC b d p u c::own 22 1 (.slice (some ⟨nb,0,none⟩) 1 1) 1 (cellsL [.int .u64 x])::R) fun v L'=>v=.int .i64 0∧L'=ldC b d (p+x) u c::R:=fun nb R=>by
  refine zGz zk199 Tryz.func199 ?_;intro G;(repeat'(first|refine zA ?_;repeat intro nb|refine zC ?_;(first|refine kp (k:=184) (led_rest b d p u c h0 _) ?_|refine acCall (k:=185) ?_;refine Spec.of_reads (ha (gs_own (by(focus ((repeat (first|exact Pull.here|apply Pull.there));done))))) rfl ?_)|refine zB ?_ ?_<;>intro hc<;>try exact no hc|refine zH ?_ ?_<;>(intro hg;rw[hg];try exact no hg)));all_goals exact zXz
 refine zGz zk183 Tryz.func183 ?_;intro G;(repeat'(first|refine zA ?_;repeat intro nb|refine zC ?_;refine kp (k:=199) (hb _ _) ?_|refine zB ?_ ?_<;>intro hc<;>try exact no hc|refine zH ?_ ?_<;>(intro hg;rw[hg];try exact no hg)));all_goals exact zXz
include h0 in
theorem led_burn (x:Int) (hx:0≤x∧x≤d - p - u):Spec 134 [ptr b,.int .u64 x] (ldC b d p u c::R) fun v L'=>v=.int .i64 0∧L'=ldC b d p (u+x) c::R:=by
 have hx':U64 x:=⟨by omega,by omega⟩
 have ha:∀ {L:List Asn} {v:Value},GS L 1 v 1 ([x].flatMap u64L)→Reads 185 [v] (.tuple [.int .u64 (addR [x]).1,.bool (addR [x]).2].toArray) L:=fun hg=>gadd_reads _ [x] (by simp;exact hx') hg
 rw[addR_one hx'] at ha
 have hb:∀ (nb:Nat) (R:List Asn),Spec 199 [ptr b,.pointer (some ⟨b,2,none⟩),.slice (some ⟨nb,0,none⟩) 1 1] (ldC b d p u c::own 22 1 (.slice (some ⟨nb,0,none⟩) 1 1) 1 (cellsL [.int .u64 x])::R) fun v L'=>v=.int .i64 0∧L'=ldC b d p (u+x) c::R:=fun nb R=>by
  refine zGz zk199 Tryz.func199 ?_;intro G;(repeat'(first|refine zA ?_;repeat intro nb|refine zC ?_;(first|refine kp (k:=184) (led_rest b d p u c h0 _) ?_|refine acCall (k:=185) ?_;refine Spec.of_reads (ha (gs_own (by(focus ((repeat (first|exact Pull.here|apply Pull.there));done))))) rfl ?_)|refine zB ?_ ?_<;>intro hc<;>try exact no hc|refine zH ?_ ?_<;>(intro hg;rw[hg];try exact no hg)));all_goals exact zXz
 refine zGz zk134 Tryz.func134 ?_;intro G;(repeat'(first|refine zA ?_;repeat intro nb|refine zC ?_;refine kp (k:=199) (hb _ _) ?_|refine zB ?_ ?_<;>intro hc<;>try exact no hc|refine zH ?_ ?_<;>(intro hg;rw[hg];try exact no hg)));all_goals exact zXz
end
structure MtZ where
 g:Int
 t:Int
 d:Int
 f:Int
abbrev mtP (b:Nat) (z:MtZ):Asn:=pt b [.int .u64 z.g,.int .u64 z.t,.int .u64 z.d,.int .u64 z.f] 217
def MtOk (ca:Int) (z:MtZ):Prop:=IntKind.u64.wrap (IntKind.u64.wrap (z.g - z.t) - z.d)=ca∧U64 z.g∧U64 z.t∧U64 z.d
def mtA (b:Nat) (ca:Int):Asn:=exA fun z:MtZ=>[factA (MtOk ca z),mtP b z]
theorem mt_open {w:World} {L:List Asn} {b:Nat} {ca:Int} (M:Mem w (mtA b ca::L)):∃ z,MtOk ca z∧Mem w (mtP b z::L):=by
 obtain ⟨z,M⟩:=M.exo
 obtain ⟨h,M⟩:=Mem.factO M
 exact⟨z,h,M⟩
theorem mt_close {w:World} {L:List Asn} {b:Nat} {ca:Int} {z:MtZ} (h:MtOk ca z) (M:Mem w (mtP b z::L)):Mem w (mtA b ca::L):=Mem.exc z (Mem.fact h M)
section
variable (b:Nat) (ca:Int) (R:List Asn)
theorem mt_new:Spec 72 [] R fun u L'=>∃ b,u=ptr b∧L'=mtA b 0::R:=by
 refine zGz zk72 Tryz.func72 ?_;intro G;(repeat'(first|refine zA ?_;repeat intro nb|refine zC ?_;refine kp (k:=199) (hb _ _) ?_|refine zB ?_ ?_<;>intro hc<;>try exact no hc|refine zH ?_ ?_<;>(intro hg;rw[hg];try exact no hg)));all_goals try refine zO fun a w F M=>?_
 all_goals refine zE F M ?_
 exact⟨_,_,rfl,⟨nb,rfl,rfl⟩,mt_close (z:=⟨0,0,0,0⟩) ⟨by decide,⟨by decide,by decide⟩,⟨by decide,by decide⟩,⟨by decide,by decide⟩⟩ (M.perms permsA)⟩
theorem mt_bal0 (z:MtZ) (h:MtOk ca z):Spec 117 [ptr b] (mtP b z::R) fun u L'=>u=.int .u64 ca∧L'=mtP b z::R:=by
 obtain ⟨h1,h2,h3,h4⟩:=h
 refine zGz zk117 Tryz.func117 ?_;intro G;(repeat'(first|refine zA ?_;repeat intro nb|refine zC ?_;refine kp (k:=199) (hb _ _) ?_|refine zB ?_ ?_<;>intro hc<;>try exact no hc|refine zH ?_ ?_<;>(intro hg;rw[hg];try exact no hg)));all_goals try refine zO fun a w F M=>?_
 all_goals refine zE F M ?_
 exact⟨_,_,rfl,⟨by rw[← h1];rfl,rfl⟩,M.perms permsA⟩
theorem mt_bal (h0:U64 ca):Spec 51 [ptr b] (mtA b ca::R) fun u L'=>u=.int .u64 ca∧L'=mtA b ca::R:=by
 intro G w M
 obtain ⟨z,h,M2⟩:=mt_open (L:=R++G) M
 clear M;have M:=M2;clear M2
 (refine zGe Tryz.func51 ?_;intro a F;(try simp only[zc,zn] at M))
 (try refine zI zk51 F M ?_;clear F M a;try clear w);(repeat'(first|refine zA ?_;repeat intro nb|refine zC ?_;refine kp (k:=117) (mt_bal0 b ca _ z h) ?_|refine zB ?_ ?_<;>intro hc<;>try exact no hc|refine zH ?_ ?_<;>(intro hg;rw[hg];try exact no hg)));all_goals try refine zO fun a w F M=>?_
 all_goals refine zE F M ?_
 exact⟨_,_,rfl,⟨rfl,rfl⟩,mt_close h (M.perms permsA)⟩
theorem mt_free (z:MtZ) (h:MtOk ca z) (h0:U64 ca):Spec 348 [ptr b] (mtP b z::R) fun u L'=>u=.int .u64 (18446744073709551615 - ca)∧L'=mtP b z::R:=by
 have:=h0.1;have:=h0.2
 refine zGz zk348 Tryz.func348 ?_;intro G;(repeat'(first|refine zA ?_;repeat intro nb|refine zC ?_;refine kp (k:=117) (mt_bal0 b ca _ z h) ?_|refine zB ?_ ?_<;>intro hc<;>try exact no hc|refine zH ?_ ?_<;>(intro hg;rw[hg];try exact no hg)));all_goals exact zXz
theorem mt_grant_ok {ca x:Int} {z:MtZ} (h:MtOk ca z) (h0:0≤x) (h1:ca+x≤18446744073709551615):MtOk (ca+x) ⟨IntKind.u64.wrap (z.g+x),z.t,z.d,z.t⟩:=by
 obtain ⟨h2,h3,h4,h5⟩:=h
 unfold MtOk U64 at *
 simp only[IntKind.wrap_u64] at *
 omega
theorem mt_take_ok {ca x:Int} {z:MtZ} (h:MtOk ca z) (h0:0≤x) (h1:x≤ca):MtOk (ca - x) ⟨z.g,IntKind.u64.wrap (z.t+x),z.d,z.f⟩:=by
 obtain ⟨h2,h3,h4,h5⟩:=h
 unfold MtOk U64 at *
 simp only[IntKind.wrap_u64] at *
 omega
theorem mt_drop_ok {ca:Int} {z:MtZ} (h:MtOk ca z):MtOk 0 ⟨z.g,z.t,IntKind.u64.wrap (z.d+ca),z.f⟩:=by
 obtain ⟨h2,h3,h4,h5⟩:=h
 unfold MtOk U64 at *
 simp only[IntKind.wrap_u64] at *
 omega
theorem u64_wrap_id {x:Int} (h:U64 x):IntKind.u64.wrap x=x:=by rw[IntKind.wrap_u64];have:=h.1;have:=h.2;omega
theorem rt_addW {o:Oper} {n:Nat} {l:List (Nat × Value)} {L:List Asn} {t ty:TypeId} {x y:Operand} (ho:o.op=.binOp .add t x y ty) {m p:Int} (hx:evl l x=some (.int .u64 m)) (hy:evl l y=some (.int .u64 p)):RT o l L n (.int .u64 (IntKind.u64.wrap (m+p))):=rt_arith ho hx hy rfl
theorem mt_grant (x:Int) (h0:U64 ca) (hx:0≤x):Spec 315 [ptr b,.int .u64 x] (mtA b ca::R) fun u L'=>u=.int .u64 (ca+min x (18446744073709551615 - ca))∧L'=mtA b (ca+min x (18446744073709551615 - ca))::R:=by
 intro G w M
 obtain ⟨z,h,M2⟩:=mt_open (L:=R++G) M
 clear M;have M:=M2;clear M2
 have c1:=h0.1;have c2:=h0.2
 obtain ⟨y,hy⟩:∃ y,min x (18446744073709551615 - ca)=y:=⟨_,rfl⟩
 have hmin:(if 18446744073709551615 - ca<x then 18446744073709551615 - ca else x)=y:=by split<;>omega
 have hok:=mt_grant_ok (x:=y) h (by omega) (by omega)
 rw[hy]
 (refine zGe Tryz.func315 ?_;intro a F;(try simp only[zc,zn] at M))
 (try refine zI zk315 F M ?_;clear F M a;try clear w);(repeat'(first|refine zV (h:=⟨_,by((first|(apply rt_min2;(exact rfl);(exact rfl);(exact hmin))|(apply rt_addW;(exact rfl);(exact rfl);(exact rfl)))),?_⟩)|refine zA1 ?_;repeat intro(nb:Nat)|refine zC ?_;(first|refine kp (k:=348) (mt_free b ca _ z h h0) ?_|refine kp (k:=117) (mt_bal0 b (ca+y) _ _ hok) ?_)|refine zB ?_ ?_<;>intro hc<;>try exact no hc|refine zH ?_ ?_<;>(intro hg;rw[hg];try exact no hg)));all_goals try refine zO fun a w F M=>?_
 all_goals refine zE F M ?_
 exact⟨_,_,rfl,⟨rfl,rfl⟩,mt_close hok (M.perms permsA)⟩
theorem gsub_spec (a x:Int) (ha:U64 a) (hx:U64 x):Spec 349 [.int .u64 a,.int .u64 x] R fun u L'=>u=.tuple [.int .u64 (if a<x then 0 else a - x),.bool (!decide (a<x))].toArray∧L'=R:=by
 have:=ha.1;have:=ha.2;have:=hx.1;have:=hx.2
 by_cases h:a<x
 ·refine zGz zk349 Tryz.func349 ?_;intro G;(repeat'(first|refine zA ?_;repeat intro nb|refine zB ?_ ?_<;>intro hc<;>try exact no hc|refine zH ?_ ?_<;>(intro hg;rw[hg];try exact no hg)));all_goals try refine zO fun a w F M=>?_
  (all_goals(refine zE F M ?_;exact⟨_,_,rfl,⟨by simp[h,tupOf],rfl⟩,M.perms permsA⟩))
 ·refine zGz zk349 Tryz.func349 ?_;intro G;(repeat'(first|refine zA ?_;repeat intro nb|refine zB ?_ ?_<;>intro hc<;>try exact no hc|refine zH ?_ ?_<;>(intro hg;rw[hg];try exact no hg)));all_goals try refine zO fun a w F M=>?_
  (all_goals(refine zE F M ?_;exact⟨_,_,rfl,⟨by simp[h,tupOf],rfl⟩,M.perms permsA⟩))
theorem mt_take (x:Int) (h0:U64 ca) (hx:U64 x):Spec 316 [ptr b,.int .u64 x] (mtA b ca::R) fun u L'=>u=.bool (decide (x≤ca))∧L'=mtA b (if x≤ca then ca - x else ca)::R:=by
 intro G w M
 obtain ⟨z,h,M2⟩:=mt_open (L:=R++G) M
 clear M;have M:=M2;clear M2
 have c1:=h0.1;have c2:=h0.2;have c3:=hx.1;have c4:=hx.2
 by_cases hle:x≤ca
 ·have hlt:¬ca<x:=by omega
  have hok:=mt_take_ok (x:=x) h (by omega) (by omega)
  have hs:=fun R=>gsub_spec R ca x h0 hx
  simp only[hlt,decide_false,Bool.not_false,if_false] at hs
  (refine zGe Tryz.func316 ?_;intro a F;(try simp only[zc,zn] at M))
  (try refine zI zk316 F M ?_;clear F M a;try clear w);(repeat'(first|refine zV (h:=⟨_,by((apply rt_addW;(exact rfl);(exact rfl);(exact rfl))),?_⟩)|refine zA1 ?_;repeat intro(nb:Nat)|refine zC ?_;(first|refine kp (k:=117) (mt_bal0 b ca _ z h) ?_|refine kpW (k:=349) (hs _) ?_)|refine zB ?_ ?_<;>intro hc<;>try exact no hc|refine zH ?_ ?_<;>(intro hg;rw[hg];try exact no hg)));all_goals try refine zO fun a w F M=>?_
  all_goals refine zE F M ?_
  exact⟨_,_,rfl,⟨by simp[hle,tupOf],by rw[if_pos hle]⟩,mt_close hok (M.perms permsA)⟩
 ·have hlt:ca<x:=by omega
  have hs:=fun R=>gsub_spec R ca x h0 hx
  simp only[hlt,decide_true,Bool.not_true,if_true] at hs
  (refine zGe Tryz.func316 ?_;intro a F;(try simp only[zc,zn] at M))
  (try refine zI zk316 F M ?_;clear F M a;try clear w);(repeat'(first|refine zV (h:=⟨_,by((apply rt_addW;(exact rfl);(exact rfl);(exact rfl))),?_⟩)|refine zA1 ?_;repeat intro(nb:Nat)|refine zC ?_;(first|refine kp (k:=117) (mt_bal0 b ca _ z h) ?_|refine kpW (k:=349) (hs _) ?_)|refine zB ?_ ?_<;>intro hc<;>try exact no hc|refine zH ?_ ?_<;>(intro hg;rw[hg];try exact no hg)));all_goals try refine zO fun a w F M=>?_
  all_goals refine zE F M ?_
  exact⟨_,_,rfl,⟨by simp[hle,tupOf],by rw[if_neg hle]⟩,mt_close h (M.perms permsA)⟩
theorem mt_drop (h0:U64 ca):Spec 319 [ptr b] (mtA b ca::R) fun u L'=>u=.int .u64 ca∧L'=mtA b 0::R:=by
 intro G w M
 obtain ⟨z,h,M2⟩:=mt_open (L:=R++G) M
 clear M;have M:=M2;clear M2
 have hok:=mt_drop_ok h
 (refine zGe Tryz.func319 ?_;intro a F;(try simp only[zc,zn] at M))
 (try refine zI zk319 F M ?_;clear F M a;try clear w);(repeat'(first|refine zV (h:=⟨_,by((apply rt_addW;(exact rfl);(exact rfl);(exact rfl))),?_⟩)|refine zA1 ?_;repeat intro(nb:Nat)|refine zC ?_;refine kp (k:=117) (mt_bal0 b ca _ z h) ?_|refine zB ?_ ?_<;>intro hc<;>try exact no hc|refine zH ?_ ?_<;>(intro hg;rw[hg];try exact no hg)));all_goals try refine zO fun a w F M=>?_
 all_goals refine zE F M ?_
 exact⟨_,_,rfl,⟨rfl,rfl⟩,mt_close hok (M.perms permsA)⟩
end
end
section
open Go.RowKit Go.Maps
instance:MT 201 3 3:=⟨by kernel_rfl,int_keyed (q:=.i64) (by kernel_rfl)⟩
instance:ZV 3 (.int .i64 0):=⟨by kernel_rfl⟩
theorem intKey {i:Int} (h:I64 i):keyOf Tryz.prog 3 (.int .i64 i)=some (.int .i64 i):=keyOf_int_mk (q:=.i64) (by kernel_rfl) (by
 have:=h.1;have:=h.2;simp[Lit.wf,IntKind.min,IntKind.max,IntKind.signed,IntKind.bits];omega)
theorem live_spec (s:Int) (R:List Asn):Spec 278 [.int .i64 s] R fun u L'=>u=.bool (decide (s=2) || decide (s=3))∧L'=R:=by
 refine zGz zk278 Tryz.func278 ?_;intro G;(repeat'(first|refine zA ?_;repeat intro nb|refine zB ?_ ?_<;>intro hc<;>try exact no hc|refine zH ?_ ?_<;>(intro hg;rw[hg];try exact no hg)));all_goals try refine zO fun a w F M=>?_
 all_goals refine zE F M ?_
 all_goals exact⟨_,_,rfl,⟨by simp_all [tupOf],rfl⟩,M.perms permsA⟩
def cntA (m:Nat):Asn:=exA fun P:List (Value × Value)=>[factA (∀ p∈P,∃ v,p.2=.int .i64 v),mp m 3 P]
theorem cnt_open {w:World} {L:List Asn} {m:Nat} (M:Mem w (cntA m::L)):∃ P:List (Value × Value),(∀ p∈P,∃ v,p.2=.int .i64 v)∧Mem w (mp m 3 P::L):=by
 obtain ⟨P,M⟩:=M.exo
 obtain ⟨h,M⟩:=Mem.factO M
 exact⟨P,h,M⟩
theorem cnt_close {w:World} {L:List Asn} {m:Nat} {P:List (Value × Value)} (h:∀ p∈P,∃ v,p.2=.int .i64 v) (M:Mem w (mp m 3 P::L)):Mem w (cntA m::L):=Mem.exc P (Mem.fact h M)
abbrev rgC (b:Nat) (cap:Int) (h:SlH) (act tot:Int) (m:Nat):Asn:=pt b [.int .i64 cap,sl h,.int .u64 act,.int .u64 tot,.map (some m)] 203
def wr (x:Int):Int:=IntKind.u64.wrap x
def cnX (v:Val) (add:Bool):Int:=if add then v.bal else IntKind.u64.wrap (-v.bal)
def cnT (tot:Int) (v:Val) (add:Bool):Int:=IntKind.u64.wrap (tot+cnX v add)
def cnA (act:Int) (v:Val) (add:Bool):Int:=if v.live then IntKind.u64.wrap (act+cnX v add) else act
theorem count_key (P:List (Value × Value)) (hP:∀ p∈P,∃ v,p.2=.int .i64 v) (s:Int):(∃ n,(Value.int .i64 s,Value.int .i64 n)∈P)∨∀ p∈P,p.1≠.int .i64 s:=by
 by_cases h:∃ p∈P,p.1=.int .i64 s
 ·obtain ⟨⟨k,u⟩,hp,hk⟩:=h
  obtain ⟨v,hv⟩:=hP _ hp
  simp only at hk hv
  subst hk;subst hv
  exact .inl ⟨v,hp⟩
 ·exact .inr fun p hp hk=>h ⟨p,hp,hk⟩
theorem count_vals {P:List (Value × Value)} (hP:∀ p∈P,∃ v,p.2=.int .i64 v) (k n:Int):∀ p∈updP k (.int .i64 n) P,∃ v,p.2=.int .i64 v:=fun p hp=>by
 obtain ⟨q,hq,rfl⟩:=List.mem_map.1 hp
 unfold updF
 split
 ·split
  ·exact⟨n,rfl⟩
  ·exact hP q hq
 ·exact hP q hq
theorem count_new {P:List (Value × Value)} (hP:∀ p∈P,∃ v,p.2=.int .i64 v) (k n:Int):∀ p∈(Value.int .i64 k,Value.int .i64 n)::P,∃ v,p.2=.int .i64 v:=fun p hp=>by
 rcases List.mem_cons.1 hp with rfl|hp
 ·exact⟨n,rfl⟩
 ·exact hP p hp
section
variable (b:Nat) (cap:Int) (h:SlH) (act tot:Int) (m:Nat) (v:Val) (hst:I64 v.st) (R:List Asn)
include hst in
theorem count_spec (add:Bool):Spec 186 [ptr b,valV v,.bool add] (rgC b cap h act tot m::cntA m::R) fun u L'=>u=.tuple #[]∧L'=rgC b cap h (cnA act v add) (cnT tot v add) m::cntA m::R:=by
 intro G w M
 obtain ⟨P,hP,M2⟩:=cnt_open (L:=rgC b cap h act tot m::(R++G)) (M.perms permsA)
 clear M;have M:=M2;clear M2
 have hk:=count_key P hP v.st
 have hlv:v.live=(decide (v.st=2) || decide (v.st=3)):=rfl
 cases hl:v.live
 all_goals cases add
 all_goals rw[hl] at hlv
 all_goals rcases hk with⟨n,hin⟩|hno
 all_goals refine sx_enter (vs:=([ptr b,valV v,.bool _]:List Value)) Tryz.func186 (n:=42) rfl rfl rfl rfl ?_
 all_goals intro a F
 all_goals((try refine zI zk186 F M ?_;clear F M a;try clear w);(repeat'(first|refine zV (h:=⟨_,by((first|(apply rt_hit1;(exact rfl);(exact rfl);(exact rfl);(exact inferInstance);(exact gives_mp pullA);(exact intKey hst);(exact hin))|(apply rt_miss1;(exact rfl);(exact rfl);(exact rfl);(exact inferInstance);(exact gives_mp pullA);(exact intKey hst);(exact hno);(exact inferInstance))|(apply rt_addW;(exact rfl);(exact rfl);(exact rfl))|(apply rt_neg;(exact rfl);(exact rfl);(exact rfl)))),?_⟩)|refine zA1 ?_;repeat intro(nb:Nat)|refine zC ?_;(first|(first|apply ac_mapHit;exact rfl;exact rfl;exact rfl;exact rfl;exact inferInstance;exact intKey hst;(focus ((repeat (first|exact Rep.here|apply Rep.there));done));exact hin|refine ac_mapNew rfl rfl rfl rfl inferInstance (intKey hst) (by(focus ((repeat (first|exact Rep.here|apply Rep.there));done))) hno (List.Perm.refl _) ?_)|refine acW (k:=278) (live_spec v.st _) ?_;rw[← hlv];rintro u L' ⟨rfl,rfl⟩)|refine zB ?_ ?_<;>intro hc<;>try exact no hc|refine zH ?_ ?_<;>(intro hg;rw[hg];try exact no hg)));all_goals try refine zO fun a w F M=>?_)
 all_goals refine zE F M ?_
 all_goals refine⟨_,_,rfl,⟨rfl,rfl⟩,?_⟩
 all_goals simp only[cnA,cnT,cnX,hl,if_true,if_false,Bool.false_eq_true,zc]
 all_goals first
  | exact(cnt_close (count_vals hP _ _) (M.perms permsA)).perms permsA
  | exact(cnt_close (count_new hP _ _) (M.perms permsA)).perms permsA
include hst in
theorem count_specD (add:Bool):SpecD 186 [ptr b,valV v,.bool add] (rgC b cap h act tot m::cntA m::R) fun L'=>L'=rgC b cap h (cnA act v add) (cnT tot v add) m::cntA m::R:=by
 intro G uu w M
 obtain ⟨P,hP,M2⟩:=cnt_open (L:=rgC b cap h act tot m::(R++G)) (M.perms permsA)
 clear M;have M:=M2;clear M2
 have hk:=count_key P hP v.st
 have hlv:v.live=(decide (v.st=2) || decide (v.st=3)):=rfl
 cases hl:v.live
 all_goals cases add
 all_goals rw[hl] at hlv
 all_goals rcases hk with⟨n,hin⟩|hno
 all_goals refine sx_enterC (vs:=([ptr b,valV v,.bool _]:List Value)) Tryz.func186 (n:=42) rfl rfl rfl rfl ?_
 all_goals intro a F
 all_goals((try refine zI zk186 F M ?_;clear F M a;try clear w);(repeat'(first|refine zV (h:=⟨_,by((first|(apply rt_hit1;(exact rfl);(exact rfl);(exact rfl);(exact inferInstance);(exact gives_mp pullA);(exact intKey hst);(exact hin))|(apply rt_miss1;(exact rfl);(exact rfl);(exact rfl);(exact inferInstance);(exact gives_mp pullA);(exact intKey hst);(exact hno);(exact inferInstance))|(apply rt_addW;(exact rfl);(exact rfl);(exact rfl))|(apply rt_neg;(exact rfl);(exact rfl);(exact rfl)))),?_⟩)|refine zA1 ?_;repeat intro(nb:Nat)|refine zC ?_;(first|(first|apply ac_mapHit;exact rfl;exact rfl;exact rfl;exact rfl;exact inferInstance;exact intKey hst;(focus ((repeat (first|exact Rep.here|apply Rep.there));done));exact hin|refine ac_mapNew rfl rfl rfl rfl inferInstance (intKey hst) (by(focus ((repeat (first|exact Rep.here|apply Rep.there));done))) hno (List.Perm.refl _) ?_)|refine acW (k:=278) (live_spec v.st _) ?_;rw[← hlv];rintro u L' ⟨rfl,rfl⟩)|refine zB ?_ ?_<;>intro hc<;>try exact no hc|refine zH ?_ ?_<;>(intro hg;rw[hg];try exact no hg)));all_goals try refine zO fun a w F M=>?_)
 all_goals refine zE F M ?_
 all_goals refine⟨_,_,rfl,rfl,?_⟩
 all_goals simp only[cnA,cnT,cnX,hl,if_true,if_false,Bool.false_eq_true,zc]
 all_goals first
  | exact(cnt_close (count_vals hP _ _) (M.perms permsA)).perms permsA
  | exact(cnt_close (count_new hP _ _) (M.perms permsA)).perms permsA
def regA (b:Nat) (cap:Int) (V:List Val):Asn:=exA fun z:SlH × Nat=>[rgC b cap z.1 (IntKind.u64.wrap (actv V)) (IntKind.u64.wrap (bals V).sum) z.2,cntA z.2,ownT 62 valL 7 (sl z.1) V]
end
section
variable (b:Nat) (cap:Int) (V:List Val) (R:List Asn)
theorem reg_open {w:World} {L:List Asn} {b:Nat} {cap:Int} {V:List Val} (M:Mem w (regA b cap V::L)):∃ h m,Mem w (rgC b cap h (IntKind.u64.wrap (actv V)) (IntKind.u64.wrap (bals V).sum) m::cntA m::ownT 62 valL 7 (sl h) V::L):=by
 obtain ⟨⟨h,m⟩,M⟩:=M.exo
 exact⟨h,m,M⟩
theorem reg_close {w:World} {L:List Asn} {b:Nat} {cap:Int} {V:List Val} {h:SlH} {m:Nat} (M:Mem w (rgC b cap h (IntKind.u64.wrap (actv V)) (IntKind.u64.wrap (bals V).sum) m::cntA m::ownT 62 valL 7 (sl h) V::L)):Mem w (regA b cap V::L):=Mem.exc (f:=fun z:SlH × Nat=>[rgC b cap z.1 (IntKind.u64.wrap (actv V)) (IntKind.u64.wrap (bals V).sum) z.2,cntA z.2,ownT 62 valL 7 (sl z.1) V]) (h,m) M
theorem reg_new (hc:1≤cap∧cap≤4096):Spec 67 [.int .i64 cap] R fun u L'=>∃ b,u=ptr b∧L'=regA b cap []::R:=by
 obtain ⟨h1,h2⟩:=hc
 refine zGz zk67 Tryz.func67 ?_;intro G;(repeat'(first|refine zA ?_;repeat intro nb|refine zC ?_;apply ac_makeMap;exact rfl;exact inferInstance;intro nm|refine zB ?_ ?_<;>intro hc<;>try exact no hc|refine zH ?_ ?_<;>(intro hg;rw[hg];try exact no hg)));all_goals try refine zO fun a w F M=>?_
 all_goals refine zE F M ?_
 refine⟨_,_,rfl,⟨nb,rfl,rfl⟩,?_⟩
 have M:=cnt_close (P:=[]) (by simp) (M.perms (permsA:Perms _ (mp nm 3 []::_)))
 have M:=M.own_nil 62 7
 exact reg_close (h:=nilH) (m:=nm) (M.perms permsA)
theorem reg_len:Spec 119 [ptr b] (regA b cap V::R) fun u L'=>u=.int .i64 V.length∧L'=regA b cap V::R:=by
 (intro G w M;obtain ⟨h,m,M2⟩:=reg_open (L:=R++G) M;clear M;have M:=M2;clear M2)
 (refine zGe Tryz.func119 ?_;intro a F;(try simp only[zc,zn] at M))
 (try refine zI zk119 F M ?_;clear F M a;try clear w);(repeat'(first|refine zA ?_;repeat intro nb|refine zB ?_ ?_<;>intro hc<;>try exact no hc|refine zH ?_ ?_<;>(intro hg;rw[hg];try exact no hg)));all_goals try refine zO fun a w F M=>?_
 all_goals refine zE F M ?_
 exact⟨_,_,rfl,⟨rfl,rfl⟩,reg_close (M.perms permsA)⟩
theorem reg_active (ha:U64 (actv V)):Spec 45 [ptr b] (regA b cap V::R) fun u L'=>u=.int .u64 (actv V)∧L'=regA b cap V::R:=by
 (intro G w M;obtain ⟨h,m,M2⟩:=reg_open (L:=R++G) M;clear M;have M:=M2;clear M2)
 (refine zGe Tryz.func45 ?_;intro a F;(try simp only[zc,zn] at M))
 (try refine zI zk45 F M ?_;clear F M a;try clear w);(repeat'(first|refine zA ?_;repeat intro nb|refine zB ?_ ?_<;>intro hc<;>try exact no hc|refine zH ?_ ?_<;>(intro hg;rw[hg];try exact no hg)));all_goals try refine zO fun a w F M=>?_
 all_goals refine zE F M ?_
 exact⟨_,_,rfl,⟨by rw[u64_wrap_id ha];rfl,rfl⟩,reg_close (M.perms permsA)⟩
theorem reg_len0 (h:SlH) (act tot:Int) (m:Nat):Spec 119 [ptr b] (rgC b cap h act tot m::ownT 62 valL 7 (sl h) V::R) fun u L'=>u=.int .i64 V.length∧L'=rgC b cap h act tot m::ownT 62 valL 7 (sl h) V::R:=by
 refine zGz zk119 Tryz.func119 ?_;intro G;(repeat'(first|refine zA ?_;repeat intro nb|refine zB ?_ ?_<;>intro hc<;>try exact no hc|refine zH ?_ ?_<;>(intro hg;rw[hg];try exact no hg)));all_goals exact zXz
theorem reg_get0 (h:SlH) (act tot:Int) (m:Nat) (i:Nat) (v:Val) (hv:V[i]? = some v) (hl:V.length≤4096):Spec 58 [ptr b,.int .i64 i] (rgC b cap h act tot m::ownT 62 valL 7 (sl h) V::R) fun u L'=>u=.tuple [valV v,.bool true].toArray∧L'=rgC b cap h act tot m::ownT 62 valL 7 (sl h) V::R:=by
 have hi:i<V.length:=(List.getElem?_eq_some_iff.1 hv).1
 refine zGz zk58 Tryz.func58 ?_;intro G;(repeat'(first|refine zA ?_;repeat intro nb|refine zC ?_;refine kp (k:=119) (reg_len0 b cap V _ h act tot m) ?_|refine zB ?_ ?_<;>intro hc<;>try exact no hc|refine zH ?_ ?_<;>(intro hg;rw[hg];try exact no hg)));all_goals exact zXz
theorem reg_get (i:Nat) (v:Val) (hv:V[i]? = some v) (hl:V.length≤4096):Spec 58 [ptr b,.int .i64 i] (regA b cap V::R) fun u L'=>u=.tuple [valV v,.bool true].toArray∧L'=regA b cap V::R:=by
 intro G w M
 obtain ⟨h,m,M2⟩:=reg_open (L:=R++G) M
 refine(reg_get0 b cap V (cntA m::R) h _ _ m i v hv hl G w (M2.perms permsA)).mono ?_
 rintro e w' ⟨u,L',k1,⟨k2,rfl⟩,k3⟩
 exact⟨u,_,k1,⟨k2,rfl⟩,reg_close (k3.perms permsA)⟩
theorem reg_getN (i:Int) (hi:i<0∨(V.length:Int)≤i):Spec 58 [ptr b,.int .i64 i] (regA b cap V::R) fun u L'=>u=.tuple [valV Val.zero,.bool false].toArray∧L'=regA b cap V::R:=by
 rcases hi with hi|hi
 ·refine zGz zk58 Tryz.func58 ?_;intro G;(repeat'(first|refine zA ?_;repeat intro nb|refine zC ?_;refine kp (k:=119) (reg_len b cap V _) ?_|refine zB ?_ ?_<;>intro hc<;>try exact no hc|refine zH ?_ ?_<;>(intro hg;rw[hg];try exact no hg)));all_goals exact zXz
 ·have hi':¬i<0:=by omega
  refine zGz zk58 Tryz.func58 ?_;intro G;(repeat'(first|refine zA ?_;repeat intro nb|refine zC ?_;refine kp (k:=119) (reg_len b cap V _) ?_|refine zB ?_ ?_<;>intro hc<;>try exact no hc|refine zH ?_ ?_<;>(intro hg;rw[hg];try exact no hg)));all_goals exact zXz
end
end
section
open Go.RowKit
section
variable {o:Oper} {n:Nat} {l:List (Nat × Value)} {L:List Asn} {C:Value→List Asn→Prop}
abbrev fromH (h:SlH) (j size:Nat):SlH:=⟨if h.c=j then h.a else h.a.map (·.add (j*size)),h.n - j,h.c - j⟩
theorem own_h {w:World} {L:List Asn} {e:TypeId} {size m:Nat} {h:SlH} {xs:List Value} (M:Mem w (own e size (sl h) m xs::L)):h.n=m∧m≤h.c∧xs.length=m*size∧m≤maxLen:=by
 obtain ⟨s,hs,_⟩:=M.head
 obtain ⟨h1,⟨h2,h3,_⟩|⟨g,cap,cur,h2,_,_,h3,h4,_,_⟩⟩:=hs
 ·obtain ⟨a,n,c⟩:=h
  simp only[sl,Value.slice.injEq] at h2
  obtain ⟨rfl,rfl,rfl⟩:=h2
  exact⟨h3.symm,by omega,h1,by simp[h3]⟩
 ·obtain ⟨a,n,c⟩:=h
  simp only[sl,Value.slice.injEq] at h2
  obtain ⟨rfl,rfl,rfl⟩:=h2
  exact⟨rfl,h3,h1,by omega⟩
theorem rt_from {t:TypeId} {x y:Operand} (ho:o.op=.slice t x (some y) none none) {h:SlH} (hx:evl l x=some (sl h)) {k:IntKind} {j:Nat} (hy:evl l y=some (.int k (j:Int))) {e:TypeId} {z:Value} {size bytes:Nat} (ht:ST t e z size bytes) (h1:j≤h.n):RT o l L n (sl (fromH h j size)):=fun a w F M=>by
 unfold execOp
 rw[ho]
 obtain ⟨hu,_⟩:=ht.k
 have e2:Tryz.prog.elem t=e:=by simp[Program.elem,hu]
 have ht':Tryz.prog.underlying t=some (.slice (Tryz.prog.elem t)):=by rw[e2];exact hu
 have hr:=run_sliceAt_slice (P:=Tryz.prog) w t (sl h) (some (.int k j)) none none ht'
 have hs:=run_slice_l (P:=Tryz.prog) w t h.a h.n h.c ht' k j (by omega) (by omega)
 rw[e2,st_size ht] at hs
 simp only[Result.andThen_ok,sliced,Int.toNat_natCast] at hs
 simp[F.eval hx,F.eval hy,hr,hs,sl]
theorem rt_to {t:TypeId} {x y:Operand} (ho:o.op=.slice t x none (some y) none) {h:SlH} (hx:evl l x=some (sl h)) {k:IntKind} {j:Nat} (hy:evl l y=some (.int k (j:Int))) {e:TypeId} {z:Value} {size bytes:Nat} (ht:ST t e z size bytes) (h1:j≤h.c):RT o l L n (sl ⟨h.a,j,h.c⟩):=fun a w F M=>by
 unfold execOp
 rw[ho]
 obtain ⟨hu,_⟩:=ht.k
 have e2:Tryz.prog.elem t=e:=by simp[Program.elem,hu]
 have ht':Tryz.prog.underlying t=some (.slice (Tryz.prog.elem t)):=by rw[e2];exact hu
 have hr:=run_sliceAt_slice (P:=Tryz.prog) w t (sl h) none (some (.int k j)) none ht'
 have hs:=run_slice_h (P:=Tryz.prog) w t h.a h.n h.c ht' k j (by omega) (by omega)
 rw[e2,st_size ht] at hs
 simp only[Result.andThen_ok,sliced,Int.toNat_natCast] at hs
 have:(if h.c=0 then h.a else h.a.map (·.add (0*size)))=h.a:=by
  split
  ·rfl
  ·cases h.a with
   | none=>rfl
   | some q=>obtain ⟨pb,po,pn⟩:=q;simp[Addr.add]
 rw[this] at hs
 simp[F.eval hx,F.eval hy,hr,hs,sl]
theorem own_cut {w:World} {L:List Asn} {e:TypeId} {size m j:Nat} {h:SlH} {xs:List Value} (M:Mem w (own e size (sl h) m xs::L)) (hj:j≤m):Mem w (own e size (sl ⟨h.a,j,h.c⟩) j (xs.take (j*size))::L):=by
 refine M.imp fun s w' hs=>?_
 obtain ⟨h1,h2⟩:=hs
 have hle:j*size≤m*size:=Nat.mul_le_mul_right _ hj
 refine⟨by rw[List.length_take];omega,?_⟩
 rcases h2 with⟨h2,h3,h4⟩|⟨g,cap,cur,h2,hs,h3,h4,h5,h6,h7⟩
 ·obtain ⟨a,n',c⟩:=h
  simp only[sl,Value.slice.injEq] at h2
  obtain ⟨rfl,rfl,rfl⟩:=h2
  obtain rfl:j=0:=by omega
  exact .inl ⟨rfl,rfl,h4⟩
 ·obtain ⟨a,n',c⟩:=h
  simp only[sl,Value.slice.injEq] at h2
  obtain ⟨rfl,rfl,rfl⟩:=h2
  exact .inr ⟨g,c,cur,rfl,hs,h3,by omega,h5,h6,by rw[← h7,List.take_take,Nat.min_eq_left hle]⟩
theorem zeroCells_len (z:Array Value) (k:Nat):(Builtin.zeroCells z k).toList.length=k*z.size:=by simp[Builtin.zeroCells]
theorem zeroCells_one {z:Array Value} (hz:∀ v∈z.toList,v.oneCell'=true) (k:Nat):∀ v∈(Builtin.zeroCells z k).toList,v.oneCell'=true:=fun v hv=>by
 simp only[Builtin.zeroCells,Array.toList_map,Array.toList_range,List.mem_map,List.mem_range] at hv
 obtain ⟨i,hi,rfl⟩:=hv
 have hp:0<z.size:=by rcases Nat.eq_zero_or_pos z.size with h|h;(· rw[h] at hi;simp at hi);exact h
 have:=Nat.mod_lt i hp
 rw[getElem!_pos z (i % z.size) this]
 exact hz _ (by simp)
theorem ac_clear {x:Operand} {ats:Array TypeId} {t:TypeId} (ho:o.op=.call {callee:=.builtin .clear,args:=#[x],argTypes:=ats}) (hat:ats = #[t]) {e:TypeId} {z:Value} {size bytes:Nat} (ht:ST t e z size bytes) {h:SlH} {j:Nat} (hx:evl l x=some (sl (fromH h j size))) (hz:z.cells.toList.all (·.oneCell')=true)
  {m:Nat} {xs:List Value} {L':List Asn} (hp:Pull L (own e size (sl h) m xs) L') (hj:j≤m) (hc:∀ ys:List Value,ys.take (j*size)=xs.take (j*size)→C (.tuple #[]) (own e size (sl h) m ys::L')):AC o l L n C:=fun G a w F M=>by
 subst hat
 have M1:=M.pull (hp.app G)
 obtain ⟨hn,hm,hlen,_⟩:=own_h M1
 obtain ⟨s,hs,hlt⟩:=M1.head
 obtain ⟨i,hu,hi,hzi,hsz,_,hzs,hpos⟩:=st_info ht
 have hzv:(zeroValue e).run Tryz.prog w=.ok z w:=by simp[zeroValue,typeInfo,hi,hzi]
 have fin:∀ w',(Builtin.clear_ #[t] o.type #[sl (fromH h j size)]).run Tryz.prog w=.ok (.tuple #[]) w'→(∃ ys,ys.take (j*size)=xs.take (j*size)∧Mem w' (own e size (sl h) m ys::(L'++G)))→UponD Tryz.prog (fun v w'=>∃ L'',C v L''∧Mem w' (L''++G)) ((execOp a.eval o).run Tryz.prog w):=by
  intro w' hr ⟨ys,h1,h2⟩
  have:(execOp a.eval o).run Tryz.prog w=.ok (.value (.tuple #[])) w':=by
   unfold execOp
   rw[ho]
   simp[resolve,invoke,builtin,F.eval hx,hr]
  rw[this]
  exact⟨_,hc ys h1,h2⟩
 by_cases hjm:j=m
 ·refine fin w ?_ ⟨xs,rfl,M1⟩
  have:h.n - j=0:=by omega
  cases ha:(if h.c=j then h.a else h.a.map (·.add (j*size)))<;>simp[Builtin.clear_,run_underlying hu,fromH,sl,this,ha]
 ·obtain ⟨a',n',c'⟩:=h
  rcases hs.2 with⟨h2,h3,h4⟩|⟨g,cap,cur,h2,_,h3,h4,h5,h6,h7⟩
  ·omega
  ·simp only[sl,Value.slice.injEq] at h2
   obtain ⟨rfl,rfl,rfl⟩:=h2
   have hcj:¬c'=j:=by simp only at hm;omega
   have hle:j*size+(n' - j)*size=n'*size:=by rw[← Nat.add_mul];congr 1;omega
   have hle2:n'*size≤c'*size:=Nat.mul_le_mul_right _ h4
   have lZ:=zeroCells_len z.cells (n' - j)
   rw[hzs] at lZ
   have oZ:=zeroCells_one (all_one hz) (n' - j)
   simp only at hm hlen hn
   have lc:cur.toList.length=c'*size:=by rw[Array.length_toList];exact h6
   obtain ⟨Z,hZ⟩:∃ Z,(Builtin.zeroCells z.cells (n' - j)).toList=Z:=⟨_,rfl⟩
   rw[hZ] at lZ oZ
   obtain ⟨A,hA⟩:∃ A,j*size=A:=⟨_,rfl⟩
   obtain ⟨B,hB⟩:∃ B,(n' - j)*size=B:=⟨_,rfl⟩
   obtain ⟨N,hN⟩:∃ N,n'*size=N:=⟨_,rfl⟩
   rw[hA,hB,hN] at hle
   rw[hN] at hle2 hlen h7
   rw[hB] at lZ
   obtain ⟨D,hD⟩:∃ D,c'*size=D:=⟨_,rfl⟩
   rw[hD] at hle2 lc
   have hst:=run_storeCells_at (P:=Tryz.prog) g A e Z 0 cur w h3 (by rw[← Array.length_toList];omega) oZ
   simp only[Nat.add_zero] at hst
   rw[hA] at fin
   refine fin (w.setRow g (cur.toList.take A++Z++cur.toList.drop (A+Z.length)).toArray) ?_ ⟨xs.take A++Z,?_,?_⟩
   ·have hsome:((if c'=j then (some ⟨g,0,none⟩:Option Addr) else (some ⟨g,0,none⟩:Option Addr).map (·.add (j*size))))=some ⟨g,A,none⟩:=by
     rw[if_neg hcj];simp[add0,hA]
    obtain ⟨d,hd⟩:∃ d,n' - j=d+1:=⟨n' - j - 1,by omega⟩
    simp only[fromH,sl,hsome]
    rw[hd] at hZ ⊢
    simp[Builtin.clear_,run_underlying hu,hzv,hZ,hst]
   ·rw[List.take_append_of_le_length (by rw[List.length_take];omega),List.take_take,Nat.min_self]
   ·refine M1.change fun s' hs'=>?_
    obtain ⟨_,h8|⟨g2,cap2,cur2,h8,rfl,_⟩⟩:=hs'.now
    ·simp[sl] at h8
    simp only[sl,Value.slice.injEq,Option.some.injEq,Addr.mk.injEq] at h8
    obtain ⟨⟨rfl,_⟩,_⟩:=h8
    refine⟨chg_setRow,[g],ok_own (by rw[hN,List.length_append,List.length_take,lZ];omega) (setRow_heap w g cur _ e _ h3) h4 h5 ?_ ?_,fun x hx=>.inl hx⟩
    ·simp only[List.size_toArray,List.length_append,List.length_take,List.length_drop,lZ,lc,hD]
     omega
    ·rw[hN,List.take_append_of_le_length (by simp only[List.length_append,List.length_take,lZ,lc];omega),List.take_of_length_le (by simp only[List.length_append,List.length_take,lZ,lc];omega),← h7,List.take_take,Nat.min_eq_left (by omega)]
theorem ac_storeEA {α:Type} {f:α→List Value} {t:TypeId} {x y:Operand} (ho:o.op=.store t x y) {v:Value} {j k:Nat} (hx:evl l x=some (.pointer (some ⟨vb v,vo v+j*k,none⟩))) (hkt:KT t (some k)) (y':α) (hy:evl l y=some (.agg (f y').toArray))
  {e:TypeId} {xs:List α} {L2:List Asn} {z:α} (hz:xs[j]? = some z) (he:EL f k) (hp:Rep L (ownT e f k v xs) (ownT e f k v (xs.set j y')) L2) (h:C undef L2):AC o l L n C:=fun G a w F M=>by
 obtain ⟨L',h1,h2⟩:=hp.both
 have hj:j<xs.length:=(List.getElem?_eq_some_iff.1 hz).1
 have hlen:=flat_lenE he xs
 have hjk:j*k+k≤xs.length*k:=by
  have:(j+1)*k≤xs.length*k:=Nat.mul_le_mul_right k hj
  rw[Nat.succ_mul] at this;omega
 have hfl:(f y').length=k:=he.len y'
 have hset:(xs.set j y').flatMap f=(xs.flatMap f).take (j*k)++f y'++(xs.flatMap f).drop (j*k+k):=by
  rw[flat_take he.len,show j*k+k=(j+1)*k by rw[Nat.succ_mul],flat_drop he.len,List.set_eq_take_append_cons_drop,if_pos hj]
  simp
 obtain ⟨s,hs,hlt⟩:=(M.pull (h1.app G)).head
 rcases hs.2 with⟨_,h0,_⟩|⟨g,cap,cur,hv,_,hg,hn,hc,hsz,ht⟩
 ·omega
 ·have hvb:vb v=g∧vo v=0:=by rw[hv];exact⟨rfl,rfl⟩
  rw[hvb.1,hvb.2,Nat.zero_add] at hx
  have hle:xs.length*k≤cap*k:=Nat.mul_le_mul_right k hn
  have h3:=run_storeCells_at (P:=Tryz.prog) g (j*k) e (f y') 0 cur w hg (by omega) (fun u hu=>he.one y' u hu)
  simp only[Nat.add_zero] at h3
  have hcs:(Value.agg (f y').toArray).cells.size=k:=by simp[Value.cells,hfl]
  have:(execOp a.eval o).run Tryz.prog w=.ok .skip (w.setRow g (cur.toList.take (j*k)++f y'++cur.toList.drop (j*k+k)).toArray):=by
   unfold execOp
   rw[ho]
   simp only[F.eval hx,F.eval hy,Instr.storeAt,Instr.sureAddr,storeVar,Sem.run_bind,Sem.run_pure,Result.andThen_ok,(run_isAgg (t:=t) w).2,hcs]
   simp[Value.cells,h3,hfl]
  rw[this]
  refine⟨L2,h,M.rep (hp.app G) fun s' hs'=>?_⟩
  obtain ⟨_,h8|⟨g2,cap2,cur2,h8,rfl,_⟩⟩:=hs'.now
  ·rw[hv] at h8;simp at h8
  rw[hv] at h8
  simp only[Value.slice.injEq,Option.some.injEq,Addr.mk.injEq] at h8
  obtain ⟨⟨rfl,_⟩,_⟩:=h8
  refine⟨chg_setRow,[g],?_,fun x hx=>.inl hx⟩
  rw[hv]
  unfold ownT
  rw[List.length_set]
  refine ok_own (by rw[flat_lenE he,List.length_set]) (setRow_heap w g cur _ e _ hg) hn hc ?_ ?_
  ·simp only[List.size_toArray,List.length_append,List.length_take,List.length_drop,Array.length_toList,hfl]
   omega
  ·rw[hset]
   simp only[List.toList_toArray]
   have e1:(xs.flatMap f).take (j*k)=cur.toList.take (j*k):=by rw[← ht,List.take_take,Nat.min_eq_left (by omega)]
   have e2:(xs.flatMap f).drop (j*k+k)=(cur.toList.drop (j*k+k)).take (xs.length*k - (j*k+k)):=by rw[← ht,List.drop_take]
   rw[e1,e2,List.take_append,List.take_append]
   have l1:(cur.toList.take (j*k)).length=j*k:=by rw[List.length_take,Array.length_toList];omega
   rw[List.take_of_length_le (l:=cur.toList.take (j*k)) (by omega),l1,List.take_of_length_le (l:=f y') (by omega),List.length_append,l1,hfl]
def idxP {α:Type} (p:α→Bool):List α→Nat→Int
 | [],_=>-1
 | x::r,i=>if p x=true then (i:Int) else idxP p r (i+1)
theorem idxP_spec {α:Type} (p:α→Bool):∀ (xs:List α) (k:Nat),(idxP p xs k = -1∧∀ x∈xs,p x=false)∨∃ i x,xs[i]? = some x∧idxP p xs k=((k+i:Nat):Int)∧(∀ y∈xs.take i,p y=false)∧p x=true
 | [],k=>.inl ⟨rfl,by simp⟩
 | x::r,k=>by
  cases hp:p x
  ·rcases idxP_spec p r (k+1) with⟨h1,h2⟩|⟨i,y,h1,h2,h3,h4⟩
   ·exact .inl ⟨by simp[idxP,hp,h1],by simpa[hp] using h2⟩
   ·refine .inr ⟨i+1,y,by simpa using h1,?_,?_,h4⟩
    ·simp only[idxP,hp,Bool.false_eq_true,if_false]
     rw[h2];congr 1;omega
    ·simpa[hp] using h3
  ·exact .inr ⟨0,x,rfl,by simp[idxP,hp],by simp,hp⟩
theorem filter_all {α:Type} (p:α→Bool):∀ (xs:List α),(∀ x∈xs,p x=false)→xs.filter (fun x=>!p x)=xs:=fun xs h=>by
 rw[List.filter_eq_self];intro x hx;simp[h x hx]
end
end
def zkl1:List Nat:=[0,1,2,5,6,7,8,10,18,29,32]
def zkl2:List Nat:=[0,1,3,4,5,7,9,19,32]
section
open Go.RowKit Go.Maps
theorem actv_set {V:List Val} {i:Nat} {old v:Val} (h:V[i]? = some old):actv (V.set i v)=actv V - (if old.live then old.bal else 0)+(if v.live then v.bal else 0):=by
 induction V generalizing i with
 | nil=>simp at h
 | cons x V ih =>
  cases i with
  | zero =>
   simp at h;subst h
   simp only[List.set_cons_zero,actv,List.filter_cons]
   split<;>split<;>simp[bals]<;>omega
  | succ i =>
   have:=ih (i:=i) (by simpa using h)
   simp only[List.set_cons_succ,actv,List.filter_cons] at this ⊢
   split<;>simp only[bals,List.map_cons,List.sum_cons] at this ⊢<;>omega
theorem set_same {V:List Val} {i:Nat} {v:Val} (h:V[i]? = some v):V.set i v=V:=by
 apply List.ext_getElem?
 intro j
 rw[List.getElem?_set]
 by_cases hij:i=j
 ·subst hij
  obtain ⟨h1,h2⟩:=List.getElem?_eq_some_iff.1 h
  simp[h1,h2]
 ·simp[hij]
section
variable (b:Nat) (cap:Int) (V:List Val) (R:List Asn)
theorem reg_set (i:Nat) (old v:Val) (hv:V[i]? = some old) (hl:V.length≤4096) (hst:I64 v.st∧I64 old.st) (ho:0≤old.bal) (hn:0≤v.bal) (hs:old.bal≤(bals V).sum∧(bals V).sum≤18446744073709551615∧(bals V).sum - old.bal+v.bal≤18446744073709551615):Spec 198 [ptr b,.int .i64 i,valV v] (regA b cap V::R) fun u L'=>u=.int .i64 0∧L'=regA b cap (V.set i v)::R:=by
 intro G w M
 obtain ⟨h,m,M2⟩:=reg_open (L:=R++G) M
 clear M;have M:=M2;clear M2
 have hi:i<V.length:=(List.getElem?_eq_some_iff.1 hv).1
 obtain ⟨s1,s2,s3⟩:=hs
 rw[u64_wrap_id ⟨by omega,s2⟩] at M
 by_cases heq:v=old
 ·subst heq
  rw[set_same hv]
  refine sx_enterD (vs:=([ptr b,.int .i64 i,valV v]:List Value)) Tryz.func198 (n:=45) rfl rfl rfl rfl ?_
  intro a F
  (try refine zI zk198 F M ?_;clear F M a;try clear w);(repeat'(first|refine zA ?_;repeat intro nb|refine zC ?_;refine kp (k:=58) (reg_get0 b cap V _ h _ _ m i v hv hl) ?_|refine zB ?_ ?_<;>intro hc<;>try exact no hc|refine zH ?_ ?_<;>(intro hg;rw[hg];try exact no hg)));all_goals try refine zO fun a w F M=>?_
  refine svRetD F M ?_
  rw[← u64_wrap_id (x:=(bals V).sum) ⟨by omega,s2⟩] at M
  exact⟨_,_,rfl,⟨rfl,rfl⟩,reg_close (M.perms permsA)⟩
 ·refine sx_enterD (vs:=([ptr b,.int .i64 i,valV v]:List Value)) Tryz.func198 (n:=45) rfl rfl rfl rfl ?_
  intro a F
  (try refine zI zk198 F M ?_;clear F M a;try clear w);(repeat'(first|refine zV (h:=⟨_,by((apply rt_eqlT (f:=valL) (p:=v) (q:=old);(exact rfl);(exact rfl);(exact rfl);(exact inferInstance);(exact inferInstance))),?_⟩)|refine zA1 ?_;repeat intro(nb:Nat)|refine zC ?_;refine kp (k:=58) (reg_get0 b cap V _ h _ _ m i old hv hl) ?_|refine zB ?_ ?_<;>intro hc<;>try exact no hc|refine zH ?_ ?_<;>(intro hg;rw[hg];try exact no hg)));all_goals try refine zO fun a w F M=>?_
  refine svDefer F ?_
  have hi':V[i]? = some old:=hv
  obtain ⟨d,hd⟩:∃ d:List Deferred,[({target:=.fn (.func 186) #[],args:=[ptr b,valV v,.bool true].toArray}:Deferred)]=d:=⟨_,rfl⟩
  try rw[hd]
  (repeat'(first|(refine zV (h:=⟨_,by((apply rt_eqlT (f:=valL) (p:=v) (q:=old);(exact rfl);(exact rfl);(exact rfl);(exact inferInstance);(exact inferInstance))),?_⟩))|(first|refine sx_nil ?_|refine pv_nil ?_;intro a w F M);try replace F:=F.filt zkl1 rfl|refine zn1 F M ?_;clear F M a;(try clear w);intro a w F M|refine sv2 F M ?_;clear F M a;intro nb a w F M|refine zp1 ?_|refine zp2 ?_;intro nb|((first|refine svC F M ?_|refine svC0 F M ?_|refine pvC ?_|refine pvC0 ?_);((first|((refine acK (k:=186) (count_spec b cap h (IntKind.u64.wrap (actv V)) (bals V).sum m old hst.2 _ false) ?_);rintro u L' ⟨rfl,rfl⟩)|(refine ac_storeEA (f:=valL) (v:=sl h) (j:=i) (k:=7) rfl rfl inferInstance v rfl hv inferInstance (by(focus ((repeat (first|exact Rep.here|apply Rep.there));done))) ?_)));(first|refine⟨rvsA,?_⟩|clear F M a;intro a w F M|clear M;intro w M))|((fail_if_success(with_reducible first|refine isW ?_|refine isP ?_|refine isL ?_));(first|with_reducible refine regL_sh ?_|((with_reducible refine isD ?_);(first|(refine regD_sh (id:=6) [] [] [] [0,1,2,3,4,5,6,7,8,9,10] F M (h:=?_);clear F M a w)|(refine regD_sh (id:=12) [7] [] [] [0,1,2,3,4,5,6,7] F M (h:=?_);clear F M a w)))|go_step))))
  subst hd
  have e1:IntKind.u64.wrap (bals (V.set i v)).sum=cnT (cnT (bals V).sum old false) v true:=by
   rw[bals_set,sum_set _ _ _ _ (bals_get hv)]
   simp only[cnT,cnX,if_true,if_false,Bool.false_eq_true,IntKind.wrap_u64];omega
  have e2:IntKind.u64.wrap (actv (V.set i v))=cnA (cnA (IntKind.u64.wrap (actv V)) old false) v true:=by
   rw[actv_set hv]
   simp only[cnA,cnX,if_true,if_false,Bool.false_eq_true,IntKind.wrap_u64]
   split<;>split<;>omega
  refine end_sh F M (count_specD b cap h (cnA (IntKind.u64.wrap (actv V)) old false) (cnT (bals V).sum old false) m v hst.1 (ownT 62 valL 7 (sl h) (V.set i v)::R) true) (G:=G) permsA rfl (fun L'=>by(repeat (first|exact Ress.nil|(apply Ress.cons)|(apply Res.tmp;exact rfl)))) ?_
  rintro w' L' rfl M'
  exact⟨_,_,rfl,⟨rfl,rfl⟩,reg_close (by rw[e1,e2];exact M'.perms permsA)⟩
theorem actv_app (V:List Val) (v:Val):actv (V++[v])=actv V+(if v.live then v.bal else 0):=by
 simp only[actv,List.filter_append,bals,List.map_append]
 rw[sum_app]
 cases hv:v.live<;>simp[hv]
theorem reg_add (v:Val) (hl:(V.length:Int)<cap) (hc:cap≤4096) (hst:I64 v.st) (hn:0≤v.bal) (hs:0≤(bals V).sum∧(bals V).sum+v.bal≤18446744073709551615):Spec 127 [ptr b,valV v] (regA b cap V::R) fun u L'=>u=.tuple [.int .i64 V.length,.int .i64 0].toArray∧L'=regA b cap (V++[v])::R:=by
 intro G w M
 obtain ⟨h,m,M2⟩:=reg_open (L:=R++G) M
 clear M;have M:=M2;clear M2
 obtain ⟨s1,s2⟩:=hs
 rw[u64_wrap_id (x:=(bals V).sum) ⟨s1,by omega⟩] at M
 have hu1:U64 (bals V).sum:=⟨s1,by omega⟩
 have hu2:U64 v.bal:=⟨hn,by omega⟩
 have ha:∀ {L:List Asn} {x:Value},GS L 1 x 2 ([(bals V).sum,v.bal].flatMap u64L)→Reads 185 [x] (.tuple [.int .u64 (addR [(bals V).sum,v.bal]).1,.bool (addR [(bals V).sum,v.bal]).2].toArray) L:=fun hg=>gadd_reads _ [(bals V).sum,v.bal] (by simp;exact⟨hu1,hu2⟩) hg
 rw[addR_two hu1 hu2,if_neg (by omega)] at ha
 have hlen:¬((V.length:Int)=cap):=by omega
 refine sx_enterD (vs:=([ptr b,valV v]:List Value)) Tryz.func127 (n:=51) rfl rfl rfl rfl ?_
 intro a F
 (try refine zI zk127 F M ?_;clear F M a;try clear w);(repeat'(first|refine zA ?_;repeat intro nb|refine zC ?_;refine acCall (k:=185) ?_;refine Spec.of_reads (ha (gs_own (by(focus ((repeat (first|exact Pull.here|apply Pull.there));done))))) rfl ?_|refine zB ?_ ?_<;>intro hc<;>try exact no hc|refine zH ?_ ?_<;>(intro hg;rw[hg];try exact no hg)));all_goals try refine zO fun a w F M=>?_
 refine svDefer F ?_
 obtain ⟨d,hd⟩:∃ d:List Deferred,[({target:=.fn (.func 186) #[],args:=[ptr b,valV v,.bool true].toArray}:Deferred)]=d:=⟨_,rfl⟩
 try rw[hd]
 (repeat'(first|(first|refine sx_nil ?_|refine pv_nil ?_;intro a w F M);try replace F:=F.filt zkl2 rfl|refine zn1 F M ?_;clear F M a;(try clear w);intro a w F M|refine sv2 F M ?_;clear F M a;intro nb a w F M|refine zp1 ?_|refine zp2 ?_;intro nb|((first|refine svC F M ?_|refine svC0 F M ?_|refine pvC ?_|refine pvC0 ?_);((refine ac_appendH (f:=valL) (v:=sl h) (xs:=V) (ys:=[v]) rfl rfl inferInstance rfl rfl (by(focus ((repeat (first|exact Pull.here|apply Pull.there));done))) inferInstance (gs_own (by(focus ((repeat (first|exact Pull.here|apply Pull.there));done)))) rfl rfl (by simp;omega) ?_;intro v3));(first|refine⟨rvsA,?_⟩|clear F M a;intro a w F M|clear M;intro w M))|((fail_if_success(with_reducible first|refine isW ?_|refine isP ?_|refine isL ?_));(first|with_reducible refine regL_sh ?_|((with_reducible refine isD ?_);(first|(refine regD_sh (id:=3) [] [] [] [0,1,2,3,4,5,6,7,8,9] F M (h:=?_);clear F M a w)|(refine regD_sh (id:=5) [6,7] [] [] [0,1,2,3,4,5,6,7,8,9,10,11,12] F M (h:=?_);clear F M a w)|(refine regD_sh (id:=9) [6,7,10] [] [(6,[0,1,2,3,4]),(7,[0])] [0,1,2,3,4,5,6,7,8,9,10] F M (h:=?_);clear F M a w)))|go_step))))
 subst hd
 have e1:IntKind.u64.wrap (bals (V++[v])).sum=cnT (bals V).sum v true:=by
  simp only[bals,List.map_append,sum_app,cnT,cnX,if_true]
  simp
 have e2:IntKind.u64.wrap (actv (V++[v]))=cnA (IntKind.u64.wrap (actv V)) v true:=by
  rw[actv_app]
  simp only[cnA,cnX,if_true,IntKind.wrap_u64]
  split<;>omega
 have e3:(((V++[v]).length:Nat):Int) - 1=(V.length:Int):=by simp
 rw[e3] at F
 refine end_sh F M (count_specD b cap v3 (IntKind.u64.wrap (actv V)) (bals V).sum m v hst (ownT 62 valL 7 (sl v3) (V++[v])::R) true) (G:=G) permsA rfl (fun L'=>by(repeat (first|exact Ress.nil|(apply Ress.cons)|(apply Res.tmp;exact rfl)))) ?_
 rintro w' L' rfl M'
 exact⟨_,_,rfl,⟨rfl,rfl⟩,reg_close (by rw[e1,e2];exact M'.perms permsA)⟩
end
end
end Go.Proofs.YtjbfcacmdahnhaaGreat
