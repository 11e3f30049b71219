import Derived.Test.YtjbfcacmdahnhaaGreatZrp
set_option linter.unusedVariables false
set_option linter.unusedSimpArgs false
set_option linter.unusedSectionVars false
set_option maxRecDepth 100000
set_option maxHeartbeats 8000000
namespace Go.Proofs.YtjbfcacmdahnhaaGreat
section
open Go.RowKit
def obA (b:Nat) (o:Obj):Asn:=fun s w=>s=[b]∧w.heap[b]? = some o
section
variable {w:World} {L:List Asn}
theorem ok_ob {b:Nat} {o:Obj} (h:w.heap[b]? = some o):Ok (obA b o) [b] w :=
 ⟨fun x hx=>(show x=b by simpa using hx) ▸ (Array.getElem?_eq_some_iff.1 h).1,fun w' hw=>⟨rfl,(hw.2.2.2 b (by simp)).trans h⟩⟩
theorem Mem.ob {b:Nat} {o:Obj} (M:Mem w (obA b o::L)):w.heap[b]? = some o:=by
 obtain ⟨s,hs,_⟩:=M.head
 exact hs.2
theorem Mem.obNew (M:Mem w L) (o:Obj):Mem (w.alloc o) (obA w.heap.size o::L) :=
 M.new ⟨rfl,rfl,rfl,by simp,fun k hk _=>(((Below.refl _ _).alloc (Nat.le_refl _) _).block k hk)⟩ ⟨[w.heap.size],ok_ob (World.alloc_heap_new w o),by simp⟩
theorem Mem.obSet {b:Nat} {o:Obj} (M:Mem w (obA b o::L)) (o':Obj):Mem (w.putObj b o') (obA b o'::L):=M.change fun s hs=>by
 obtain ⟨rfl,h⟩:=hs.now
 exact⟨⟨rfl,rfl,rfl,by simp,fun k hk hb=>World.putObj_heap_other (by simpa using hb)⟩,[b],ok_ob (World.putObj_heap_same (Array.getElem?_eq_some_iff.1 h).1),fun x hx=>.inl hx⟩
end
def FR (ro:Option Nat):Fence:={Fence.wide with round:=ro}
section
variable {ro:Option Nat} {ops:Array Oper} {Q:Exit→Act→World→Prop} {rest:List Oper} {o:Oper} {a:Act} {w:World} {n:Nat} {l:List (Nat × Value)} {L:List Asn} {C:Value→List Asn→Prop}
theorem li_upon {next:Act→World→Prop} {r:Result Next} {Φ:Value→World→Prop} (h:UponD Tryz.prog Φ r) (hn:∀ v w',Φ v w'→next (a.put o.dst v) w'):o.uponIn (FR ro) 0 Tryz.prog a next Q r:=by
 cases r with
 | ok x w =>
  cases x<;>simp only[UponD] at h
  case value u=>exact hn _ _ h
  case skip=>exact hn _ _ h
  case enter f args =>
   refine⟨(fun h=>by cases h),?_⟩
   have hc:CallsIn Fence.wide (0 - 1) Tryz.prog f args w fun e w''=>∃ v,e=.returned v∧Φ v w'':=callsIn_wide.2 h
   refine⟨trivial,fun cs hr=>?_⟩
   obtain ⟨e,w',fr,hR,hx⟩:=hc.2 cs (room_wide _)
   obtain ⟨v,rfl,hv⟩:=hR
   exact⟨_,w',fr,hn v w' hv,hx⟩
 | halt x w=>cases h
theorem li_act (F:Fr a n l) (M:Mem w L) (hw:Wanted o ops l=some true) (hnd:∀ c,o.op≠.defer c) {d:Nat} (hd:o.dst=some d) (hn:Nat.ble (d+1) n=true)
  (h:AC o l L n (fun v L'=>∀ a' w',Fr a' n ((d,v)::l)→Mem w' L'→wpListIn (FR ro) 0 Tryz.prog ops Q rest a' w')):wpListIn (FR ro) 0 Tryz.prog ops Q (o::rest) a w:=by
 unfold wpListIn
 rw[if_pos (F.wanted hw)]
 refine⟨fun _ _=>trivial,?_⟩
 rw[Oper.semAt_eq _ _ _ hnd]
 exact li_upon (h [] a w F (by simpa using M)) fun v w' ⟨L',hC,hM⟩=>by rw[hd];exact hC _ _ (F.put d v hn) (by simpa using hM)
theorem li_act0 (F:Fr a n l) (M:Mem w L) (hw:Wanted o ops l=some true) (hnd:∀ c,o.op≠.defer c) (hd:o.dst=none)
  (h:AC o l L n (fun v L'=>∀ w',Mem w' L'→wpListIn (FR ro) 0 Tryz.prog ops Q rest a w')):wpListIn (FR ro) 0 Tryz.prog ops Q (o::rest) a w:=by
 unfold wpListIn
 rw[if_pos (F.wanted hw)]
 refine⟨fun _ _=>trivial,?_⟩
 rw[Oper.semAt_eq _ _ _ hnd]
 exact li_upon (h [] a w F (by simpa using M)) fun v w' ⟨L',hC,hM⟩=>by rw[hd];exact hC _ (by simpa using hM)
theorem li_nil (h:Q .normal a w):wpListIn (FR ro) 0 Tryz.prog ops Q [] a w:=h
theorem lv1 (F:Fr a n l) (M:Mem w L) {d:Nat} {v:Value} (h:∀ a',Fr a' n ((d,v)::l)→wpListIn (FR ro) 0 Tryz.prog ops Q rest a' w)
  (hw:Wanted o ops l=some true:=by exact rfl) (hd:o.dst=some d:=by exact rfl) (hn:Nat.ble (d+1) n=true:=by exact rfl) (hr:RT o l L n v:=by exact rtA) (hnd:∀ c,o.op≠.defer c:=by(intro c h;cases h)):wpListIn (FR ro) 0 Tryz.prog ops Q (o::rest) a w:=by
 unfold wpListIn
 rw[if_pos (F.wanted hw)]
 refine⟨fun _ _=>trivial,?_⟩
 rw[Oper.semAt_eq _ _ _ hnd,hr a w F M]
 show wpListIn (FR ro) 0 Tryz.prog ops Q rest (a.put o.dst v) w
 rw[hd]
 exact h _ (F.put d v hn)
theorem lv2 (F:Fr a n l) (M:Mem w L) {d:Nat} {fv:Nat→Value} {fL:Nat→List Asn} (h:∀ b a' w',Fr a' n ((d,fv b)::l)→Mem w' (fL b)→wpListIn (FR ro) 0 Tryz.prog ops Q rest a' w')
  (hw:Wanted o ops l=some true:=by exact rfl) (hd:o.dst=some d:=by exact rfl) (hn:Nat.ble (d+1) n=true:=by exact rfl)
  (s:∀ C:Value→List Asn→Prop,(∀ b,C (fv b) (fL b))→AC o l L n C:=by(intro C h;exact acA h)) (hnd:∀ c,o.op≠.defer c:=by(intro c h;cases h)):wpListIn (FR ro) 0 Tryz.prog ops Q (o::rest) a w:=li_act F M hw hnd hd hn (s _ h)
theorem lv3 (F:Fr a n l) (M:Mem w L) {v:Value} {L':List Asn} (h:∀ w',Mem w' L'→wpListIn (FR ro) 0 Tryz.prog ops Q rest a w')
  (hw:Wanted o ops l=some true:=by exact rfl) (hd:o.dst=none:=by exact rfl)
  (s:∀ C:Value→List Asn→Prop,C v L'→AC o l L n C:=by(intro C h;exact acB h)) (hnd:∀ c,o.op≠.defer c:=by(intro c h;cases h)):wpListIn (FR ro) 0 Tryz.prog ops Q (o::rest) a w:=li_act0 F M hw hnd hd (s _ h)
theorem lvC (F:Fr a n l) (M:Mem w L) {d:Nat} (h:AC o l L n (fun v L'=>∀ a' w',Fr a' n ((d,v)::l)→Mem w' L'→wpListIn (FR ro) 0 Tryz.prog ops Q rest a' w')) (hw:Wanted o ops l=some true:=by exact rfl) (hd:o.dst=some d:=by exact rfl) (hn:Nat.ble (d+1) n=true:=by exact rfl) (hnd:∀ c,o.op≠.defer c:=by(intro c h;cases h)):wpListIn (FR ro) 0 Tryz.prog ops Q (o::rest) a w:=li_act F M hw hnd hd hn h
theorem lvK (F:Fr a n l) {d:Nat} (h:∀ a',Fr a' n ((d,undef)::l)→wpListIn (FR ro) 0 Tryz.prog ops Q rest a' w) (hw:Wanted o ops l=some false:=by exact rfl) (hd:o.dst=some d:=by exact rfl) (hn:Nat.ble (d+1) n=true:=by exact rfl):wpListIn (FR ro) 0 Tryz.prog ops Q (o::rest) a w:=by
 unfold wpListIn
 rw[if_neg (by rw[F.wanted hw];decide)]
 refine⟨fun _ _=>trivial,?_⟩
 rw[hd]
 exact h _ (F.put d undef hn)
theorem lvG (F:Fr a n l) {b:Bool} (hg:guardOf o ops l=some (.bool b)) (h1:b=true→wpListIn (FR ro) 0 Tryz.prog ops Q (o::rest) a w) (h2:b=false→wpListIn (FR ro) 0 Tryz.prog ops Q (o::rest) a w):wpListIn (FR ro) 0 Tryz.prog ops Q (o::rest) a w:=by
 cases b
 ·exact h2 rfl
 ·exact h1 rfl
theorem isI (h:wpListIn (FR ro) 0 Tryz.prog ops Q rest a w):wpListIn (FR ro) 0 Tryz.prog ops Q rest a w:=h
theorem reg_in {id:Nat} {os:List Oper} (h:wpListIn (FR ro) 0 Tryz.prog os.toArray Q os a w):(Code.region id os.toArray false).wpIn (FR ro) 0 Tryz.prog Q a w:=wpIn_region_lit h
theorem reg_out {id:Nat} {os:List Oper} (h:wpListIn (FR none) 0 Tryz.prog os.toArray Q os a w):(Code.region id os.toArray false).wp Tryz.prog Q a w:=(wpIn_wide (n:=0)).1 (wpIn_region_lit (F:=Fence.wide) h)
def lpR (fn:FuncId) (tmps:Array Value) (p:Nat) (asg bod:Code) (D:Nat) (st:LoopState):Loop:={state:=st,pending:=none,fn,tmps,params:=#[p],assign:=asg,body:=bod,defers:=D}
def RoundC (lp:Nat) (fn:FuncId) (tmps:Array Value) (p:Nat) (asg bod:Code) (x:Value) (L L2:List Asn):Prop :=
 ∀ G w,Mem w (L++G)→RoundIn Fence.wide 0 Tryz.prog lp fn (tmps.setIfInBounds p x) asg bod w fun e w'=>e=.returned (.bool true)∧Mem w' (L2++G)
theorem lvY (F:Fr a n l) (M:Mem w L) {d:Nat} {fo:Operand} {xs:Array Operand} {ats:Array TypeId} {lp:Nat} {x:Value} {fn:FuncId} {tmps:Array Value} {p:Nat} {asg bod:Code} {D:Nat} {L1 L2 R:List Asn}
  (hR:RoundC lp fn tmps p asg bod x (obA lp (.loop (lpR fn tmps p asg bod D .ready))::L1) L2) (hp:Perms L ((obA lp (.loop (lpR fn tmps p asg bod D .ready))::L1)++R))
  (h:∀ a' w',Fr a' n ((d,.bool true)::l)→Mem w' (L2++R)→wpListIn (FR none) 0 Tryz.prog ops Q rest a' w')
  (ho:o.op=.call {callee:=.value fo,args:=xs,argTypes:=ats}:=by exact rfl) (hf:evl l fo=some (.func (.yield lp) #[] #[]):=by exact rfl) (hx:evls l xs.toList=some [x]:=by exact rfl)
  (hw:Wanted o ops l=some true:=by exact rfl) (hd:o.dst=some d:=by exact rfl) (hn:Nat.ble (d+1) n=true:=by exact rfl):wpListIn (FR none) 0 Tryz.prog ops Q (o::rest) a w:=by
 unfold wpListIn
 rw[if_pos (F.wanted hw)]
 refine⟨fun _ _=>trivial,?_⟩
 rw[Oper.semAt_eq _ _ _ (by rw[ho];intro c h;cases h)]
 have M2:=M.perms hp
 have hl:=Mem.ob (show Mem w (obA lp (.loop (lpR fn tmps p asg bod D .ready))::(L1++R)) from M2)
 have e1:xs.map a.eval=[x].toArray:=by have:=F.evals hx;apply Array.toList_inj.1;simpa using this
 have hy:=run_yield (P:=Tryz.prog) (args:=#[x]) hl rfl
 have hrun:(execOp a.eval o).run Tryz.prog w=.ok (.round lp fn (tmps.setIfInBounds p x) asg bod) w:=by
  unfold execOp
  rw[ho]
  rw[Sem.run_bind]
  simp only[resolve,F.eval hf,Deferred.ofValue,Sem.run_pure,Result.andThen_ok,invoke,e1]
  simpa[lpR] using hy
 rw[hrun,Oper.uponIn_round]
 refine⟨(fun h=>by cases h),?_⟩
 refine RoundIn.mono (hR R w M2) ?_
 rintro e w' ⟨rfl,M3⟩
 rw[hd]
 exact h _ _ (F.put d _ hn) M3
theorem round_mk {lp:Nat} {fn:FuncId} {a0:Act} {p D:Nat} {asg bod:Code} {x:Value} {L1 L2:List Asn} (F0:Fr a0 n l) (hp:Nat.ble (p+1) n=true)
  (h:∀ G a w,Fr a n ((p,x)::l)→Mem w (obA lp (.loop (lpR fn a0.tmps p asg bod D .ready))::(L1++G))→asg.wpIn (FR (some lp)) 0 Tryz.prog (Exit.then (fun a1 w1=>∃ G1,Mem w1 (obA lp (.loop (lpR fn a0.tmps p asg bod D .ready))::G1)∧∀ w2,Mem w2 (obA lp (.loop (lpR fn a0.tmps p asg bod D .busy))::G1) →
   bod.wpIn (FR (some lp)) 0 Tryz.prog (fun e a w=>e=.normal∧Mem w (obA lp (.loop (lpR fn a0.tmps p asg bod D .busy))::(L2++G))) a1 w2) (fun _ _ _=>False)) a w) :
  RoundC lp fn a0.tmps p asg bod x (obA lp (.loop (lpR fn a0.tmps p asg bod D .ready))::L1) (obA lp (.loop (lpR fn a0.tmps p asg bod D .ready))::L2):=fun G w M=>by
 refine roundIn_of_wpIn trivial ?_
 have hF:=F0.put p x hp
 have e:(a0.put (some p) x)={tmps:=a0.tmps.setIfInBounds p x,defers:=[]}:=by
  have:=F0.ds
  obtain ⟨t,ds⟩:=a0
  simp only at this
  subst this;rfl
 rw[e] at hF
 refine wpIn_mono (h G _ w hF M) ?_
 intro e a1 w1 hq
 cases e with
 | normal =>
  obtain ⟨G1,M1,hb⟩:=hq
  refine⟨_,run_beginRound (Mem.ob M1) rfl,?_⟩
  refine wpIn_mono (hb _ (M1.obSet _)) ?_
  rintro e a2 w2 ⟨rfl,M2⟩
  exact⟨_,_,run_endRound none (Mem.ob M2),rfl,M2.obSet _⟩
 | _=>exact hq.elim
theorem rf_range {g:Operand} {p:Nat} {asg bod:Code} {k:FuncId} {caps:Array Value} (F:Fr a n l) (M:Mem w L) (hg:evl l g=some (.func (.func k) #[] caps)) (hfk:FK k) {C:List Asn→Prop}
  (hit:∀ (fn:FuncId) lp D,Spec k (.func (.yield lp) #[] #[]::caps.toList) (obA lp (.loop (lpR fn a.tmps p asg bod D .ready))::L) fun _ L'=>∃ L2,C L2∧L'=obA lp (.loop (lpR fn a.tmps p asg bod D .ready))::L2)
  (h:∀ D w' L2,C L2→Mem w' (obA D (.deferred (some []))::L2)→Q .normal (sh [{target:=.collected D,args:=#[]}] a) w'):(Code.rangeFunc g #[p] asg bod).wp Tryz.prog Q a w:=by
 refine(wpIn_wide (n:=0)).1 (wpIn_rangeFunc (F:=Fence.wide) ?_)
 intro fn _
 have M1:=Mem.back (R:=[]) (show Mem _ (obA w.heap.size (.deferred (some []))::(L++[])) by rw[List.append_nil];exact M.obNew (.deferred (some [])))
 have M2:=M1.obNew (.loop (lpR fn a.tmps p asg bod w.heap.size .ready))
 have hsz:(w.alloc (.deferred (some []))).heap.size=w.heap.size+1:=by simp
 rw[hsz] at M2
 obtain ⟨W1,hW1⟩:∃ W1,(w.alloc (.deferred (some []))).alloc (.loop (lpR fn a.tmps p asg bod w.heap.size .ready))=W1:=⟨_,rfl⟩
 have hent:(Instr.enterLoop fn a.tmps #[p] asg bod Fence.wide.round).run Tryz.prog w=.ok (w.heap.size+1,[{target:=.collected w.heap.size,args:=#[]}]) W1:=by rw[← hW1];exact run_enterLoop_outer _ _ _ _ _
 rw[hW1] at M2
 refine⟨w.heap.size+1,[{target:=.collected w.heap.size,args:=#[]}],W1,{target:=.fn (.func k) caps,args:=#[.func (.yield (w.heap.size+1)) #[] #[]]},W1,k,#[.func (.yield (w.heap.size+1)) #[] #[]]++caps,W1,hent,?_,fun _ _=>trivial,?_,(fun h=>by cases h),?_⟩
 ·simp only[rangeCall,resolve,F.eval hg,Deferred.ofValue]
  simp[Act.eval]
 ·have:=@run_callFunc k hfk (#[.func (.yield (w.heap.size+1)) #[] #[]]++caps) W1
  simpa[invoke] using this
 ·refine callsIn_wide.2 ?_
  have e:(#[.func (.yield (w.heap.size+1)) #[] #[]]++caps:Array Value)=(Value.func (.yield (w.heap.size+1)) #[] #[]::caps.toList).toArray:=by
   apply Array.toList_inj.1;simp
  rw[e]
  refine(hit fn (w.heap.size+1) w.heap.size [obA w.heap.size (.deferred (some []))] W1 M2).mono ?_
  rintro e w3 ⟨v,L',rfl,⟨L2,hC,rfl⟩,M4⟩
  have M4':Mem w3 (obA (w.heap.size+1) (.loop (lpR fn a.tmps p asg bod w.heap.size .ready))::(L2++[obA w.heap.size (.deferred (some []))])):=M4
  refine⟨none,_,run_endLoop (Mem.ob M4') (by simp[lpR]),?_⟩
  have M5:=Mem.front (R:=[]) (M4'.obSet (.loop {lpR fn a.tmps p asg bod w.heap.size .ready with state:=.exhausted})).drop
  rw[List.append_nil] at M5
  have e2:({a with defers:=[{target:=.collected w.heap.size,args:=#[]}]++a.defers}:Act)=sh [{target:=.collected w.heap.size,args:=#[]}] a:=by
   have:=F.ds
   obtain ⟨t,ds⟩:=a
   simp only at this
   subst this;rfl
  show Q .normal {a with defers:=[{target:=.collected w.heap.size,args:=#[]}]++a.defers} _
  rw[e2]
  exact h _ _ L2 hC M5
end
section
variable {ops:Array Oper} {Q:Exit→Act→World→Prop} {D:List Deferred} {a:Act} {w:World} {n:Nat} {l:List (Nat × Value)} {L:List Asn}
theorem svBS {c:Operand} {x y:Code} (F:Fr a n l) {b:Bool} (h1:b=true→x.wp Tryz.prog Q (sh D a) w) (h2:b=false→y.wp Tryz.prog Q (sh D a) w) (hc:evl l c=some (.bool b):=by exact rfl):(Code.cond c x y).wp Tryz.prog Q (sh D a) w :=
 wp_cond_split (show(sh D a).eval c=_ from F.eval hc) h1 h2
theorem svTS {c:Operand} {x y:Code} (F:Fr a n l) {b:Bool} (hb:b=true) (h1:x.wp Tryz.prog Q (sh D a) w) (hc:evl l c=some (.bool b):=by exact rfl):(Code.cond c x y).wp Tryz.prog Q (sh D a) w:=svBS F (fun _=>h1) (fun e=>by rw[hb] at e;cases e) hc
theorem svFS {c:Operand} {x y:Code} (F:Fr a n l) {b:Bool} (hb:b=false) (h1:y.wp Tryz.prog Q (sh D a) w) (hc:evl l c=some (.bool b):=by exact rfl):(Code.cond c x y).wp Tryz.prog Q (sh D a) w:=svBS F (fun e=>by rw[hb] at e;cases e) (fun _=>h1) hc
theorem svLoopS {c:Code} {σ:Type} (F:Fr a n l) (M:Mem w L) (s0:σ) (dl:σ→List (Nat × Value)) (dL:σ→List Asn) (Pf:σ→Prop) (μ:σ→Nat) (fg:List Nat) {st:List (Nat × Value)} {R:List Asn} (hP:Pf s0)
  (round:∀ s,Pf s→∀ a w,Fr a n (dl s++st)→Mem w (dL s++R)→c.wp Tryz.prog (Exit.then (fun a' w'=>∃ s',(∃ a0,a'=sh D a0∧Fr a0 n (dl s'++st)∧Mem w' (dL s'++R)∧Pf s')∧μ s'<μ s) Q) (sh D a) w)
  (hs:restO (fg++slotsL (dl s0)) l=some st:=by exact rfl) (h0:∀ p∈dl s0,look l p.1=some p.2:=by exact kpA) (hR:Pulls L (dL s0) R:=by(first|(focus ((repeat (first|exact Pulls.nil|(apply Pulls.cons;exact pullA)));done))|fail)):(Code.loop c).wp Tryz.prog Q (sh D a) w :=
 wp_loop_ghost (fun s a w=>∃ a0,a=sh D a0∧Fr a0 n (dl s++st)∧Mem w (dL s++R)∧Pf s) μ (fun s a w ⟨a0,h0,h1,h2,h3⟩=>by subst h0;exact round s h3 a0 w h1 h2) s0 ⟨a,rfl,⟨F.ds,F.size,fun t v ht=>by
  rw[look_append] at ht
  have F1:=F.keep h0
  cases hl:look (dl s0) t with
  | some u =>
   rw[hl] at ht
   obtain rfl:=Option.some.inj ht
   exact F1.val t u hl
  | none =>
   rw[hl] at ht
   exact F.val t v (restO_look l _ hs t v ht).2⟩,Mem.pulls hR M,hP⟩
theorem sv_againS {σ:Type} {lf:σ→List (Nat × Value)} {Lf:σ→List Asn} {Pf:σ→Prop} {μ:σ→Nat} {m:Nat} (F:Fr a n l) (M:Mem w L) (s':σ) (h0:∀ p∈lf s',look l p.1=some p.2) (hL:Perms L (Lf s')) (hP:Pf s') (hμ:μ s'<m) :
  ∃ s',(∃ a0,sh D a=sh D a0∧Fr a0 n (lf s')∧Mem w (Lf s')∧Pf s')∧μ s'<m:=⟨s',⟨a,rfl,F.keep h0,M.perms hL,hP⟩,hμ⟩
theorem sx_enterM {f:FuncId} {fn:Func} {c:Code} {vs:List Value} {w:World} {R:Ending→World→Prop} (hf:Tryz.prog.funcs[f]? = some fn) (hb:fn.body=some c) {n k:Nat} (hn:fn.ntmps=n) (hle:Nat.ble vs.length n=true) (hk0:n - vs.length=k)
  (h:∀ a,Fr a n (initL 0 vs)→c.wp Tryz.prog (bodyPostM Fence.wide 0 Tryz.prog fn R) a w):Calls Tryz.prog f vs.toArray w R:=by
 have hk:vs.length+k=n:=by have:=Nat.le_of_ble_eq_true hle;omega
 subst hn
 refine callsIn_wide.1 (callsIn_of_wp_marks (n:=0) hf hb trivial ((wpIn_wide (n:=0)).2 (h _ ?_)))
 have:=Fr.init vs k
 rw[hk] at this
 rw[show fn.ntmps - vs.toArray.size=k by simp;omega]
 exact this
theorem end_col {fn:Func} {R:Ending→World→Prop} {b:Nat} {rs:List ResultVar} {vs:List Value} (F:Fr a n l) (M:Mem w (obA b (.deferred (some []))::L)) (hR:∀ w',Mem w' L→R (.returned (tupOf vs)) w') (hf:fn.results=rs.toArray:=by exact rfl) (hr:Ress (obA b (.deferred none)::L) l rs vs:=by(focus ((repeat (first|exact Ress.nil|(apply Ress.cons)|(apply Res.tmp;exact rfl)|(apply Res.agg;(exact rfl);(exact inferInstance);(exact pullA);(exact rfl))|(apply Res.one;(exact rfl);(exact inferInstance);(exact pullA);(exact rfl))));done))):bodyPostM Fence.wide 0 Tryz.prog fn R .ret (sh [{target:=.collected b,args:=#[]}] a) w:=by
 have e:(sh [({target:=.collected b,args:=#[]}:Deferred)] a).defers=[{target:=.collected b,args:=#[]}]:=by simp[sh,F.ds]
 show LeavesInM _ _ _ _ _ _ _ _ _
 rw[e]
 have M2:=M.obSet (.deferred none)
 exact⟨by simp,.inl ⟨b,_,rfl,run_takeDeferred (Mem.ob M),⟨_,(show(results fn a.tmps).run Tryz.prog _=_ from hr.run F M2 hf),hR _ M2.drop⟩⟩⟩
end
end
def zkl4:List Nat:=[0,1,2,3,4,6,7,8,35]
def zkl5:List Nat:=[0,1,2,6,7,8,12,19,20,21]
section
open Go.RowKit
abbrev bgL (b3 b4 b1:Nat) (sum lim:Int) (first:Bool) (R:List Asn):List Asn:=pt b3 [.int .u64 sum] 22::pt b4 [.bool first] 4::pt b1 [.int .u64 lim] 22::R
abbrev bgV (b3 b4 b1:Nat):Value:=.func (.func 351) #[] #[ptr b3,ptr b4,ptr b1]
theorem budget_spec (lim:Int) (R:List Asn):Spec 322 [.int .u64 lim] R fun u L'=>∃ b3 b4 b1,u=bgV b3 b4 b1∧L'=bgL b3 b4 b1 0 lim true R:=by
 refine zGz zk322 Tryz.func322 ?_;intro G;(repeat'(first|refine zA ?_;repeat intro nb|refine zB ?_ ?_<;>intro hc<;>try exact no hc|refine zH ?_ ?_<;>(intro hg;rw[hg];try exact no hg)));all_goals try refine zO fun a w F M=>?_
 all_goals refine zE F M ?_
 all_goals exact⟨_,_,rfl,⟨_,_,_,rfl,rfl⟩,M.perms permsA⟩
def bgOk (sum lim x:Int) (first:Bool):Bool:=first || !(decide (lim<sum+x) || decide (18446744073709551615<sum+x))
theorem budget1_spec (b3 b4 b1:Nat) (sum lim x:Int) (first:Bool) (hs:U64 sum) (hx:U64 x) (h0:first=true→sum=0) (R:List Asn):Spec 351 [.int .u64 x,.bool true,ptr b3,ptr b4,ptr b1] (bgL b3 b4 b1 sum lim first R) fun u L'=>u=.bool (bgOk sum lim x first)∧L'=bgL b3 b4 b1 (if bgOk sum lim x first=true then sum+x else sum) lim (first && !bgOk sum lim x first) R:=by
 have s1:=hs.1;have s2:=hs.2;have x1:=hx.1;have x2:=hx.2
 have hadd:∀ {L:List Asn} {v:Value},GS L 1 v 2 ([sum,x].flatMap u64L)→Reads 185 [v] (.tuple [.int .u64 (addR [sum,x]).1,.bool (addR [sum,x]).2].toArray) L:=fun hg=>gadd_reads _ [sum,x] (by simp;exact⟨hs,hx⟩) hg
 rw[addR_two hs hx] at hadd
 cases first
 ·by_cases h1:18446744073709551615<sum+x
  ·rw[if_pos h1] at hadd
   have e:bgOk sum lim x false=false:=by simp[bgOk,h1]
   rw[e]
   refine zGz zk351 Tryz.func351 ?_;intro G;(repeat'(first|refine zA ?_;repeat intro nb|refine zC ?_;refine acCall (k:=185) ?_;refine Spec.of_reads (hadd (gs_own pullA)) rfl ?_|refine zB ?_ ?_<;>intro hc<;>try exact no hc|refine zH ?_ ?_<;>(intro hg;rw[hg];try exact no hg)));all_goals exact zXz
  ·rw[if_neg h1] at hadd
   by_cases h2:lim<sum+x
   ·have e:bgOk sum lim x false=false:=by simp[bgOk,h2]
    rw[e]
    refine zGz zk351 Tryz.func351 ?_;intro G;(repeat'(first|refine zA ?_;repeat intro nb|refine zC ?_;refine acCall (k:=185) ?_;refine Spec.of_reads (hadd (gs_own pullA)) rfl ?_|refine zB ?_ ?_<;>intro hc<;>try exact no hc|refine zH ?_ ?_<;>(intro hg;rw[hg];try exact no hg)));all_goals exact zXz
   ·have e:bgOk sum lim x false=true:=by simp[bgOk,h1,h2]
    rw[e]
    refine zGz zk351 Tryz.func351 ?_;intro G;(repeat'(first|refine zA ?_;repeat intro nb|refine zC ?_;refine acCall (k:=185) ?_;refine Spec.of_reads (hadd (gs_own pullA)) rfl ?_|refine zB ?_ ?_<;>intro hc<;>try exact no hc|refine zH ?_ ?_<;>(intro hg;rw[hg];try exact no hg)));all_goals exact zXz
 ·have h3:=h0 rfl
  subst h3
  have e:bgOk 0 lim x true=true:=rfl
  rw[e]
  rw[if_neg (by omega)] at hadd
  refine zGz zk351 Tryz.func351 ?_;intro G;(repeat'(first|refine zA ?_;repeat intro nb|refine zC ?_;refine acCall (k:=185) ?_;refine Spec.of_reads (hadd (gs_own pullA)) rfl ?_|refine zB ?_ ?_<;>intro hc<;>try exact no hc|refine zH ?_ ?_<;>(intro hg;rw[hg];try exact no hg)));all_goals exact zXz
def bgGo (W:List Int) (lim:Int):Int→Bool→List Nat→Nat
 | _,_,[]=>0
 | s,f,i::r=>if bgOk s lim (wAt W i) f=true then bgGo W lim (s+wAt W i) false r+1 else 0
theorem bgGo_false (W:List Int) (lim:Int):∀ (l:List Nat) (s:Int),bgGo W lim s false l=actGo W lim s l
 | [],s=>rfl
 | i::r,s=>by
  rw[bgGo,actGo,bgGo_false W lim r]
  by_cases h:lim<s+wAt W i∨18446744073709551615<s+wAt W i
  ·rw[if_pos h,if_neg]
   simp only[bgOk]
   rcases h with h|h<;>simp[h]
  ·rw[if_neg h,if_pos]
   simp only[bgOk]
   simp only[not_or] at h
   simp[h.1,h.2]
theorem bgGo_true (W:List Int) (lim:Int) (l:List Nat):bgGo W lim 0 true l=actN W lim l:=by
 cases l with
 | nil=>rfl
 | cons i r =>
  have e:bgOk 0 lim (wAt W i) true=true:=rfl
  rw[bgGo,if_pos e,bgGo_false,Int.zero_add];rfl
theorem bgOk_u64 {sum lim x:Int} {first:Bool} (h:bgOk sum lim x first=true) (h0:first=true→sum=0) (hs:U64 sum) (hx:U64 x):U64 (sum+x):=by
 have s1:=hs.1;have x1:=hx.1;have x2:=hx.2
 cases first
 ·simp only[bgOk,Bool.false_or,Bool.not_eq_true',Bool.or_eq_false_iff,decide_eq_false_iff_not] at h
  exact⟨by omega,by omega⟩
 ·rw[h0 rfl];exact⟨by omega,by omega⟩
def outA (b:Nat) (l:List Nat):Asn:=exA fun h:SlH=>[pt b [sl h] 44,ownT 3 natL 1 (sl h) l]
theorem out_open {w:World} {L:List Asn} {b:Nat} {l:List Nat} (M:Mem w (outA b l::L)):∃ h,Mem w (pt b [sl h] 44::ownT 3 natL 1 (sl h) l::L):=by
 obtain ⟨h,M⟩:=M.exo
 exact⟨h,M⟩
theorem out_close {w:World} {L:List Asn} {b:Nat} {l:List Nat} {h:SlH} (M:Mem w (pt b [sl h] 44::ownT 3 natL 1 (sl h) l::L)):Mem w (outA b l::L):=Mem.exc (f:=fun h:SlH=>[pt b [sl h] 44,ownT 3 natL 1 (sl h) l]) h M
section
variable {ops:Array Oper} {Q:Exit→Act→World→Prop} {rest:List Oper} {o:Oper} {a:Act} {w:World} {n:Nat} {l:List (Nat × Value)} {L:List Asn}
theorem lvY1 (F:Fr a n l) (M:Mem w L) {d:Nat} {fo:Operand} {xs:Array Operand} {ats:Array TypeId} {lp:Nat} {x:Value} {fn:FuncId} {tmps:Array Value} {p:Nat} {asg bod:Code} {D:Nat} {A B:Asn} {R:List Asn}
  (hR:RoundC lp fn tmps p asg bod x (obA lp (.loop (lpR fn tmps p asg bod D .ready))::[A]) (obA lp (.loop (lpR fn tmps p asg bod D .ready))::[B]))
  (h:∀ a' w',Fr a' n ((d,.bool true)::l)→Mem w' (obA lp (.loop (lpR fn tmps p asg bod D .ready))::B::R)→wpListIn (FR none) 0 Tryz.prog ops Q rest a' w')
  (hp:Perms L (obA lp (.loop (lpR fn tmps p asg bod D .ready))::A::R):=by exact permsA)
  (ho:o.op=.call {callee:=.value fo,args:=xs,argTypes:=ats}:=by exact rfl) (hf:evl l fo=some (.func (.yield lp) #[] #[]):=by exact rfl) (hx:evls l xs.toList=some [x]:=by exact rfl)
  (hw:Wanted o ops l=some true:=by exact rfl) (hd:o.dst=some d:=by exact rfl) (hn:Nat.ble (d+1) n=true:=by exact rfl):wpListIn (FR none) 0 Tryz.prog ops Q (o::rest) a w :=
 lvY (R:=R) F M hR hp h ho hf hx hw hd hn
end
section
variable (q size bl bq bf bw b7:Nat) (W:List Int) (v:Value) (R:List Asn) (hg:GS R 1 v W.length (W.flatMap u64L)) (hW:∀ x∈W,U64 x) (pe:List Nat) (hpe:pe.length≤4096) (lim:Int) (lp:Nat) (fn:FuncId) (tmps:Array Value) (p D:Nat) (asg bod:Code)
abbrev baL (q size bl bq bf bw:Nat) (v:Value) (pe:List Nat) (lim:Int) (k:Nat) (R:List Asn):List Asn:=pt bl [.int .u64 lim] 22::pt bq [ptr q] 118::pt bf [.int .i64 (k:Int)] 3::pt bw [v] 292::rgnA q size pe::R
include hg hW hpe in
theorem batch1_spec (hrd:∀ (out:List Nat) (i:Nat),out.length≤4096→RoundC lp fn tmps p asg bod (.int .i64 (i:Int)) (obA lp (.loop (lpR fn tmps p asg bod D .ready))::[outA b7 out]) (obA lp (.loop (lpR fn tmps p asg bod D .ready))::[outA b7 (out++[i])])) :
  Spec 321 [.func (.yield lp) #[] #[],ptr bl,ptr bq,ptr bf,ptr bw] (obA lp (.loop (lpR fn tmps p asg bod D .ready))::outA b7 []::baL q size bl bq bf bw v pe lim 0 R) fun u L'=>L'=obA lp (.loop (lpR fn tmps p asg bod D .ready))::outA b7 (pe.take (actN W lim pe))::rgnA q size pe::R:=by
 have hN:=bgGo_true W lim pe
 generalize actN W lim pe=N at *
 refine zGo Tryz.func321 ?_;intro G w M a F
 have hG:GS (R++G) 1 v W.length (W.flatMap u64L):=Gives.app hg
 (try refine zI zk321 F M ?_;clear F M a;try clear w);(repeat'(first|refine zA ?_;repeat intro nb|refine zC ?_;refine acW (k:=322) (budget_spec lim _) ?_;rintro u L' ⟨b3,b4,b1,rfl,rfl⟩|refine zB ?_ ?_<;>intro hc<;>try exact no hc|refine zH ?_ ?_<;>(intro hg;rw[hg];try exact no hg)));all_goals try refine zO fun a w F M=>?_
 refine svLoop F M ((0,0,true):Nat × Int × Bool) (fun s=>[]) (fun s=>outA b7 (pe.take s.1)::pt bf [.int .i64 (s.1:Int)] 3::bgL b3 b4 b1 s.2.1 lim s.2.2 []) (fun s=>s.1≤pe.length∧s.1+bgGo W lim s.2.1 s.2.2 (pe.drop s.1)=N∧U64 s.2.1∧(s.2.2=true→s.2.1=0)) (fun s=>pe.length - s.1) [7,8] ⟨Nat.zero_le _,by simpa using hN,⟨by decide,by decide⟩,fun _=>rfl⟩ ?_ (hR:=by simp only[List.take_zero];(repeat (first|exact Pulls.nil|(apply Pulls.cons;(focus ((repeat (first|exact Pull.here|apply Pull.there));done))))))
 (rintro⟨k,sum,first⟩ ⟨q1,q2,q3,q4⟩ a w F M;(try simp only[zc,zn] at F M q1 q2 q3 q4 ⊢))
 by_cases hk:k<pe.length
 ·obtain ⟨i,hi⟩:∃ i,pe[k]? = some i:=⟨pe[k],by simp[hk]⟩
  rw[drop_cons hi,bgGo] at q2
  have hwu:=wAt_u64 hW i
  have ht:pe.take (k+1)=pe.take k++[i]:=by rw[List.take_add_one,hi];rfl
  have hrd2:=hrd (pe.take k) i (by rw[List.length_take];omega)
  rw[← ht] at hrd2
  have hws:=fun (R:List Asn) hg vi hgi=>weights_spec W v R hg hW [i] vi hgi (by simp)
  rw[show addR ([i].map (wAt W))=(wAt W i,true) from addR_one hwu] at hws
  have hbg:=fun R=>budget1_spec b3 b4 b1 sum lim (wAt W i) first q3 hwu q4 R
  have hpk:=fun R=>rgn_peek q size pe k i hi R
  generalize wAt W i=x at *
  cases hb:bgOk sum lim x first
  ·rw[hb] at hbg q2
   simp only[Bool.false_eq_true,if_false] at hbg q2
   (repeat'(first|(refine li_nil ?_;(try(replace F:=F.filt zkl4 rfl)))|(fail)|(refine lv1 F M (h:=?_);clear F a;intro a F)|(refine lv3 F M (h:=?_);clear M;intro w M)|(refine lv2 F M (h:=?_);clear F M a;intro nb a w F M)|(refine lvC F M (h:=?_);((first|((refine acK (k:=111) (hpk _) ?_);rintro u L' ⟨rfl,rfl⟩)|(refine acW (k:=189) (hws _ ?_ _ ?_) ?_;(exact gsA);(exact gs_own pullA);rintro u L' ⟨rfl,rfl⟩)|((refine acK (k:=351) (hbg _) ?_);rintro u L' ⟨rfl,rfl⟩)));(clear F M a;intro a w F M))|(refine lvK F (h:=?_);clear F a;intro a F)|((refine lvG F rfl (fun hg=>?_) (fun hg=>?_))<;>(rw[hg] at F;(try(exact no hg))))|((fail_if_success(with_reducible first|refine isI ?_|refine isL ?_));(first|with_reducible refine reg_out ?_|((with_reducible refine isK ?_);(first|refine svT F (h:=?_)|refine svF F (h:=?_)|((refine svB F (fun hc=>?_) (fun hc=>?_))<;>(try(exact no hc)))))|go_step))))
   all_goals refine zE F M ?_
   obtain rfl:N=k:=by omega
   exact⟨_,_,rfl,rfl,M.perms permsA⟩
  ·have hsx:=bgOk_u64 hb q4 q3 hwu
   rw[hb] at hbg q2
   simp only[if_true,Bool.not_true,Bool.and_false] at hbg q2
   (repeat'(first|(refine li_nil ?_;(try(replace F:=F.filt zkl4 rfl)))|(((refine lvY1 F M hrd2 ?_);clear F M a;intro a w F M))|(refine lv1 F M (h:=?_);clear F a;intro a F)|(refine lv3 F M (h:=?_);clear M;intro w M)|(refine lv2 F M (h:=?_);clear F M a;intro nb a w F M)|(refine lvC F M (h:=?_);((first|((refine acK (k:=111) (hpk _) ?_);rintro u L' ⟨rfl,rfl⟩)|(refine acW (k:=189) (hws _ ?_ _ ?_) ?_;(exact gsA);(exact gs_own pullA);rintro u L' ⟨rfl,rfl⟩)|((refine acK (k:=351) (hbg _) ?_);rintro u L' ⟨rfl,rfl⟩)));(clear F M a;intro a w F M))|(refine lvK F (h:=?_);clear F a;intro a F)|((refine lvG F rfl (fun hg=>?_) (fun hg=>?_))<;>(rw[hg] at F;(try(exact no hg))))|((fail_if_success(with_reducible first|refine isI ?_|refine isL ?_));(first|with_reducible refine reg_out ?_|((with_reducible refine isK ?_);(first|refine svT F (h:=?_)|refine svF F (h:=?_)|((refine svB F (fun hc=>?_) (fun hc=>?_))<;>(try(exact no hc)))))|go_step))))
   refine sv_again F M (k+1,sum+x,false) kpA permsA ⟨by simp only;omega,by simp only;omega,hsx,by simp⟩ (by simp only;omega)
 ·obtain rfl:k=pe.length:=by omega
  rw[List.drop_length,bgGo] at q2
  obtain rfl:N=pe.length:=by omega
  have hpk:=fun R=>rgn_peek0 q size pe pe.length (Nat.le_refl _) (by omega) R
  (repeat'(first|(refine li_nil ?_;(try(replace F:=F.filt zkl4 rfl)))|(fail)|(refine lv1 F M (h:=?_);clear F a;intro a F)|(refine lv3 F M (h:=?_);clear M;intro w M)|(refine lv2 F M (h:=?_);clear F M a;intro nb a w F M)|(refine lvC F M (h:=?_);(((refine acK (k:=111) (hpk _) ?_);rintro u L' ⟨rfl,rfl⟩));(clear F M a;intro a w F M))|(refine lvK F (h:=?_);clear F a;intro a F)|((refine lvG F rfl (fun hg=>?_) (fun hg=>?_))<;>(rw[hg] at F;(try(exact no hg))))|((fail_if_success(with_reducible first|refine isI ?_|refine isL ?_));(first|with_reducible refine reg_out ?_|((with_reducible refine isK ?_);(first|refine svT F (h:=?_)|refine svF F (h:=?_)|((refine svB F (fun hc=>?_) (fun hc=>?_))<;>(try(exact no hc)))))|go_step))))
  all_goals refine zE F M ?_
  exact⟨_,_,rfl,rfl,M.perms permsA⟩
end
section
variable (q size:Nat) (W:List Int) (hv:SlH) (R:List Asn) (hg:GS R 1 (sl hv) W.length (W.flatMap u64L)) (hW:∀ x∈W,U64 x) (pe:List Nat) (hpe:pe.length≤4096) (lim:Int)
theorem batch_spec (L:List Asn):Spec 267 [ptr q,.int .i64 0,.int .u64 lim,sl hv] L fun u L'=>∃ bl bq bf bw,u=.func (.func 321) #[] #[ptr bl,ptr bq,ptr bf,ptr bw]∧L'=pt bl [.int .u64 lim] 22::pt bq [ptr q] 118::pt bf [.int .i64 0] 3::pt bw [sl hv] 292::L:=by
 refine zGz zk267 Tryz.func267 ?_;intro G;(repeat'(first|refine zA ?_;repeat intro nb|refine zB ?_ ?_<;>intro hc<;>try exact no hc|refine zH ?_ ?_<;>(intro hg;rw[hg];try exact no hg)));all_goals try refine zO fun a w F M=>?_
 all_goals refine zE F M ?_
 all_goals exact⟨_,_,rfl,⟨_,_,_,_,rfl,rfl⟩,M.perms permsA⟩
include hg hW hpe in
theorem act_spec:Spec 174 [ptr q,.int .u64 lim,sl hv] (rgnA q size pe::R) fun u L'=>∃ h,u=sl h∧L'=ownT 3 natL 1 (sl h) (pe.take (actN W lim pe))::rgnA q size (pe.drop (actN W lim pe))::R:=by
 have hNl:=actN_le W lim pe
 intro G w M
 refine sx_enterM (vs:=([ptr q,.int .u64 lim,sl hv]:List Value)) Tryz.func174 (n:=26) rfl rfl rfl rfl ?_
 intro a F
 (try simp only[zc,zn] at M)
 have hG:GS (R++G) 1 (sl hv) W.length (W.flatMap u64L):=Gives.app hg
 (try refine zI zk174 F M ?_;clear F M a;try clear w);(repeat'(first|refine zA ?_;repeat intro nb|refine zC ?_;refine acW (k:=267) (batch_spec q hv lim _) ?_;rintro u L' ⟨bl,bq,bf,bw,rfl,rfl⟩|refine zB ?_ ?_<;>intro hc<;>try exact no hc|refine zH ?_ ?_<;>(intro hg;rw[hg];try exact no hg)));all_goals try refine zO fun a w F M=>?_
 have M0:=M.own_nil 3 1
 have M1:Mem w (outA nb []::baL q size bl bq bf bw (sl hv) pe lim 0 (R++G)):=out_close (h:=nilH) (M0.perms permsA)
 clear M M0
 refine rf_range F M1 (g:=.tmp 12) rfl inferInstance (C:=fun L2=>L2=outA nb (pe.take (actN W lim pe))::rgnA q size pe::(R++G)) (fun fn lp D=>?_) (fun D w' L2 hC M2=>?_)
 ·refine Spec.mono (batch1_spec q size bl bq bf bw nb W (sl hv) (R++G) hG hW pe hpe lim lp fn a.tmps 13 D _ _ (fun out i ho=>?_)) ?_
  ·refine round_mk F rfl fun G2 a w F M=>?_
   refine reg_in ?_
   (repeat'(first|(refine li_nil ?_;(try(replace F:=F.filt zkl5 rfl)))|(refine lv1 F M (h:=?_);clear F a;intro a F)|(refine lv3 F M (h:=?_);clear M;intro w M)|(refine lv2 F M (h:=?_);clear F M a;intro nb a w F M)|(refine lvC F M (h:=?_);(((refine acK (k:=111) (hpk _) ?_);rintro u L' ⟨rfl,rfl⟩));(clear F M a;intro a w F M))|(refine lvK F (h:=?_);clear F a;intro a F)|((refine lvG F rfl (fun hg=>?_) (fun hg=>?_))<;>(rw[hg] at F;(try(exact no hg))))))
   refine⟨outA nb out::G2,by simpa using M,fun w M=>?_⟩
   refine wpIn_block (reg_in ?_)
   obtain ⟨h,M2⟩:=out_open M.swap
   clear M;have M:=M2;clear M2
   (repeat'(first|(refine li_nil ?_;(try(replace F:=F.filt zkl5 rfl)))|(refine lv1 F M (h:=?_);clear F a;intro a F)|(refine lv3 F M (h:=?_);clear M;intro w M)|(refine lv2 F M (h:=?_);clear F M a;intro nb a w F M)|(refine lvC F M (h:=?_);((refine ac_appendH (f:=natL) (xs:=out) (ys:=[i]) rfl rfl inferInstance rfl rfl pullA inferInstance gsA rfl rfl (by simp;omega) ?_;intro nv));(clear F M a;intro a w F M))|(refine lvK F (h:=?_);clear F a;intro a F)|((refine lvG F rfl (fun hg=>?_) (fun hg=>?_))<;>(rw[hg] at F;(try(exact no hg))))))
   exact⟨rfl,(out_close (h:=nv) (M.perms permsA)).perms permsA⟩
  ·rintro u L' rfl
   exact⟨_,rfl,rfl⟩
 ·subst hC
  clear M1
  obtain ⟨h,M3⟩:=out_open (M2.perms (permsA:Perms _ (outA nb (pe.take (actN W lim pe))::obA D (.deferred (some []))::rgnA q size pe::(R++G))))
  clear M2;have M:=M3;clear M3
  obtain ⟨N,hN⟩:∃ N,actN W lim pe=N:=⟨_,rfl⟩
  rw[hN] at M hNl
  have htl:(pe.take N).length=N:=by rw[List.length_take];omega
  (repeat'(first|(first|refine sx_nil ?_|refine pv_nil ?_;intro a w F M);try replace F:=F.filt zkl5 rfl|refine zn1 F M ?_;clear F M a;(try clear w);intro a w F M|refine sv2 F M ?_;clear F M a;intro nb a w F M|refine zp1 ?_|refine zp2 ?_;intro nb|((first|refine svC F M ?_|refine svC0 F M ?_|refine pvC ?_|refine pvC0 ?_);(fail);(first|refine⟨rvsA,?_⟩|clear F M a;intro a w F M|clear M;intro w M))|((fail_if_success(with_reducible first|refine isW ?_|refine isP ?_|refine isL ?_));(first|with_reducible refine regL_sh ?_|((with_reducible refine isD ?_);fail)|go_step))))
  rw[htl] at F
  refine svLoopS F M (0:Nat) (fun k=>[(20,.int .i64 k)]) (fun k=>[rgnA q size (pe.drop k)]) (fun k=>k≤N) (fun k=>N - k) [] (Nat.zero_le _) ?_ (hR:=by simp only[List.drop_zero];(repeat (first|exact Pulls.nil|(apply Pulls.cons;(focus ((repeat (first|exact Pull.here|apply Pull.there));done))))))
  (rintro k q1 a w F M;(try simp only[zc,zn] at F M q1 ⊢))
  by_cases hk:k<N
  ·obtain ⟨x,hx⟩:∃ x,pe[k]? = some x:=⟨pe[k]'(by omega),by rw[List.getElem?_eq_getElem]⟩
   rw[drop_cons hx] at M
   have dk:decide ((k:Int)<(N:Int))=true:=by simpa using hk
   (repeat'(first|(first|refine sx_nil ?_|refine pv_nil ?_;intro a w F M);try replace F:=F.filt zkl5 rfl|refine zn1 F M ?_;clear F M a;(try clear w);intro a w F M|refine sv2 F M ?_;clear F M a;intro nb a w F M|refine zp1 ?_|refine zp2 ?_;intro nb|((first|refine svC F M ?_|refine svC0 F M ?_|refine pvC ?_|refine pvC0 ?_);(((refine acK (k:=268) (rgn_pop q size x (pe.drop (k+1)) _) ?_);rintro u L' ⟨rfl,rfl⟩));(first|refine⟨rvsA,?_⟩|clear F M a;intro a w F M|clear M;intro w M))|((fail_if_success(with_reducible first|refine isW ?_|refine isP ?_|refine isL ?_));(first|with_reducible refine regL_sh ?_|((with_reducible refine isD ?_);fail)|go_step))))
   refine svTS F dk ?_
   (repeat'(first|(first|refine sx_nil ?_|refine pv_nil ?_;intro a w F M);try replace F:=F.filt zkl5 rfl|refine zn1 F M ?_;clear F M a;(try clear w);intro a w F M|refine sv2 F M ?_;clear F M a;intro nb a w F M|refine zp1 ?_|refine zp2 ?_;intro nb|((first|refine svC F M ?_|refine svC0 F M ?_|refine pvC ?_|refine pvC0 ?_);(((refine acK (k:=268) (rgn_pop q size x (pe.drop (k+1)) _) ?_);rintro u L' ⟨rfl,rfl⟩));(first|refine⟨rvsA,?_⟩|clear F M a;intro a w F M|clear M;intro w M))|((fail_if_success(with_reducible first|refine isW ?_|refine isP ?_|refine isL ?_));(first|with_reducible refine regL_sh ?_|((with_reducible refine isD ?_);fail)|go_step))))
   exact sv_againS F M (k+1) kpA permsA (by omega) (by omega)
  ·obtain rfl:k=N:=by omega
   have dk:decide ((k:Int)<(k:Int))=false:=by simp
   (repeat'(first|(first|refine sx_nil ?_|refine pv_nil ?_;intro a w F M);try replace F:=F.filt zkl5 rfl|refine zn1 F M ?_;clear F M a;(try clear w);intro a w F M|refine sv2 F M ?_;clear F M a;intro nb a w F M|refine zp1 ?_|refine zp2 ?_;intro nb|((first|refine svC F M ?_|refine svC0 F M ?_|refine pvC ?_|refine pvC0 ?_);(fail);(first|refine⟨rvsA,?_⟩|clear F M a;intro a w F M|clear M;intro w M))|((fail_if_success(with_reducible first|refine isW ?_|refine isP ?_|refine isL ?_));(first|with_reducible refine regL_sh ?_|((with_reducible refine isD ?_);fail)|go_step))))
   refine svFS F dk ?_
   (repeat'(first|(first|refine sx_nil ?_|refine pv_nil ?_;intro a w F M);try replace F:=F.filt zkl5 rfl|refine zn1 F M ?_;clear F M a;(try clear w);intro a w F M|refine sv2 F M ?_;clear F M a;intro nb a w F M|refine zp1 ?_|refine zp2 ?_;intro nb|((first|refine svC F M ?_|refine svC0 F M ?_|refine pvC ?_|refine pvC0 ?_);(fail);(first|refine⟨rvsA,?_⟩|clear F M a;intro a w F M|clear M;intro w M))|((fail_if_success(with_reducible first|refine isW ?_|refine isP ?_|refine isL ?_));(first|with_reducible refine regL_sh ?_|((with_reducible refine isD ?_);fail)|go_step))))
   refine end_col F (M.perms (permsA:Perms _ (obA D (.deferred (some []))::ownT 3 natL 1 (sl h) (pe.take k)::rgnA q size (pe.drop k)::(R++G)))) ?_
   intro w' M2
   rw[← hN] at M2
   exact⟨_,_,rfl,⟨h,rfl,rfl⟩,M2⟩
end
end
section
open Go.RowKit
section
variable (b:Nat) (H:EH) (c:Cfg) (s:St) (hc:CfOk c) (hi:Inv c s) (R:List Asn)
include hc hi
theorem merge_u64:∀ x∈s.V,U64 x.bal:=fun x hx=>by
 obtain ⟨k1,k2,_⟩:=inv_sum c s hc hi
 have hm:x.bal∈bals s.V:=List.mem_map.2 ⟨x,hx,rfl⟩
 have:=sum_mem_le _ hi.bal0 _ hm
 exact⟨hi.bal0 _ hm,by omega⟩
theorem cons_spec (o:Opn):Spec 84 [ptr b,opV o] (engL b H c s R) fun u L'=>u=rsV (opMerge c s o.ix o.tg)∧L'=engL b H c (opMerge c s o.ix o.tg).s R:=by
 obtain ⟨k1,k2,k3,k4,k5,k6⟩:=inv_sum c s hc hi
 have hl3:s.V.length≤4096:=by omega
 have hsz:qS c≤4096:=k6
 obtain ⟨l1,l2,l3,l4,l5⟩:=hi.ql
 have hU:=merge_u64 c s hc hi
 obtain ⟨ok,i,j,x⟩:=o
 have hrq:=fun (R:List Asn) (h:SlH) hg=>mreq_spec s.V (sl h) c R hg (by omega) hU i j
 unfold opMerge
 have hz:=fun (h:merR c s.V i j=0)=>merR_zero h
 obtain ⟨X,hX⟩:∃ X,merR c s.V i j=X:=⟨_,rfl⟩
 simp only[hX] at hrq hz ⊢
 by_cases h0:X=0
 ·obtain ⟨y,z,i0,j0,hne,hy,hz2,_⟩:=hz h0
  subst h0
  simp only[ne_eq,not_true_eq_false,if_false]
  obtain ⟨n,rfl⟩:∃ n:Nat,i=n:=⟨i.toNat,by omega⟩
  obtain ⟨m,rfl⟩:∃ m:Nat,j=m:=⟨j.toNat,by omega⟩
  simp only[Int.toNat_natCast]
  by_cases hq:c.queueSize≤s.me.length
  ·rw[if_pos hq]
   have hqq:s.me.length=qS c:=by omega
   refine zGz zk84 Tryz.func84 ?_;intro G;(repeat'(first|refine zA ?_;repeat intro nb|refine zC ?_;(first|refine acK (k:=44) (reg_all H.rg c.capacity s.V hl3 _) ?_;rintro u L' ⟨hv,rfl,rfl⟩|refine acW (k:=137) (hrq _ hv ?_) ?_;exact gs_own pullA;rintro u L' ⟨rfl,rfl⟩|refine kpW (k:=86) (efail_spec _ _) ?_|refine kpW (k:=129) (edone_spec _ _ _) ?_|refine acCall (k:=138) ?_;refine Spec.pre (L':=rgpA H.me (qS c) s.me::_) ?_ permsA;refine Spec.mono (rgp_pushF H.me (qS c) s.me (n,m) ⟨some ⟨nb,0,none⟩,1,1⟩ _ (by(apply gs_own;(focus ((repeat (first|exact Pull.here|apply Pull.there));done)))) ⟨rfl,Nat.le_refl 1⟩ hqq hsz) ?_;rintro u L' ⟨rfl,rfl⟩)|refine zB ?_ ?_<;>intro hc<;>try exact no hc|refine zH ?_ ?_<;>(intro hg;rw[hg];try exact no hg)));all_goals exact zXz
  ·rw[if_neg hq]
   have hqq:s.me.length<qS c:=by omega
   refine zGz zk84 Tryz.func84 ?_;intro G;(repeat'(first|refine zA ?_;repeat intro nb|refine zC ?_;(first|refine acK (k:=44) (reg_all H.rg c.capacity s.V hl3 _) ?_;rintro u L' ⟨hv,rfl,rfl⟩|refine acW (k:=137) (hrq _ hv ?_) ?_;exact gs_own pullA;rintro u L' ⟨rfl,rfl⟩|refine kpW (k:=86) (efail_spec _ _) ?_|refine kpW (k:=129) (edone_spec _ _ _) ?_|refine acCall (k:=138) ?_;refine Spec.pre (L':=rgpA H.me (qS c) s.me::_) ?_ permsA;refine Spec.mono (rgp_push H.me (qS c) s.me (n,m) ⟨some ⟨nb,0,none⟩,1,1⟩ _ (by(apply gs_own;(focus ((repeat (first|exact Pull.here|apply Pull.there));done)))) ⟨rfl,Nat.le_refl 1⟩ hqq hsz) ?_;rintro u L' ⟨rfl,rfl⟩)|refine zB ?_ ?_<;>intro hc<;>try exact no hc|refine zH ?_ ?_<;>(intro hg;rw[hg];try exact no hg)));all_goals exact zXz
 ·rw[if_pos h0]
  have hd0:decide (X=0)=false:=by simpa using h0
  ((refine zGo Tryz.func84 ?_;intro G w M a F))
  (try refine zI zk84 F M ?_;clear F M a;try clear w);(repeat'(first|refine zA ?_;repeat intro nb|refine zC ?_;(first|refine acK (k:=44) (reg_all H.rg c.capacity s.V hl3 _) ?_;rintro u L' ⟨hv,rfl,rfl⟩|refine acW (k:=137) (hrq _ hv ?_) ?_;exact gs_own pullA;rintro u L' ⟨rfl,rfl⟩|refine kpW (k:=86) (efail_spec _ _) ?_|refine kpW (k:=129) (edone_spec _ _ _) ?_)|refine zB ?_ ?_<;>intro hc<;>try exact no hc|refine zH ?_ ?_<;>(intro hg;rw[hg];try exact no hg)));all_goals try refine zO fun a w F M=>?_
  all_goals first
   | (refine zE F M ?_;exact⟨_,_,rfl,⟨by simp[rsV,rsI,no',h0,tupOf],rfl⟩,M.perms permsA⟩)
   | (exfalso;simp_all;done)
theorem part_spec (o:Opn) (ho:U64 o.am):Spec 85 [ptr b,opV o] (engL b H c s R) fun u L'=>u=rsV (opPart c s o.ix o.am)∧L'=engL b H c (opPart c s o.ix o.am).s R:=by
 obtain ⟨k1,k2,k3,k4,k5,k6⟩:=inv_sum c s hc hi
 have hl3:s.V.length≤4096:=by omega
 have hsz:qS c≤4096:=k6
 obtain ⟨l1,l2,l3,l4,l5⟩:=hi.ql
 obtain ⟨ok,i,j,x⟩:=o
 have hrq:=fun (R:List Asn) (h:SlH) hg=>pcheck_spec s.V (sl h) R hg (by omega) i x
 unfold opPart
 have hz:parC s.V i x=0→0≤i:=fun h=>by
  unfold parC at h
  split at h
  ·cases h
  ·omega
 obtain ⟨X,hX⟩:∃ X,parC s.V i x=X:=⟨_,rfl⟩
 simp only[hX] at hrq hz ⊢
 by_cases h0:X=0
 ·have i0:=hz h0
  subst h0
  simp only[ne_eq,not_true_eq_false,if_false]
  obtain ⟨n,rfl⟩:∃ n:Nat,i=n:=⟨i.toNat,by omega⟩
  simp only[Int.toNat_natCast]
  by_cases hq:c.queueSize≤s.pa.length
  ·rw[if_pos hq]
   have hqq:s.pa.length=qS c:=by omega
   refine zGz zk85 Tryz.func85 ?_;intro G;(repeat'(first|refine zA ?_;repeat intro nb|refine zC ?_;(first|refine acK (k:=44) (reg_all H.rg c.capacity s.V hl3 _) ?_;rintro u L' ⟨hv,rfl,rfl⟩|refine acW (k:=139) (hrq _ hv ?_) ?_;exact gs_own pullA;rintro u L' ⟨rfl,rfl⟩|refine kpW (k:=86) (efail_spec _ _) ?_|refine kpW (k:=129) (edone_spec _ _ _) ?_|refine acCall (k:=140) ?_;refine Spec.pre (L':=rgqA H.pa (qS c) s.pa::_) ?_ permsA;refine Spec.mono (rgq_pushF H.pa (qS c) s.pa (n,x) ⟨some ⟨nb,0,none⟩,1,1⟩ _ (by(apply gs_own;(focus ((repeat (first|exact Pull.here|apply Pull.there));done)))) ⟨rfl,Nat.le_refl 1⟩ hqq hsz) ?_;rintro u L' ⟨rfl,rfl⟩)|refine zB ?_ ?_<;>intro hc<;>try exact no hc|refine zH ?_ ?_<;>(intro hg;rw[hg];try exact no hg)));all_goals exact zXz
  ·rw[if_neg hq]
   have hqq:s.pa.length<qS c:=by omega
   refine zGz zk85 Tryz.func85 ?_;intro G;(repeat'(first|refine zA ?_;repeat intro nb|refine zC ?_;(first|refine acK (k:=44) (reg_all H.rg c.capacity s.V hl3 _) ?_;rintro u L' ⟨hv,rfl,rfl⟩|refine acW (k:=139) (hrq _ hv ?_) ?_;exact gs_own pullA;rintro u L' ⟨rfl,rfl⟩|refine kpW (k:=86) (efail_spec _ _) ?_|refine kpW (k:=129) (edone_spec _ _ _) ?_|refine acCall (k:=140) ?_;refine Spec.pre (L':=rgqA H.pa (qS c) s.pa::_) ?_ permsA;refine Spec.mono (rgq_push H.pa (qS c) s.pa (n,x) ⟨some ⟨nb,0,none⟩,1,1⟩ _ (by(apply gs_own;(focus ((repeat (first|exact Pull.here|apply Pull.there));done)))) ⟨rfl,Nat.le_refl 1⟩ hqq hsz) ?_;rintro u L' ⟨rfl,rfl⟩)|refine zB ?_ ?_<;>intro hc<;>try exact no hc|refine zH ?_ ?_<;>(intro hg;rw[hg];try exact no hg)));all_goals exact zXz
 ·rw[if_pos h0]
  have hd0:decide (X=0)=false:=by simpa using h0
  ((refine zGo Tryz.func85 ?_;intro G w M a F))
  (try refine zI zk85 F M ?_;clear F M a;try clear w);(repeat'(first|refine zA ?_;repeat intro nb|refine zC ?_;(first|refine acK (k:=44) (reg_all H.rg c.capacity s.V hl3 _) ?_;rintro u L' ⟨hv,rfl,rfl⟩|refine acW (k:=139) (hrq _ hv ?_) ?_;exact gs_own pullA;rintro u L' ⟨rfl,rfl⟩|refine kpW (k:=86) (efail_spec _ _) ?_|refine kpW (k:=129) (edone_spec _ _ _) ?_)|refine zB ?_ ?_<;>intro hc<;>try exact no hc|refine zH ?_ ?_<;>(intro hg;rw[hg];try exact no hg)));all_goals try refine zO fun a w F M=>?_
  all_goals first
   | (refine zE F M ?_;exact⟨_,_,rfl,⟨by simp[rsV,rsI,no',h0,tupOf],rfl⟩,M.perms permsA⟩)
   | (exfalso;simp_all;done)
end
end
section
open Go.RowKit
theorem mods_step (f:Val→Val) {l:List Nat} (hn:l.Nodup) {V:List Val} {k i:Nat} {v:Val} (hk:l[k]? = some i) (hv:V[i]? = some v):(mods f V (l.take k))[i]? = some v∧mods f V (l.take (k+1))=(mods f V (l.take k)).set i (f v):=by
 have ht:l.take (k+1)=l.take k++[i]:=by rw[List.take_add_one,hk];rfl
 have hn1:(l.take k++[i]).Nodup:=by rw[← ht];exact hn.sublist (List.take_sublist _ _)
 have hni:i∉l.take k:=fun h=>(List.nodup_append.1 hn1).2.2 i h i (by simp) rfl
 have h1:(mods f V (l.take k))[i]? = some v:=by rw[mods_get f _ V i (List.nodup_append.1 hn1).1,if_neg hni];exact hv
 refine⟨h1,?_⟩
 rw[ht,mods_append]
 exact modify_eq_set f h1
structure G1 (v:Val):Prop where
 b:0≤v.bal∧v.bal≤1152921504606846976
 st:1≤v.st∧v.st≤7
 rq:-1≤v.rq∧v.rq≤2199023255552
 ex:-1≤v.ex∧v.ex≤2199023255552
 wd:-1≤v.wd∧v.wd≤1099511627776
 dl:-1≤v.dl∧v.dl≤2199023255552
theorem G1.wf {v:Val} (h:G1 v):v.wf:=by
 obtain ⟨h1,h2,h3,h4,h5,h6⟩:=h
 exact⟨⟨by omega,by omega⟩,WalkArith.wf_i64 (by omega),WalkArith.wf_i64 (by omega),WalkArith.wf_i64 (by omega),WalkArith.wf_i64 (by omega),WalkArith.wf_i64 (by omega)⟩
structure VG (V:List Val):Prop where
 len:V.length≤4096
 ok:∀ (i:Nat) v,V[i]? = some v→G1 v
 sum:(bals V).sum≤1152921504606846976
theorem VG.bal0 {V:List Val} (h:VG V):∀ x∈bals V,0≤x:=fun x hx=>by
 obtain ⟨v,hv,rfl⟩:=List.mem_map.1 hx
 obtain ⟨i,hi,he⟩:=List.getElem_of_mem hv
 exact(h.ok i v (by rw[List.getElem?_eq_getElem hi,he])).b.1
theorem VG.mods {V:List Val} (h:VG V) (f:Val→Val) (hb:∀ v,(f v).bal=v.bal) (hg:∀ v,G1 v→G1 (f v)):∀ l:List Nat,VG (mods f V l):=fun l=>by
 refine⟨by rw[mods_len];exact h.len,?_,by rw[bals_mods hb];exact h.sum⟩
 have key:∀ (l:List Nat) (V:List Val),(∀ (i:Nat) v,V[i]? = some v→G1 v)→∀ (i:Nat) v,(Go.Proofs.YtjbfcacmdahnhaaGreat.mods f V l)[i]? = some v→G1 v:=by
  intro l
  induction l with
  | nil=>exact fun V h=>h
  | cons j r ih =>
   intro V h i v hv
   rw[mods_cons] at hv
   refine ih (V.modify j f) (fun i v hv=>?_) i v hv
   rw[List.getElem?_modify] at hv
   cases hVi:V[i]? with
   | none=>rw[hVi] at hv;simp at hv
   | some u =>
    rw[hVi] at hv
    by_cases hij:j=i
    ·simp[hij] at hv;subst hv;exact hg u (h i u hVi)
    ·simp[hij] at hv;subst hv;exact h i u hVi
 exact key l V h.ok
theorem VG.u64 {V:List Val} (h:VG V):∀ x∈bals V,U64 x:=fun x hx=>⟨h.bal0 x hx,by have:=sum_mem_le _ h.bal0 x hx;have:=h.sum;omega⟩
section
variable (b:Nat) (H:EH) (c:Cfg) (R:List Asn)
def dueV (e:Int) (v:Val):Val:=if e<v.wd then v else {v with st:=5}
theorem dueV_bal (e:Int) (v:Val):(dueV e v).bal=v.bal:=by unfold dueV;split<;>rfl
theorem dueV_g (e:Int) (v:Val) (h:G1 v):G1 (dueV e v):=by
 unfold dueV
 split
 ·exact h
 ·exact⟨h.b,⟨by simp,by simp⟩,h.rq,h.ex,h.wd,h.dl⟩
def lateE (e:Int) (V:List Val) (l:List Nat):List En:=(l.filter fun i=>decide (e<(V.getD i Val.zero).wd)).map fun i=>((V.getD i Val.zero).wd,i)
theorem lateE_len (e:Int) (V:List Val) (l:List Nat):(lateE e V l).length≤l.length:=by
 unfold lateE;rw[List.length_map];exact List.length_filter_le _ _
theorem ripen_spec (hc:CfOk c) (V:List Val) (hV:VG V) (E:List En) (e:Int) (he:0≤e∧e≤1000000001) (hE:E.length≤4096) (hn:((E.filter fun x=>decide (x.1=e)).map (·.2)).Nodup) (hst:∀ i∈(E.filter fun x=>decide (x.1=e)).map (·.2),∃ v,V[i]? = some v∧(v.wd≤e→v.st=4)) :
  Spec 171 [ptr b,.int .i64 e] (pt b (engC H c) 122::regA H.rg c.capacity V::bkA H.bo c.ringLen.toNat E::R) fun u L'=>u=.tuple #[]∧L'=pt b (engC H c) 122::regA H.rg c.capacity (mods (dueV e) V ((E.filter fun x=>decide (x.1=e)).map (·.2)))::bkA H.bo c.ringLen.toNat ((E.filter fun x=>decide (x.1≠e))++lateE e V ((E.filter fun x=>decide (x.1=e)).map (·.2)))::R:=by
 have hdu:=fun R=>bk_due H.bo c.ringLen.toNat E R e (by omega)
 have hEl:((E.filter fun x=>decide (x.1=e)).map (·.2)).length+(E.filter fun x=>decide (x.1≠e)).length=E.length:=by rw[List.length_map];exact len_split e E
 generalize (E.filter fun x=>decide (x.1=e)).map (·.2)=due at *
 generalize (E.filter fun x=>decide (x.1≠e))=E0 at *
 refine zGz zk171 Tryz.func171 ?_;intro G;(repeat'(first|refine zA ?_;repeat intro nb|refine zC ?_;refine acK (k:=264) (hdu _) ?_;rintro u L' ⟨hd,rfl,rfl⟩|refine zB ?_ ?_<;>intro hc<;>try exact no hc|refine zH ?_ ?_<;>(intro hg;rw[hg];try exact no hg)));all_goals try refine zO fun a w F M=>?_
 refine svLoop F M (0:Nat) (fun k=>[(15,.int .i64 k)]) (fun k=>[regA H.rg c.capacity (mods (dueV e) V (due.take k)),bkA H.bo c.ringLen.toNat (E0++lateE e V (due.take k))]) (fun k=>k≤due.length) (fun k=>due.length - k) [5,6,7] (Nat.zero_le _) ?_ (hR:=by simp only[List.take_zero,mods,List.foldl_nil,lateE,List.filter_nil,List.map_nil,List.append_nil];(repeat (first|exact Pulls.nil|(apply Pulls.cons;(focus ((repeat (first|exact Pull.here|apply Pull.there));done))))))
 (rintro k q1 a w F M;(try simp only[zc,zn] at F M q1 ⊢))
 by_cases hk:k<due.length
 ·obtain ⟨i,hi⟩:∃ i,due[k]? = some i:=⟨due[k],by simp[hk]⟩
  obtain ⟨v,hv,hs4⟩:=hst i (List.mem_of_getElem? hi)
  obtain ⟨k1,k2⟩:=mods_step (dueV e) hn hi hv
  have hVk:=hV.mods (dueV e) (dueV_bal e) (dueV_g e) (due.take k)
  have hgv:=hV.ok i v hv
  have hgd:V.getD i Val.zero=v:=getD_some hv
  have hlt:lateE e V (due.take (k+1))=lateE e V (due.take k)++if e<v.wd then [(v.wd,i)] else []:=by
   unfold lateE
   rw[List.take_add_one,hi,List.filter_append,List.map_append]
   by_cases h:e<v.wd
   ·simp[hv,h]
   ·simp[hv,h]
  have hll:=lateE_len e V (due.take k)
  rw[List.length_take] at hll
  have hget:=fun R=>reg_get H.rg c.capacity (mods (dueV e) V (due.take k)) R i v k1 hVk.len
  by_cases hw:e<v.wd
  ·have e1:dueV e v=v:=by unfold dueV;rw[if_pos hw]
   rw[e1,set_same k1] at k2
   rw[if_pos hw] at hlt
   have hput:=fun R=>bk_put H.bo c.ringLen.toNat (E0++lateE e V (due.take k)) R (v.wd,i) ⟨by simp only;omega,hgv.wd.2⟩ (by simp;omega)
   simp only at hput
   obtain ⟨bal,st,slz,rq,ex,wd,dl⟩:=v
   simp only at hw hput hlt
   (try refine zI zk171 F M ?_;clear F M a;try clear w);(repeat'(first|refine zA ?_;repeat intro nb|refine zC ?_;(first|refine kp (k:=58) (hget _) ?_|refine kp (k:=136) (hput _) ?_)|refine zB ?_ ?_<;>intro hc<;>try exact no hc|refine zH ?_ ?_<;>(intro hg;rw[hg];try exact no hg)));all_goals try refine zO fun a w F M=>?_
   rw[List.append_assoc,← hlt] at M
   exact sv_again F M (k+1) kpA (by rw[k2];exact permsA) (by omega) (by omega)
  ·have hs5:=hs4 (by omega)
   have e1:dueV e v={v with st:=5}:=by unfold dueV;rw[if_neg hw]
   rw[e1] at k2
   rw[if_neg hw,List.append_nil] at hlt
   have hev:=fun R=>tevent_spec H.rg c.capacity (mods (dueV e) V (due.take k)) R i v 4 k1 hVk.len hgv.st ⟨by omega,by omega⟩ (by rw[hs5];decide) hVk.bal0 (by have:=hVk.sum;omega)
   rw[show nextF v.st 4=5 by rw[hs5];rfl,← k2] at hev
   obtain ⟨bal,st,slz,rq,ex,wd,dl⟩:=v
   simp only at hw
   (try refine zI zk171 F M ?_;clear F M a;try clear w);(repeat'(first|refine zA ?_;repeat intro nb|refine zC ?_;(first|refine kp (k:=58) (hget _) ?_|refine kp (k:=170) (hev _) ?_)|refine zB ?_ ?_<;>intro hc<;>try exact no hc|refine zH ?_ ?_<;>(intro hg;rw[hg];try exact no hg)));all_goals try refine zO fun a w F M=>?_
   rw[← hlt] at M
   exact sv_again F M (k+1) kpA permsA (by omega) (by omega)
 ·obtain rfl:k=due.length:=by omega
  rw[List.take_length] at M
  (try refine zI zk171 F M ?_;clear F M a;try clear w);(repeat'(first|refine zA ?_;repeat intro nb|refine zB ?_ ?_<;>intro hc<;>try exact no hc|refine zH ?_ ?_<;>(intro hg;rw[hg];try exact no hg)));all_goals exact zXz
end
end
section
open Go.RowKit
theorem setAsg_bal (c:Cfg) (e:Int) (v:Val):(setAsg c e v).bal=v.bal:=rfl
theorem asgs_len (e:Int) (fo vo:List Nat) (k:Nat) (hk:k≤(fo++vo).length):(asgs e fo vo k).length=k:=by
 simp[asgs] at hk ⊢;omega
theorem asgs_at (e:Int) (fo vo:List Nat) (k j:Nat) (i:Nat) (hk:k≤(fo++vo).length) (hj:((fo++vo).take k)[j]? = some i):∃ cl,(asgs e fo vo k)[j]? = some ⟨i,cl,e⟩:=by
 have e1:(fo++vo).take k=fo.take k++vo.take (k - fo.length):=List.take_append
 rw[e1,List.getElem?_append] at hj
 unfold asgs
 rw[List.getElem?_append,List.length_map]
 split at hj
 ·rename_i h
  rw[if_pos h,List.getElem?_map,hj]
  exact⟨0,rfl⟩
 ·rename_i h
  rw[if_neg h,List.getElem?_map,hj]
  exact⟨1,rfl⟩
def asgE (V:List Val) (l:List Nat):List En:=l.map fun i=>((V.getD i Val.zero).wd,i)
section
variable (b:Nat) (H:EH) (c:Cfg) (R:List Asn)
theorem eassign_spec (hc:CfOk c) (V:List Val) (hV:VG V) (fo vo:List Nat) (hf:fo.length≤4096) (hv:vo.length≤4096) (ca ch e:Int) (hca:U64 ca) (hch:0≤ch) (he:0≤e∧e≤1000000001) (E:List En) (hE:E.length+(fo++vo).length≤4900) (hn:(fo++vo).Nodup) (hst:∀ i∈fo++vo,∃ v,V[i]? = some v∧v.st=3∧v.ex = -1) (hfv:(fo++vo).length≤4096) :
  Spec 173 [ptr b,.int .i64 e,.int .u64 ch] (pt b (engC H c) 122::regA H.rg c.capacity V::bkA H.bo c.ringLen.toNat E::ownT 3 natL 1 (sl H.lv) []::mtA H.mt ca::lnP H.ln H.r0 H.r1 (qS c) fo vo R) fun u L'=>∃ ha hl,u=sl ha∧L'=ownT 75 asgL 3 (sl ha) (asgs (e+1) fo vo (takeW (bals V) (granted ca ch) (fo++vo)).1)::pt b (engC {H with lv:=hl} c) 122::regA H.rg c.capacity (mods (setAsg c (e+1)) V ((fo++vo).take (takeW (bals V) (granted ca ch) (fo++vo)).1))::bkA H.bo c.ringLen.toNat (E++asgE (mods (setAsg c (e+1)) V ((fo++vo).take (takeW (bals V) (granted ca ch) (fo++vo)).1)) ((fo++vo).take (takeW (bals V) (granted ca ch) (fo++vo)).1))::ownT 3 natL 1 (sl hl) ((fo++vo).take (takeW (bals V) (granted ca ch) (fo++vo)).1)::mtA H.mt (if (takeW (bals V) (granted ca ch) (fo++vo)).1=(fo++vo).length then 0 else (takeW (bals V) (granted ca ch) (fo++vo)).2)::lnP H.ln H.r0 H.r1 (qS c) (fo.drop (takeW (bals V) (granted ca ch) (fo++vo)).1) (vo.drop ((takeW (bals V) (granted ca ch) (fo++vo)).1 - fo.length)) R:=by
 have hTl:=takeW_le (bals V) (fo++vo) (granted ca ch)
 have hbl:=fun R=>tbals_spec H.rg c.capacity V R hV.len
 have hstp:=fun (R:List Asn) (v:Value) hg=>astep_spec H.ln H.r0 H.r1 H.mt (qS c) (bals V) v R hg hV.u64 fo vo hf hv ca ch e hca hch ⟨he.1,by omega⟩
 generalize takeW (bals V) (granted ca ch) (fo++vo)=T at *
 have hAl:=asgs_len (e+1) fo vo T.1 hTl
 have hAt:=fun j i=>asgs_at (e+1) fo vo T.1 j i hTl
 obtain ⟨ix,hix⟩:∃ ix,(fo++vo).take T.1=ix:=⟨_,rfl⟩
 have hixl:ix.length=T.1:=by rw[← hix,List.length_take];omega
 have hixn:ix.Nodup:=by rw[← hix];exact hn.sublist (List.take_sublist _ _)
 have hixs:∀ i∈ix,∃ v,V[i]? = some v∧v.st=3∧v.ex = -1:=fun i hi=>hst i (List.mem_of_mem_take (hix ▸ hi))
 rw[hix] at hAt ⊢
 obtain ⟨A,hA⟩:∃ A,asgs (e+1) fo vo T.1=A:=⟨_,rfl⟩
 rw[hA] at hAl hAt ⊢
 simp only[hA] at hstp
 generalize (if T.1=(fo++vo).length then 0 else T.2)=z at *
 generalize fo.drop T.1=fo2 at *
 generalize vo.drop (T.1 - fo.length)=vo2 at *
 have hun:=hc.un
 have hga:∀ v,G1 v→G1 (setAsg c (e+1) v):=fun v h=>⟨h.b,h.st,h.rq,⟨by simp only[setAsg];omega,by simp only[setAsg];omega⟩,⟨by have:=h.wd;simp only[setAsg];omega,by have:=h.wd;simp only[setAsg];omega⟩,h.dl⟩
 obtain ⟨V3,hV3⟩:∃ V3,mods (setAsg c (e+1)) V ix=V3:=⟨_,rfl⟩
 rw[hV3]
 refine zGz zk173 Tryz.func173 ?_;intro G;(repeat'(first|refine zA ?_;repeat intro nb|refine zC ?_;(first|refine acK (k:=175) (hbl _) ?_;rintro u L' ⟨hw,rfl,rfl⟩|refine acK (L1:=mtA H.mt ca::lnP H.ln H.r0 H.r1 (qS c) fo vo _) (k:=265) (hstp _ _ ?_) ?_;exact gsA;rintro u L' ⟨ha,rfl,rfl⟩)|refine zB ?_ ?_<;>intro hc<;>try exact no hc|refine zH ?_ ?_<;>(intro hg;rw[hg];try exact no hg)));all_goals try refine zO fun a w F M=>?_
 have hil:ix.length≤(fo++vo).length:=by omega
 have hz3:∀ i∈ix,∀ v,V[i]? = some v→V3.getD i Val.zero=setAsg c (e+1) v:=fun i hi v hv=>by
  refine getD_some ?_
  rw[← hV3,mods_get _ _ _ _ hixn,if_pos hi,hv];rfl
 refine svLoop F M ((0,H.lv):Nat × SlH) (fun s=>[(30,.int .i64 s.1)]) (fun s=>[pt b (engC {H with lv:=s.2} c) 122,regA H.rg c.capacity (mods (setAsg c (e+1)) V (ix.take s.1)),bkA H.bo c.ringLen.toNat (E++asgE V3 (ix.take s.1)),ownT 3 natL 1 (sl s.2) (ix.take s.1)]) (fun s=>s.1≤ix.length) (fun s=>ix.length - s.1) [9,10,11] (Nat.zero_le _) ?_ (hR:=by simp only[List.take_zero,mods,List.foldl_nil,asgE,List.map_nil,List.append_nil];(repeat (first|exact Pulls.nil|(apply Pulls.cons;(focus ((repeat (first|exact Pull.here|apply Pull.there));done))))))
 (rintro⟨k,hl⟩ q1 a w F M;(try simp only[zc,zn] at F M q1 ⊢))
 by_cases hk:k<ix.length
 ·obtain ⟨i,hi⟩:∃ i,ix[k]? = some i:=⟨ix[k],by simp[hk]⟩
  obtain ⟨v,hv,hs3,hx1⟩:=hixs i (List.mem_of_getElem? hi)
  obtain ⟨cl,hAk⟩:=hAt k i hi
  obtain ⟨k1,k2⟩:=mods_step (setAsg c (e+1)) hixn hi hv
  have hVk:=hV.mods (setAsg c (e+1)) (setAsg_bal c (e+1)) hga (ix.take k)
  have hgv:=hV.ok i v hv
  have hgs:=hga v hgv
  have hbv:0≤v.bal:=hgv.b.1
  have hle:v.bal≤(bals (mods (setAsg c (e+1)) V (ix.take k))).sum:=sum_mem_le _ hVk.bal0 _ (List.mem_of_getElem? (bals_get k1))
  have hsm:=hVk.sum
  have hlt:asgE V3 (ix.take (k+1))=asgE V3 (ix.take k)++[((setAsg c (e+1) v).wd,i)]:=by
   unfold asgE
   rw[List.take_add_one,hi,List.map_append]
   simp only[Option.toList_some,List.map_cons,List.map_nil,hz3 i (List.mem_of_getElem? hi) v hv]
  have hit:ix.take (k+1)=ix.take k++[i]:=by rw[List.take_add_one,hi];rfl
  have hll:(asgE V3 (ix.take k)).length=k:=by unfold asgE;rw[List.length_map,List.length_take];omega
  have hget:=fun R=>reg_get H.rg c.capacity (mods (setAsg c (e+1)) V (ix.take k)) R i v k1 hVk.len
  have hpa:∀ R,Spec 266 [valV v,.int .i64 (e+1),cfgV c] R fun u L'=>u=.tuple [valV (setAsg c (e+1) v),.int .i64 0].toArray∧L'=R:=fun R=>pnAsg_spec v (e+1) (by omega) R c (by omega) (by omega) hs3 hx1
  have hch:=fun R=>tchange_spec H.rg c.capacity (mods (setAsg c (e+1)) V (ix.take k)) R i v (setAsg c (e+1) v) k1 hVk.len ⟨i64_wf hgs.wf.2.1,i64_wf hgv.wf.2.1⟩ hbv hbv ⟨hle,by omega,by rw[setAsg_bal];omega⟩
  rw[← k2] at hch
  have hput:=fun R=>bk_put H.bo c.ringLen.toNat (E++asgE V3 (ix.take k)) R ((setAsg c (e+1) v).wd,i) ⟨by simp only[setAsg];omega,hgs.wd.2⟩ (by rw[List.length_append,hll];omega)
  simp only[List.append_assoc,← hlt] at hput
  have htl:(ix.take k).length≤4096:=by rw[List.length_take];omega
  have hkA:k<A.length:=by omega
  generalize setAsg c (e+1) v=u at *
  obtain ⟨bal,st,slz,rq,ex,wd,dl⟩:=u
  simp only at hput
  (try refine zI zk173 F M ?_;clear F M a;try clear w);(repeat'(first|refine zA ?_;repeat intro nb|refine zC ?_;(first|refine kp (k:=58) (hget _) ?_|refine kpW (k:=266) (hpa _) ?_|refine kp (k:=133) (hch _) ?_|refine kp (k:=136) (hput _) ?_|refine ac_appendH (f:=natL) (xs:=ix.take k) (ys:=[i]) rfl rfl inferInstance rfl rfl pullA inferInstance gsA rfl rfl (by simp;omega) ?_;intro nv)|refine zB ?_ ?_<;>intro hc<;>try exact no hc|refine zH ?_ ?_<;>(intro hg;rw[hg];try exact no hg)));all_goals try refine zO fun a w F M=>?_
  rw[← hit] at M
  exact sv_again F M (k+1,nv) kpA permsA (by simp only;omega) (by simp only;omega)
 ·obtain rfl:k=ix.length:=by omega
  rw[List.take_length,hV3] at M
  (try refine zI zk173 F M ?_;clear F M a;try clear w);(repeat'(first|refine zA ?_;repeat intro nb|refine zB ?_ ?_<;>intro hc<;>try exact no hc|refine zH ?_ ?_<;>(intro hg;rw[hg];try exact no hg)));all_goals try refine zO fun a w F M=>?_
  (all_goals(refine zE F M ?_;exact⟨_,_,rfl,⟨ha,hl,rfl,rfl⟩,M.perms permsA⟩))
end
end
section
open Go.RowKit
def set4 (v:Val):Val:={v with st:=4}
structure BdF (c:Cfg) (s:St) (e:Int) (V1 V2 V3 V4 V5:List Val) (ch:Int) (T:Nat × Int) (n:Nat) (E2:List En):Prop where
 he:0≤e∧e≤1000000001
 hep:(s.bk:Int) / c.epochLen=e
 hb:s.bk≤1000000000
 g0:VG s.V
 g1:VG V1
 g2:VG V2
 g3:VG V3
 g4:VG V4
 g5:VG V5
 lvn:s.lv.Nodup
 lvl:s.lv.length≤4096
 lv3:∀ i∈s.lv,∃ v,s.V[i]? = some v∧v.st=3
 m1:mods set4 s.V s.lv=V1
 bl:s.bo.length≤4096
 dn:((s.bo.filter fun x=>decide (x.1=e)).map (·.2)).Nodup
 ds:∀ i∈(s.bo.filter fun x=>decide (x.1=e)).map (·.2),∃ v,V1[i]? = some v∧(v.wd≤e→v.st=4)
 m2:mods (dueV e) V1 ((s.bo.filter fun x=>decide (x.1=e)).map (·.2))=V2
 e2:(s.bo.filter fun x=>decide (x.1≠e))++lateE e V1 ((s.bo.filter fun x=>decide (x.1=e)).map (·.2))=E2
 e2l:E2.length+(s.fo++s.vo).length≤4900
 hch:churn c V2=ch
 ch0:0≤ch
 hT:takeW (bals V2) (granted s.ca ch) (s.fo++s.vo)=T
 ca:U64 s.ca
 xn:(s.fo++s.vo).Nodup
 x3:∀ i∈s.fo++s.vo,∃ v,V2[i]? = some v∧v.st=3∧v.ex = -1
 xl:(s.fo++s.vo).length≤4096
 m3:mods (setAsg c (e+1)) V2 ((s.fo++s.vo).take T.1)=V3
 hn:actN (bals V3) ch s.pe=n
 pn:s.pe.Nodup
 pl:s.pe.length≤4096
 p1:∀ i∈s.pe,∃ v,V3[i]? = some v∧v.st=1
 m4:mods actV V3 (s.pe.take n)=V4
 ml:s.me.length≤4096
 m5:(s.me.take c.merges.toNat).foldl (merV c) V4=V5
 l5:V5.length=V4.length
 bd:boundM c s=⟨asgs (e+1) s.fo s.vo T.1,{s with V:=V5,fo:=s.fo.drop T.1,vo:=s.vo.drop (T.1 - s.fo.length),ca:=if T.1=(s.fo++s.vo).length then 0 else T.2,pe:=s.pe.drop n,me:=s.me.drop c.merges.toNat,lv:=(s.fo++s.vo).take T.1,bo:=E2++asgE V3 ((s.fo++s.vo).take T.1)}⟩
theorem VG.of_inv {c:Cfg} {s:St} (hc:CfOk c) (h:Inv c s):VG s.V:=by
 have he:=epo_range hc (s:=s) (by have:=h.bk;omega)
 have h1:=h.cap;have h2:=hc.ca;have h3:=h.sup;have h4:=hc.sc;have h5:=hc.un
 refine⟨by omega,fun i v hv=>?_,by omega⟩
 have o:=h.val i v hv
 have k1:=sum_mem_le _ h.bal0 _ (List.mem_of_getElem? (bals_get hv))
 have k2:=o.b;have k3:=o.st;have k4:=o.rq;have k5:=o.wd;have k6:=o.dl
 refine⟨⟨k2,by omega⟩,k3,by omega,?_,by omega,by omega⟩
 rcases o.ex with h|h<;>omega
theorem mers_len (c:Cfg):∀ (q:List (Nat × Nat)) (V:List Val),(q.foldl (merV c) V).length=V.length
 | [],V=>rfl
 | p::q,V=>by rw[List.foldl_cons,mers_len c q,merV_len]
theorem mods_map (f g:Val→Val) {V:List Val} {l:List Nat} (hn:l.Nodup) (h1:∀ i∈l,∀ v,V[i]? = some v→f v=g v) (h2:∀ i v,V[i]? = some v→i∉l→g v=v):mods f V l=V.map g:=by
 apply List.ext_getElem?
 intro i
 rw[mods_get f l V i hn,List.getElem?_map]
 cases hv:V[i]? with
 | none=>split<;>rfl
 | some v =>
  by_cases hi:i∈l
  ·rw[if_pos hi,Option.map_some,Option.map_some,h1 i hi v hv]
  ·rw[if_neg hi,Option.map_some,h2 i v hv hi]
theorem nodup_app {a b:List Nat} (ha:a.Nodup) (hb:b.Nodup) (h:∀ i∈a,i∉b):(a++b).Nodup:=List.nodup_append.2 ⟨ha,hb,fun x hx y hy e=>h x hx (e ▸ hy)⟩
theorem nodup_lt {l:List Nat} {n:Nat} (hn:l.Nodup) (h:∀ i∈l,i<n):l.length≤n:=by
 have:=hn.length_le_of_subset (l₂:=List.range n) fun i hi=>List.mem_range.2 (h i hi)
 simpa using this
theorem bdF_of {c:Cfg} (hc:CfOk c) {s:St} (h:Inv c s) (hb:s.bk<1000000000) (hz:((s.bk+1:Nat):Int) % c.epochLen=0):∃ e V1 V2 V3 V4 V5 ch T n E2,BdF c {s with bk:=s.bk+1} e V1 V2 V3 V4 V5 ch T n E2:=by
 have hep:=epo_next hc hz
 have he0:=epo_range hc (s:=s) (by have:=h.bk;omega)
 have he0':=epo_range hc (s:={s with bk:=s.bk+1}) (by simp only;omega)
 have hI:=boundM_inv hc h hb hz
 have hun:=hc.un
 obtain ⟨e,he⟩:∃ e,epo c {s with bk:=s.bk+1} = e:=⟨_,rfl⟩
 have he1:epo c s=e - 1:=by omega
 have hval:=h.val
 have hbw:=h.bw
 rw[he1] at hval hbw
 have hcap:s.V.length≤4096:=by have:=h.cap;have:=hc.ca;omega
 have g0:=VG.of_inv hc h
 obtain ⟨V1,hV1⟩:∃ V1,s.V.map (leaveV e)=V1:=⟨_,rfl⟩
 obtain ⟨V2,hV2⟩:∃ V2,V1.map (ripeV e)=V2:=⟨_,rfl⟩
 have e1:∀ i:Nat,V1[i]? = (s.V[i]?).map (leaveV e):=fun i=>by rw[← hV1,List.getElem?_map]
 have e2:∀ i:Nat,V2[i]? = (s.V[i]?).map (gV e):=fun i=>by rw[← hV2,List.getElem?_map,e1,Option.map_map];rfl
 have lt:∀ {i:Nat} {v:Val},s.V[i]? = some v→i<s.V.length:=fun hv=>(List.getElem?_eq_some_iff.1 hv).1
 have m1:mods set4 s.V s.lv=V1:=by
  rw[← hV1]
  refine mods_map _ _ h.lv.nd (fun i hi v hv=>?_) fun i v hv hi=>?_
  ·obtain ⟨v',hv',hl⟩:=(h.lv.mem i).1 hi
   rw[hv] at hv';cases hv'
   have q:=(hval i v hv).e3
   unfold leave' at hl
   unfold set4 leaveV
   rw[if_pos (by omega)]
  ·unfold leaveV
   rw[if_neg]
   intro hh
   exact hi ((h.lv.mem i).2 ⟨v,hv,by unfold leave';omega⟩)
 have ndp:=(due_parts s.bo e).nodup_iff.1 h.bo.nd
 have dn:=(List.nodup_append.1 ndp).2.1
 have dmem:∀ i∈(s.bo.filter fun x=>decide (x.1=e)).map (·.2),∃ v,s.V[i]? = some v∧bond' v:=fun i hi=>by
  obtain ⟨x,hx,rfl⟩:=List.mem_map.1 hi
  exact(h.bo.mem x.2).1 (List.mem_map.2 ⟨x,(List.mem_filter.1 hx).1,rfl⟩)
 have ds:∀ i∈(s.bo.filter fun x=>decide (x.1=e)).map (·.2),∃ v,V1[i]? = some v∧v.st=4:=fun i hi=>by
  obtain ⟨v,hv,hbv⟩:=dmem i hi
  refine⟨leaveV e v,by rw[e1,hv];rfl,?_⟩
  have q:=(hval i v hv).e3
  unfold bond' at hbv
  unfold leaveV
  by_cases h3:v.st=3∧v.ex=e
  ·rw[if_pos h3]
  ·rw[if_neg h3];omega
 have m2:mods (dueV e) V1 ((s.bo.filter fun x=>decide (x.1=e)).map (·.2))=V2:=by
  rw[← hV2]
  refine mods_map _ _ dn (fun i hi v hv=>?_) fun i v hv hi=>?_
  ·obtain ⟨v',hv',h4⟩:=ds i hi
   rw[hv] at hv';cases hv'
   unfold dueV ripeV
   by_cases hw:e<v.wd
   ·rw[if_pos hw,if_neg (by omega)]
   ·rw[if_neg hw,if_pos (by omega)]
  ·rw[e1] at hv
   obtain ⟨u,hu,rfl⟩:=Option.map_eq_some_iff.1 hv
   unfold ripeV
   rw[if_neg]
   rintro⟨q1,q2⟩
   have hw:=leaveV_wd e u
   have q3:=(hval i u hu).e3
   have hbu:bond' u:=by
    unfold bond'
    unfold leaveV at q1
    by_cases h3:u.st=3∧u.ex=e
    ·omega
    ·rw[if_neg h3] at q1;omega
   obtain ⟨x,hx,rfl⟩:=List.mem_map.1 ((h.bo.mem i).2 ⟨u,hu,hbu⟩)
   have q4:=(hbw x hx).1
   have q5:=(hbw x hx).2 u hu
   have q6:x.1=e:=by omega
   exact hi (List.mem_map.2 ⟨x,List.mem_filter.2 ⟨hx,by simpa using q6⟩,rfl⟩)
 have set4_g:∀ v,G1 v→G1 (set4 v):=fun v h=>⟨h.b,⟨by simp[set4],by simp[set4]⟩,h.rq,h.ex,h.wd,h.dl⟩
 have g1:VG V1:=m1 ▸ g0.mods set4 (fun _=>rfl) set4_g s.lv
 have g2:VG V2:=m2 ▸ g1.mods (dueV e) (dueV_bal e) (dueV_g e) _
 have b2:bals V2=bals s.V:=by rw[← m2,bals_mods (dueV_bal e),← m1,bals_mods (f:=set4) (fun _=>rfl)]
 have x3:∀ i∈s.fo++s.vo,∃ v,V2[i]? = some v∧v.st=3∧v.ex = -1:=fun i hi=>by
  obtain ⟨v,hv,hw⟩:=(h.ex.mem i).1 hi
  refine⟨gV e v,by rw[e2,hv];rfl,?_⟩
  have q1:=gV_cases hc (by omega) (hval i v hv);have q2:=gV_wd e v
  unfold wait' at hw
  omega
 obtain ⟨ch,hch⟩:∃ ch,churn c V2=ch:=⟨_,rfl⟩
 have ch0:0≤ch:=by have:=hc.mc;rw[← hch];unfold churn;omega
 obtain ⟨T,hT⟩:∃ T,takeW (bals V2) (granted s.ca ch) (s.fo++s.vo)=T:=⟨_,rfl⟩
 obtain ⟨V3,hV3⟩:∃ V3,mods (setAsg c (e+1)) V2 ((s.fo++s.vo).take T.1)=V3:=⟨_,rfl⟩
 have hga:∀ v,G1 v→G1 (setAsg c (e+1) v):=fun v h=>⟨h.b,h.st,h.rq,⟨by simp only[setAsg];omega,by simp only[setAsg];omega⟩,⟨by have:=h.wd;simp only[setAsg];omega,by have:=h.wd;simp only[setAsg];omega⟩,h.dl⟩
 have g3:VG V3:=hV3 ▸ g2.mods (setAsg c (e+1)) (fun _=>rfl) hga _
 have ixn:((s.fo++s.vo).take T.1).Nodup:=h.ex.nd.sublist (List.take_sublist _ _)
 have p1:∀ i∈s.pe,∃ v,V3[i]? = some v∧v.st=1:=fun i hi=>by
  obtain ⟨v,hv,hw⟩:=(h.pe.mem i).1 hi
  have q1:=gV_cases hc (by omega) (hval i v hv)
  unfold pend' at hw
  rw[← hV3,mods_get _ _ _ _ ixn,e2,hv]
  split
  ·exact⟨_,rfl,by simp only[setAsg];omega⟩
  ·exact⟨_,rfl,by omega⟩
 obtain ⟨n,hn⟩:∃ n,actN (bals V3) ch s.pe=n:=⟨_,rfl⟩
 obtain ⟨V4,hV4⟩:∃ V4,mods actV V3 (s.pe.take n)=V4:=⟨_,rfl⟩
 have g4:VG V4:=hV4 ▸ g3.mods actV (fun _=>rfl) (fun v h=>⟨h.b,⟨by simp[actV],by simp[actV]⟩,h.rq,h.ex,h.wd,h.dl⟩) _
 obtain ⟨V5,hV5⟩:∃ V5,(s.me.take c.merges.toNat).foldl (merV c) V4=V5:=⟨_,rfl⟩
 obtain ⟨E2,hE2⟩:∃ E2,(s.bo.filter fun x=>decide (x.1≠e))++lateE e V1 ((s.bo.filter fun x=>decide (x.1=e)).map (·.2))=E2:=⟨_,rfl⟩
 have bd:boundM c {s with bk:=s.bk+1} = ⟨asgs (e+1) s.fo s.vo T.1,{s with bk:=s.bk+1,V:=V5,fo:=s.fo.drop T.1,vo:=s.vo.drop (T.1 - s.fo.length),ca:=if T.1=(s.fo++s.vo).length then 0 else T.2,pe:=s.pe.drop n,me:=s.me.drop c.merges.toNat,lv:=(s.fo++s.vo).take T.1,bo:=E2++asgE V3 ((s.fo++s.vo).take T.1)}⟩:=by
  unfold boundM
  simp only[he,hV1,hV2,hch,hT,hV3,hn,hV4,hV5]
  rw[← hE2];rfl
 rw[bd] at hI
 have g5:VG V5:=VG.of_inv hc hI
 have hbl:s.bo.length≤s.V.length:=by have:=h.bo.len;rwa [List.length_map] at this
 have hxl:=h.ex.len
 have hdis:(s.bo.map (·.2)++(s.fo++s.vo)).length≤s.V.length:=by
  refine nodup_lt (nodup_app h.bo.nd h.ex.nd fun i h1 h2=>?_) fun i hi=>?_
  ·obtain ⟨v,hv,q1⟩:=(h.bo.mem i).1 h1
   obtain ⟨v',hv',q2⟩:=(h.ex.mem i).1 h2
   rw[hv] at hv';cases hv'
   unfold bond' at q1;unfold wait' at q2;omega
  ·rcases List.mem_append.1 hi with hi|hi
   ·obtain ⟨v,hv,_⟩:=(h.bo.mem i).1 hi;exact lt hv
   ·obtain ⟨v,hv,_⟩:=(h.ex.mem i).1 hi;exact lt hv
 rw[List.length_append,List.length_map] at hdis
 have hl2:(lateE e V1 ((s.bo.filter fun x=>decide (x.1=e)).map (·.2))).length≤(s.bo.filter fun x=>decide (x.1=e)).length:=by
  have:=lateE_len e V1 ((s.bo.filter fun x=>decide (x.1=e)).map (·.2));rwa [List.length_map] at this
 have hsp:(s.bo.filter fun x=>decide (x.1=e)).length+(s.bo.filter fun x=>decide (x.1≠e)).length=s.bo.length:=len_split e s.bo
 have he2l:E2.length+(s.fo++s.vo).length≤4900:=by
  rw[← hE2]
  have h1:((s.bo.filter fun x=>decide (x.1≠e))++lateE e V1 ((s.bo.filter fun x=>decide (x.1=e)).map (·.2))).length=(s.bo.filter fun x=>decide (x.1≠e)).length+(lateE e V1 ((s.bo.filter fun x=>decide (x.1=e)).map (·.2))).length:=List.length_append
  omega
 obtain ⟨l1,l2,l3,l4,l5⟩:=h.ql
 have hqs:=hc.qs
 refine⟨e,V1,V2,V3,V4,V5,ch,T,n,E2,?_⟩
 constructor
 ·omega
 ·exact he
 ·simp only;omega
 ·exact g0
 ·exact g1
 ·exact g2
 ·exact g3
 ·exact g4
 ·exact g5
 ·exact h.lv.nd
 ·have:=h.lv.len;simp only;omega
 ·intro i hi
  obtain ⟨v,hv,hl⟩:=(h.lv.mem i).1 hi
  exact⟨v,hv,hl.1⟩
 ·exact m1
 ·simp only;omega
 ·exact dn
 ·intro i hi
  obtain ⟨v,hv,h4⟩:=ds i hi
  exact⟨v,hv,fun _=>h4⟩
 ·exact m2
 ·exact hE2
 ·exact he2l
 ·exact hch
 ·exact ch0
 ·exact hT
 ·exact h.ca
 ·exact h.ex.nd
 ·exact x3
 ·simp only;omega
 ·exact hV3
 ·exact hn
 ·exact h.pe.nd
 ·simp only;omega
 ·exact p1
 ·exact hV4
 ·simp only;omega
 ·exact hV5
 ·rw[← hV5,mers_len]
 ·exact bd
end
end Go.Proofs.YtjbfcacmdahnhaaGreat
