import Derived.Test.YtopbohbkhljjgaaGreatZdd
set_option linter.unusedVariables false
set_option linter.unusedSimpArgs false
set_option maxRecDepth 100000
set_option maxHeartbeats 8000000
namespace Go.Proofs.YtopbohbkhljjgaaGreat
section
open Go.RowKit
def IF (F:List (Nat × Nat × Value)) (uo:Option Nat) (s:Int) (W:World):Prop :=
 (∀ p∈F,W.cell? ⟨p.1,p.2.1,none⟩=some p.2.2)∧∀ u,uo=some u→W.cell? ⟨u,0,none⟩=some (.int .u64 s)∧W.frozen? ⟨u,0,none⟩=false
def IC (F:List (Nat × Nat × Value)) (uo:Option Nat):List Nat:=F.map (·.1)++uo.toList
theorem IF.below {F:List (Nat × Nat × Value)} {uo:Option Nat} {s:Int} {W W':World} (h:IF F uo s W) (hb:Below W.heap.size W W'):IF F uo s W' :=
 ⟨fun p hp=>(hb.cell (p:=⟨p.1,p.2.1,none⟩) (World.block_lt_of_cell? W _ (h.1 p hp))).trans (h.1 p hp),fun u hu =>
  have hl:=World.block_lt_of_cell? W _ (h.2 u hu).1
  ⟨(hb.cell (p:=⟨u,0,none⟩) hl).trans (h.2 u hu).1,(hb.frozen (p:=⟨u,0,none⟩) hl).trans (h.2 u hu).2⟩⟩
theorem IF.upd {F:List (Nat × Nat × Value)} {uo:Option Nat} {s:Int} {W W':World} {b:Nat} (h:IF F uo s W) (hb:Upd [b] W W') (hn:b∉IC F uo):IF F uo s W':=by
 have key:∀ k,k∈IC F uo→k<W.heap.size→W'.heap[k]? = W.heap[k]?:=fun k hk hl=>hb.block k hl (by simp;rintro rfl;exact hn hk)
 refine⟨fun p hp=>?_,fun u hu=>?_⟩
 ·have hl:=World.block_lt_of_cell? W _ (h.1 p hp)
  rw[World.cell?_of_block (w:=W) (a:=⟨p.1,p.2.1,none⟩) (key p.1 (by simp[IC];exact .inl ⟨_,_,hp⟩) hl)]
  exact h.1 p hp
 ·have hl:=World.block_lt_of_cell? W _ (h.2 u hu).1
  have hk:=key u (by simp[IC,hu]) hl
  exact⟨(World.cell?_of_block (w:=W) (a:=⟨u,0,none⟩) hk).trans (h.2 u hu).1,(World.frozen?_of_block (w:=W) (a:=⟨u,0,none⟩) hk).trans (h.2 u hu).2⟩
theorem IF.set {F:List (Nat × Nat × Value)} {uo:Option Nat} {s:Int} {W:World} {b:Nat} (h:IF F uo s W) (hn:b∉IC F uo) (i:Nat) (x:Value):IF F uo s (W.setCell ⟨b,i,none⟩ x) :=
 h.upd ((Upd.refl [b] W).setCell (by simp) _ _) hn
theorem upd_cons {b:Nat} {C:List Nat} {w w':World} (h:Upd [b] w w'):Upd (b::C) w w':=h.mono fun k hk _=>by simp at hk;simp[hk]
section
variable {F:List (Nat × Nat × Value)} {uo:Option Nat}
def gEvent (ev:Int) (v:Val) (s:Int):Int × Val × Int:=if nextF v.st ev=0 then (8,v,s) else (0,{v with st:=nextF v.st ev},s)
def gDelay (ep dy:Int) (v:Val) (s:Int):Int × Val × Int:=if laterB ep [dy] then (0,{v with wd:=maxF [v.wd,laterF ep [dy]]},s) else (10,v,s)
def gMark (ep:Int) (v:Val) (s:Int):Int × Val × Int:=if v.sl then (9,v,s) else (0,{v with rq:=if v.st=2 then ep else v.rq,sl:=true,dl:=-1},s)
def gBurn (pn pd:Int) (v:Val) (_:Int):Int × Val × Int:=(0,{v with bal:=v.bal - penF v.bal pn pd},penF v.bal pn pd)
def gDue (ep:Int) (v:Val) (s:Int):Int × Val × Int:=if ep<v.wd then (8,v,s) else (0,{v with bal:=0},s)
def gRequest (ep:Int) (v:Val) (s:Int):Int × Val × Int:=if laterB ep [] then (0,{v with rq:=ep},s) else (10,v,s)
def gFresh (xt:Int) (v:Val) (s:Int):Int × Val × Int:=if v.st≠3∨v.ex≠-1 then (8,v,s) else (0,{v with ex:=xt},s)
theorem nextF_wf (s e:Int):(Lit.int .i64 (nextF s e)).wf=true:=by
 have:0≤nextF s e∧nextF s e≤7:=by
  unfold nextF
  repeat' split
  all_goals omega
 exact wf_small _ (by omega) (by omega)
theorem chg_event {c:Nat} {ev:Int} (he:(Lit.int .i64 ev).wf=true) (hF:(c,0,Value.int .i64 ev)∈F):ChgRun (IC F uo) uo.toList (IF F uo) (291,#[.pointer (some ⟨c,0,none⟩)]) (gEvent ev):=by
 refine⟨fun args w=>by go_simp,fun w b v s hI hv hb hw=>?_⟩
 obtain ⟨bal,st,sl,rq,ex,wd,dl⟩:=v
 have hc:=hI.1 _ hF
 unfold gEvent
 by_cases hn:nextF st ev=0
 ·rw[if_pos hn]
  refine⟨fun h=>by simp at h,(event_no b c bal st rq ex wd dl ev sl w hv hc hw.2.1 he hn).mono fun r w' ⟨h1,h2⟩=>⟨h1,upd_cons h2,hI.upd h2 hb,fun h=>by simp at h⟩⟩
 ·rw[if_neg hn]
  exact⟨fun _=>⟨hw.1,nextF_wf _ _,hw.2.2⟩,(event_ok b c bal st rq ex wd dl ev sl w hv hc hw.2.1 he hn).mono fun r w' ⟨h1,h2,h3⟩=>⟨h1,upd_cons h2,hI.upd h2 hb,fun _=>h3⟩⟩
theorem maxF_wf (a b:Int) (ha:(Lit.int .i64 a).wf=true) (hb:(Lit.int .i64 b).wf=true):(Lit.int .i64 (maxF [a,b])).wf=true:=by
 show(Lit.int .i64 (if a<b then b else a)).wf=true
 split
 ·exact hb
 ·exact ha
theorem laterGo_le:∀ (l:List Int) (s:Int),0≤s→s≤1099511627776→0≤(laterGo s l).1∧(laterGo s l).1≤1099511627776
 | [],s,h0,h1=>⟨h0,h1⟩
 | n::t,s,h0,h1=>by
  unfold laterGo
  split
  ·simp
  ·exact laterGo_le t _ (by omega) (by omega)
theorem laterF_wf (a:Int) (l:List Int):(Lit.int .i64 (laterF a l)).wf=true:=by
 have:=laterGo_le (a::l) 0 (by omega) (by omega)
 exact WalkArith.wf_i64 (by unfold laterF;omega)
theorem chg_delay {c d:Nat} {ep dy:Int} (hep:(Lit.int .i64 ep).wf=true) (hdy:(Lit.int .i64 dy).wf=true) (hF:(c,0,Value.int .i64 ep)∈F) (hF':(d,0,Value.int .i64 dy)∈F) :
  ChgRun (IC F uo) uo.toList (IF F uo) (292,#[.pointer (some ⟨c,0,none⟩),.pointer (some ⟨d,0,none⟩)]) (gDelay ep dy):=by
 refine⟨fun args w=>by go_simp,fun w b v s hI hv hb hw=>?_⟩
 obtain ⟨bal,st,sl,rq,ex,wd,dl⟩:=v
 have hc:=hI.1 _ hF
 have hd:=hI.1 _ hF'
 unfold gDelay
 by_cases hn:laterB ep [dy]=true
 ·rw[if_pos hn]
  exact⟨fun _=>⟨hw.1,hw.2.1,hw.2.2.1,hw.2.2.2.1,maxF_wf _ _ hw.2.2.2.2.1 (laterF_wf _ _),hw.2.2.2.2.2⟩,(delay_ok b c d bal st rq ex wd dl ep dy sl w hv hc hd hep hdy hn).mono fun r w' ⟨h1,h2,h3⟩=>⟨h1,upd_cons h2,hI.upd h2 hb,fun _=>h3⟩⟩
 ·rw[if_neg hn]
  exact⟨fun h=>by simp at h,(delay_no b c d bal st rq ex wd dl ep dy sl w hv hc hd hep hdy (by simpa using hn)).mono fun r w' ⟨h1,h2⟩=>⟨h1,upd_cons h2,hI.upd h2 hb,fun h=>by simp at h⟩⟩
theorem chg_mark {c:Nat} {ep:Int} (hep:(Lit.int .i64 ep).wf=true) (hF:(c,0,Value.int .i64 ep)∈F):ChgRun (IC F uo) uo.toList (IF F uo) (214,#[.pointer (some ⟨c,0,none⟩)]) (gMark ep):=by
 refine⟨fun args w=>by go_simp,fun w b v s hI hv hb hw=>?_⟩
 obtain ⟨bal,st,sl,rq,ex,wd,dl⟩:=v
 have hc:=hI.1 _ hF
 have hbc:b≠c:=fun e=>hb (by rw[e];simp[IC];exact .inl ⟨_,_,hF⟩)
 unfold gMark
 cases sl with
 | true =>
  rw[if_pos rfl]
  exact⟨fun h=>by simp at h,(mark_no b c bal st rq ex wd dl ep true w hv rfl).mono fun r w' ⟨h1,h2⟩=>⟨h1,upd_cons h2,hI.upd h2 hb,fun h=>by simp at h⟩⟩
 | false =>
  rw[if_neg (by simp)]
  have hdl:(Lit.int .i64 (-1)).wf=true:=WalkArith.wf_i64 (by omega)
  by_cases h2:st=2
  ·simp only[if_pos h2]
   exact⟨fun _=>⟨hw.1,hw.2.1,hep,hw.2.2.2.1,hw.2.2.2.2.1,hdl⟩,(mark_act b c bal st rq ex wd dl ep false w hv hc rfl (by simpa using h2) hbc).mono fun r w' ⟨h1,h2,h3⟩=>⟨h1,upd_cons h2,hI.upd h2 hb,fun _=>h3⟩⟩
  ·simp only[if_neg h2]
   exact⟨fun _=>⟨hw.1,hw.2.1,hw.2.2.1,hw.2.2.2.1,hw.2.2.2.2.1,hdl⟩,(mark_oth b c bal st rq ex wd dl ep false w hv hc rfl (by simpa using h2) hbc).mono fun r w' ⟨h1,h2,h3⟩=>⟨h1,upd_cons h2,hI.upd h2 hb,fun _=>h3⟩⟩
theorem chg_burn {c u:Nat} {pn pd:Int} (hF:(c,18,Value.int .u64 pn)∈F) (hF':(c,19,Value.int .u64 pd)∈F) (hu:uo=some u) (hne:∀ p∈F,p.1≠u)
  (hn0:0≤pn) (hn:pn≤18446744073709551615) (hd0:0≤pd) (hd:pd≤18446744073709551615) :
  ChgRun (IC F uo) uo.toList (IF F uo) (215,#[.pointer (some ⟨c,0,none⟩),.pointer (some ⟨u,0,none⟩)]) (gBurn pn pd):=by
 refine⟨fun args w=>by go_simp,fun w b v s hI hv hb hw=>?_⟩
 obtain ⟨bal,st,sl,rq,ex,wd,dl⟩:=v
 have hc:=hI.1 _ hF
 have hd':=hI.1 _ hF'
 have hcu:c≠u:=hne _ hF
 have hbu:b≠u:=fun e=>hb (by rw[e];simp[IC,hu])
 have hl:=World.block_lt_of_cell? w _ hc
 obtain ⟨hb0,hb1⟩:=hw.1
 obtain ⟨p0,p1⟩:=penF_le bal pn pd hb0 hn0
 refine⟨fun _=>⟨⟨by simp only[gBurn];omega,by simp only[gBurn] at *;omega⟩,hw.2⟩,(burn_ok b c u bal st rq ex wd dl pn pd s sl w hv hc hd' hl (hI.2 u hu) (Ne.symm hbu) (Ne.symm hcu) hcu hbu hb0 hb1 hn0 hn hd0 hd).mono fun r w' ⟨h1,h2,h3,h4⟩=>⟨h1,?_,⟨?_,fun u' hu'=>?_⟩,fun _=>h3⟩⟩
 ·exact h2.mono fun k hk _=>by
   simp at hk
   rcases hk with rfl|rfl
   ·simp
   ·simp[hu]
 ·intro p hp
  have hlp:=World.block_lt_of_cell? w _ (hI.1 p hp)
  rw[World.cell?_of_block (w:=w) (a:=⟨p.1,p.2.1,none⟩) (h2.block p.1 hlp (by
   simp
   exact⟨fun e=>hb (by rw[← e];simp[IC];exact .inl ⟨_,_,hp⟩),hne p hp⟩))]
  exact hI.1 p hp
 ·rw[hu] at hu';cases hu';exact h4
theorem chg_due {c:Nat} {ep:Int} (hF:(c,0,Value.int .i64 ep)∈F):ChgRun (IC F uo) uo.toList (IF F uo) (284,#[.pointer (some ⟨c,0,none⟩)]) (gDue ep):=by
 refine⟨fun args w=>by go_simp,fun w b v s hI hv hb hw=>?_⟩
 obtain ⟨bal,st,sl,rq,ex,wd,dl⟩:=v
 have hc:=hI.1 _ hF
 unfold gDue
 by_cases hn:ep<wd
 ·rw[if_pos hn]
  exact⟨fun h=>by simp at h,(due_no b c bal st rq ex wd dl ep sl w hv hc hn).mono fun r w' ⟨h1,h2⟩=>⟨h1,upd_cons h2,hI.upd h2 hb,fun h=>by simp at h⟩⟩
 ·rw[if_neg hn]
  exact⟨fun _=>⟨by simp,hw.2⟩,(due_ok b c bal st rq ex wd dl ep sl w hv hc hn).mono fun r w' ⟨h1,h2,h3⟩=>⟨h1,upd_cons h2,hI.upd h2 hb,fun _=>h3⟩⟩
theorem chg_request {c:Nat} {ep:Int} (hep:(Lit.int .i64 ep).wf=true) (hF:(c,0,Value.int .i64 ep)∈F):ChgRun (IC F uo) uo.toList (IF F uo) (285,#[.pointer (some ⟨c,0,none⟩)]) (gRequest ep):=by
 refine⟨fun args w=>by go_simp,fun w b v s hI hv hb hw=>?_⟩
 obtain ⟨bal,st,sl,rq,ex,wd,dl⟩:=v
 have hc:=hI.1 _ hF
 unfold gRequest
 by_cases hn:laterB ep []=true
 ·rw[if_pos hn]
  exact⟨fun _=>⟨hw.1,hw.2.1,hep,hw.2.2.2⟩,(request_ok b c bal st rq ex wd dl ep sl w hv hc hep hn).mono fun r w' ⟨h1,h2,h3⟩=>⟨h1,upd_cons h2,hI.upd h2 hb,fun _=>h3⟩⟩
 ·rw[if_neg hn]
  exact⟨fun h=>by simp at h,(request_no b c bal st rq ex wd dl ep sl w hv hc hep (by simpa using hn)).mono fun r w' ⟨h1,h2⟩=>⟨h1,upd_cons h2,hI.upd h2 hb,fun h=>by simp at h⟩⟩
theorem chg_fresh {c:Nat} {xt:Int} (hx:(Lit.int .i64 xt).wf=true) (hF:(c,0,Value.int .i64 xt)∈F):ChgRun (IC F uo) uo.toList (IF F uo) (313,#[.pointer (some ⟨c,0,none⟩)]) (gFresh xt):=by
 refine⟨fun args w=>by go_simp,fun w b v s hI hv hb hw=>?_⟩
 obtain ⟨bal,st,sl,rq,ex,wd,dl⟩:=v
 have hc:=hI.1 _ hF
 unfold gFresh
 by_cases h1:st=3
 ·by_cases h2:ex = -1
  ·rw[if_neg (by simp[h1,h2])]
   exact⟨fun _=>⟨hw.1,hw.2.1,hw.2.2.1,hx,hw.2.2.2.2⟩,(fresh_ok b c bal st rq ex wd dl xt sl w hv hc (by simpa using h1) (by simpa using h2)).mono fun r w' ⟨h1,h2,h3⟩=>⟨h1,upd_cons h2,hI.upd h2 hb,fun _=>h3⟩⟩
  ·rw[if_pos (.inr h2)]
   exact⟨fun h=>by simp at h,(fresh_no2 b c bal st rq ex wd dl sl w hv (by simpa using h1) (by simpa using h2)).mono fun r w' ⟨h1,h2⟩=>⟨h1,upd_cons h2,hI.upd h2 hb,fun h=>by simp at h⟩⟩
 ·rw[if_pos (.inl h1)]
  exact⟨fun h=>by simp at h,(fresh_no1 b c bal st rq ex wd dl sl w hv (by simpa using h1)).mono fun r w' ⟨h1,h2⟩=>⟨h1,upd_cons h2,hI.upd h2 hb,fun h=>by simp at h⟩⟩
end
end
section
open Go.RowKit
set_option maxHeartbeats 400000 in
theorem event_any (ev:Int) (w:World):Calls Tryz.prog 218 #[.int .i64 ev] w fun r w'=>r=.returned (.func (.func 291) #[] #[.pointer (some ⟨w.heap.size,0,none⟩)])∧w.alloc (.cells #[.int .i64 ev] 3)=w':=by
 go_enter Tryz.func218,Tryz.ntmps218
 go_wp2
 go_ret
 exact⟨rfl,rfl⟩
set_option maxHeartbeats 400000 in
theorem delay_any (ep dy:Int) (w:World):Calls Tryz.prog 219 #[.int .i64 ep,.int .i64 dy] w fun r w'=>r=.returned (.func (.func 292) #[] #[.pointer (some ⟨w.heap.size,0,none⟩),.pointer (some ⟨w.heap.size+1,0,none⟩)])∧(w.alloc (.cells #[.int .i64 ep] 3)).alloc (.cells #[.int .i64 dy] 3)=w':=by
 go_enter Tryz.func219,Tryz.ntmps219
 go_wp2
 go_ret
 exact⟨rfl,rfl⟩
theorem apply_IF (F:List (Nat × Nat × Value)) (uo:Option Nat) (ps:List (FuncId × Array Value)) (gs:List (Val→Int→Int × Val × Int)) (hc:Chgs (IC F uo) uo.toList (IF F uo) ps gs) (v:Val) (s:Int) (b cap:Nat) (w:World) (hv:v.wf)
  (hI:IF F uo s w) (hsl:∀ j (h:j<ps.length),(b,j,Value.func (.func ps[j].1) #[] ps[j].2)∈F) (hlen:ps.length≤1000) :
  Calls Tryz.prog 217 #[.agg v.cells,.slice (some ⟨b,0,none⟩) ps.length cap] w fun r w'=>r=.returned (.tuple #[.agg (foldG gs v s).2.1.cells,.int .i64 (foldG gs v s).1])∧Upd uo.toList w w'∧IF F uo (foldG gs v s).2.2 w':=by
 have hlt:∀ c∈IC F uo,c<w.heap.size:=by
  intro c hc'
  simp only[IC,List.mem_append,List.mem_map,Option.mem_toList] at hc'
  rcases hc' with⟨p,hp,rfl⟩|hu
  ·exact World.block_lt_of_cell? w _ (hI.1 p hp)
  ·exact World.block_lt_of_cell? w _ (hI.2 c hu).1
 exact apply_any (IC F uo) uo.toList (IF F uo) ps gs hc v s b 0 cap w hv hI (fun _ _ _ h hb=>h.below hb) (fun s wr i x h=>h.set (fun hm=>by have:=hlt _ hm;omega) i x) hlt (fun c hc'=>hlt c (by simp only[IC,List.mem_append];exact .inr hc'))
  (fun s w h j hj=>by rw[Nat.zero_add];exact h.1 _ (hsl j hj)) hlen
def payR (v:Val) (ep:Int):Int × Val × Int:=foldG [gEvent 5,gDue ep] v 0
theorem pay_apply (W:World) (v:Val) (hv:v.wf) (ep:Int) (bs c he:Nat) (k1:W.cell? ⟨bs,0,none⟩=some (.func (.func 291) #[] #[.pointer (some ⟨c,0,none⟩)])) (k2:W.cell? ⟨bs,1,none⟩=some (.func (.func 284) #[] #[.pointer (some ⟨he,0,none⟩)]))
  (k3:W.cell? ⟨c,0,none⟩=some (.int .i64 5)) (k4:W.cell? ⟨he,0,none⟩=some (.int .i64 ep)) :
  Calls Tryz.prog 217 #[.agg v.cells,.slice (some ⟨bs,0,none⟩) 2 2] W fun r w'=>r=.returned (.tuple #[.agg (payR v ep).2.1.cells,.int .i64 (payR v ep).1])∧Upd [bs,c,he] W w':=by
 have h:=apply_IF [(bs,0,.func (.func 291) #[] #[.pointer (some ⟨c,0,none⟩)]),(bs,1,.func (.func 284) #[] #[.pointer (some ⟨he,0,none⟩)]),(c,0,.int .i64 5),(he,0,.int .i64 ep)] none
  [(291,#[.pointer (some ⟨c,0,none⟩)]),(284,#[.pointer (some ⟨he,0,none⟩)])] [gEvent 5,gDue ep] ⟨chg_event (wf_small _ (by omega) (by omega)) (by simp),chg_due (by simp),trivial⟩ v 0 bs 2 W hv
  ⟨by simp[k1,k2,k3,k4],by simp⟩ (fun j hj=>by
   have:j=0∨j=1:=by simp at hj;omega
   rcases this with rfl|rfl<;>simp) (by simp)
 exact h.mono fun r w' ⟨h1,h2,_⟩=>⟨h1,h2.mono fun k hk _=>by simp at hk⟩
theorem BlockIs.thru {w w':World} {S:List Nat} {b:Nat} {c:Array Value} {t:TypeId} {G:Prop} (h:BlockIs w b c t) (hu:Upd S w w') (hb:b∉S) (k:BlockIs w' b c t→G):G:=k (h.upd hu hb)
theorem set7 {w:World} {b:Nat} {x0 x1 x2 x3 x4 x5 x6 y0 y1 y2 y3 y4 y5 y6:Value} {t:TypeId} (h:BlockIs w b #[x0,x1,x2,x3,x4,x5,x6] t) :
  BlockIs (((((((w.setCell ⟨b,0,none⟩ y0).setCell ⟨b,1,none⟩ y1).setCell ⟨b,2,none⟩ y2).setCell ⟨b,3,none⟩ y3).setCell ⟨b,4,none⟩ y4).setCell ⟨b,5,none⟩ y5).setCell ⟨b,6,none⟩ y6) b #[y0,y1,y2,y3,y4,y5,y6] t:=by
 have h':=((((((h.set 0 y0).set 1 y1).set 2 y2).set 3 y3).set 4 y4).set 5 y5).set 6 y6
 simpa using h'
theorem BlockIs.other' {w:World} {b:Nat} {c:Array Value} {t:TypeId} {b':Nat} (hne:b≠b') (h:BlockIs w b c t) (i:Nat) (v:Value):BlockIs (w.setCell ⟨b',i,none⟩ v) b c t:=h.other hne i v
theorem Upd.thruC {w w':World} {S:List Nat} {b i:Nat} {v:Value} {G:Prop} (hc:w.cell? ⟨b,i,none⟩=some v) (hu:Upd S w w') (hb:b∉S) (k:w'.cell? ⟨b,i,none⟩=some v→G):G :=
 k ((World.cell?_of_block (w:=w) (a:=⟨b,i,none⟩) (hu.block b (World.block_lt_of_cell? w _ hc) hb)).trans hc)
set_option maxHeartbeats 4000000 in
theorem pay_any (v:Val) (hv:v.wf) (ep:Int) (w:World) :
  Calls Tryz.prog 205 #[.agg v.cells,.int .i64 ep] w fun r w'=>r=.returned (.tuple #[.agg (payR v ep).2.1.cells,.int .u64 (if (payR v ep).1=0 then v.bal else 0),.int .i64 (payR v ep).1])∧Below w.heap.size w w':=by
 have HA:=fun W bs c he k1 k2 k3 k4=>pay_apply W v hv ep bs c he k1 k2 k3 k4
 obtain ⟨bal,st,sl,rq,ex,wd,dl⟩:=v
 generalize payR ⟨bal,st,sl,rq,ex,wd,dl⟩ ep=R at *
 obtain ⟨code,⟨bal',st',sl',rq',ex',wd',dl'⟩,s'⟩:=R
 simp only[Val.cells] at HA
 have HAA:=Lib.hid HA
 clear HA hv
 unfold Val.cells
 simp only[]
 go_enter Tryz.func205,Tryz.ntmps205
 go_upto_region 2 with fail
 go_cut [8,9] (fun p c wx=>∃ o,p=.pointer (some ⟨o,0,none⟩)∧c=.int .i64 code∧w.heap.size+1+1<o∧BlockIs wx o #[.int .u64 bal',.int .i64 st',.bool sl',.int .i64 rq',.int .i64 ex',.int .i64 wd',.int .i64 dl'] 48∧BlockIs wx (w.heap.size+1+1) #[.int .u64 0,.int .i64 0,.bool false,.int .i64 0,.int .i64 0,.int .i64 0,.int .i64 0] 48∧BlockIs wx w.heap.size #[.int .u64 bal,.int .i64 st,.bool sl,.int .i64 rq,.int .i64 ex,.int .i64 wd,.int .i64 dl] 48∧Below w.heap.size w wx)
 case first =>
  go_region_held3 (fun w'=>w'.cell? ⟨w.heap.size,0,none⟩=some (.int .u64 bal)∧w'.cell? ⟨w.heap.size,1,none⟩=some (.int .i64 st)∧w'.cell? ⟨w.heap.size,2,none⟩=some (.bool sl)∧w'.cell? ⟨w.heap.size,3,none⟩=some (.int .i64 rq)∧w'.cell? ⟨w.heap.size,4,none⟩=some (.int .i64 ex)∧w'.cell? ⟨w.heap.size,5,none⟩=some (.int .i64 wd)∧w'.cell? ⟨w.heap.size,6,none⟩=some (.int .i64 dl)) (((try dsimp only);(repeat' apply And.intro)<;>go_simp)) (first
   | (go_at_call 218;refine(event_any _ _).mono ?_;rintro r w1 ⟨rfl,rfl⟩)
   | (go_at_call 217;first|(refine(HAA.out _ _ (w.heap.size+3) (w.heap.size+1) ?_ ?_ ?_ ?_).mono ?_;(focus (go_simp;done));(focus (go_simp;done));(focus (go_simp;done));(focus (go_simp;done));rintro r w1 ⟨rfl,hu⟩;refine BlockIs.thru (b:=w.heap.size) (c:=#[.int .u64 bal,.int .i64 st,.bool sl,.int .i64 rq,.int .i64 ex,.int .i64 wd,.int .i64 dl]) (t:=48) ?_ hu ?_ (fun gv=>?_);(focus (repeat (first|(with_reducible refine BlockIs.drew ?_)|((with_reducible refine BlockIs.new' ?_);(simp<;>omega))|(with_reducible refine BlockIs.alloc ?_ _)));done);(focus (simp<;>omega));refine BlockIs.thru (b:=w.heap.size+1+1) (c:=#[.int .u64 0,.int .i64 0,.bool false,.int .i64 0,.int .i64 0,.int .i64 0,.int .i64 0]) (t:=48) ?_ hu ?_ (fun gz=>?_);(focus (repeat (first|(with_reducible refine BlockIs.drew ?_)|((with_reducible refine BlockIs.new' ?_);(simp<;>omega))|(with_reducible refine BlockIs.alloc ?_ _)));done);(focus (simp<;>omega));(first|(refine BlockIs.thru (b:=w.heap.size+1+1+1) (c:=#[.int .u64 0,.int .i64 0,.bool false,.int .i64 0,.int .i64 0,.int .i64 0,.int .i64 0]) (t:=48) ?_ hu ?_ (fun go=>?_);(focus (repeat (first|(with_reducible refine BlockIs.drew ?_)|((with_reducible refine BlockIs.new' ?_);(simp<;>omega))|(with_reducible refine BlockIs.alloc ?_ _)));done);(focus (simp<;>omega));obtain ⟨o0,o1,o2,o3,o4,o5,o6,p0,p1,p2,p3,p4,p5,p6⟩:=vfacts go;have hso:=go.lt)|(refine BlockIs.thru (b:=w.heap.size+1+1+1+1) (c:=#[.int .u64 0,.int .i64 0,.bool false,.int .i64 0,.int .i64 0,.int .i64 0,.int .i64 0]) (t:=48) ?_ hu ?_ (fun go=>?_);(focus (repeat (first|(with_reducible refine BlockIs.drew ?_)|((with_reducible refine BlockIs.new' ?_);(simp<;>omega))|(with_reducible refine BlockIs.alloc ?_ _)));done);(focus (simp<;>omega));obtain ⟨o0,o1,o2,o3,o4,o5,o6,p0,p1,p2,p3,p4,p5,p6⟩:=vfacts go;have hso:=go.lt)|(refine BlockIs.thru (b:=w.heap.size+1+1+1+1+1) (c:=#[.int .u64 0,.int .i64 0,.bool false,.int .i64 0,.int .i64 0,.int .i64 0,.int .i64 0]) (t:=48) ?_ hu ?_ (fun go=>?_);(focus (repeat (first|(with_reducible refine BlockIs.drew ?_)|((with_reducible refine BlockIs.new' ?_);(simp<;>omega))|(with_reducible refine BlockIs.alloc ?_ _)));done);(focus (simp<;>omega));obtain ⟨o0,o1,o2,o3,o4,o5,o6,p0,p1,p2,p3,p4,p5,p6⟩:=vfacts go;have hso:=go.lt)|skip);obtain ⟨v0,v1,v2,v3,v4,v5,v6,_,_,_,_,_,_,_⟩:=vfacts gv;have hsz:=gz.lt;have hsv:=gv.lt;have hbw:Below w.heap.size w w1:=Below.trans (by(repeat (with_reducible first|exact Below.refl _ _|refine Below.drew ?_|refine Below.alloc ?_ (by first|omega|(simp<;>omega)) _))) (hu.below (by first|omega|(simp<;>omega)) (by first|(simp<;>omega))))|(refine(HAA.out _ _ (w.heap.size+4) (w.heap.size+1) ?_ ?_ ?_ ?_).mono ?_;(focus (go_simp;done));(focus (go_simp;done));(focus (go_simp;done));(focus (go_simp;done));rintro r w1 ⟨rfl,hu⟩;refine BlockIs.thru (b:=w.heap.size) (c:=#[.int .u64 bal,.int .i64 st,.bool sl,.int .i64 rq,.int .i64 ex,.int .i64 wd,.int .i64 dl]) (t:=48) ?_ hu ?_ (fun gv=>?_);(focus (repeat (first|(with_reducible refine BlockIs.drew ?_)|((with_reducible refine BlockIs.new' ?_);(simp<;>omega))|(with_reducible refine BlockIs.alloc ?_ _)));done);(focus (simp<;>omega));refine BlockIs.thru (b:=w.heap.size+1+1) (c:=#[.int .u64 0,.int .i64 0,.bool false,.int .i64 0,.int .i64 0,.int .i64 0,.int .i64 0]) (t:=48) ?_ hu ?_ (fun gz=>?_);(focus (repeat (first|(with_reducible refine BlockIs.drew ?_)|((with_reducible refine BlockIs.new' ?_);(simp<;>omega))|(with_reducible refine BlockIs.alloc ?_ _)));done);(focus (simp<;>omega));(first|(refine BlockIs.thru (b:=w.heap.size+1+1+1) (c:=#[.int .u64 0,.int .i64 0,.bool false,.int .i64 0,.int .i64 0,.int .i64 0,.int .i64 0]) (t:=48) ?_ hu ?_ (fun go=>?_);(focus (repeat (first|(with_reducible refine BlockIs.drew ?_)|((with_reducible refine BlockIs.new' ?_);(simp<;>omega))|(with_reducible refine BlockIs.alloc ?_ _)));done);(focus (simp<;>omega));obtain ⟨o0,o1,o2,o3,o4,o5,o6,p0,p1,p2,p3,p4,p5,p6⟩:=vfacts go;have hso:=go.lt)|(refine BlockIs.thru (b:=w.heap.size+1+1+1+1) (c:=#[.int .u64 0,.int .i64 0,.bool false,.int .i64 0,.int .i64 0,.int .i64 0,.int .i64 0]) (t:=48) ?_ hu ?_ (fun go=>?_);(focus (repeat (first|(with_reducible refine BlockIs.drew ?_)|((with_reducible refine BlockIs.new' ?_);(simp<;>omega))|(with_reducible refine BlockIs.alloc ?_ _)));done);(focus (simp<;>omega));obtain ⟨o0,o1,o2,o3,o4,o5,o6,p0,p1,p2,p3,p4,p5,p6⟩:=vfacts go;have hso:=go.lt)|(refine BlockIs.thru (b:=w.heap.size+1+1+1+1+1) (c:=#[.int .u64 0,.int .i64 0,.bool false,.int .i64 0,.int .i64 0,.int .i64 0,.int .i64 0]) (t:=48) ?_ hu ?_ (fun go=>?_);(focus (repeat (first|(with_reducible refine BlockIs.drew ?_)|((with_reducible refine BlockIs.new' ?_);(simp<;>omega))|(with_reducible refine BlockIs.alloc ?_ _)));done);(focus (simp<;>omega));obtain ⟨o0,o1,o2,o3,o4,o5,o6,p0,p1,p2,p3,p4,p5,p6⟩:=vfacts go;have hso:=go.lt)|skip);obtain ⟨v0,v1,v2,v3,v4,v5,v6,_,_,_,_,_,_,_⟩:=vfacts gv;have hsz:=gz.lt;have hsv:=gv.lt;have hbw:Below w.heap.size w w1:=Below.trans (by(repeat (with_reducible first|exact Below.refl _ _|refine Below.drew ?_|refine Below.alloc ?_ (by first|omega|(simp<;>omega)) _))) (hu.below (by first|omega|(simp<;>omega)) (by first|(simp<;>omega))))))
  all_goals(go_wp2_with fail;go_meet;refine⟨_,rfl,rfl,?_,?_,?_,?_,?_⟩;(focus omega);(focus ((repeat (with_reducible first|exact go|refine BlockIs.drew ?_|exact set7 go|exact BlockIs.new _ _ _));done));(focus ((repeat (with_reducible first|exact gv|exact gz|refine BlockIs.drew ?_|refine BlockIs.other' (by omega) ?_ _ _|refine BlockIs.alloc ?_ _));done));(focus ((repeat (with_reducible first|exact gv|exact gz|refine BlockIs.drew ?_|refine BlockIs.other' (by omega) ?_ _ _|refine BlockIs.alloc ?_ _));done));(focus ((repeat (with_reducible first|exact hbw|refine Below.drew ?_|refine Below.setCell ?_ (by first|omega|(simp<;>omega)) _|refine Below.alloc ?_ (by first|omega|(simp<;>omega)) _));done)))
 case rest =>
  obtain ⟨o,rfl,rfl,ho,hbo,hbz,hbv,hbel⟩:=hcut
  obtain ⟨o0,o1,o2,o3,o4,o5,o6,_,_,_,_,_,_,_⟩:=vfacts hbo
  obtain ⟨v0,v1,v2,v3,v4,v5,v6,_,_,_,_,_,_,_⟩:=vfacts hbv
  obtain ⟨z0,z1,z2,z3,z4,z5,z6,f0,f1,f2,f3,f4,f5,f6⟩:=vfacts hbz
  clear HAA
  by_cases h0:code=0
  ·subst h0
   go_wp2
   go_region
   all_goals(go_wp2;refine bodyPost_ret (v:=.tuple #[.agg #[.int .u64 bal',.int .i64 st',.bool sl',.int .i64 rq',.int .i64 ex',.int .i64 wd',.int .i64 dl'],.int .u64 bal,.int .i64 0]) (by simp[results,Tryz.results205,go_sem, *]) rfl ⟨rfl,?_⟩;(focus ((repeat (with_reducible first|exact hbel|refine Below.drew ?_|refine Below.setCell ?_ (by first|omega|(simp<;>omega)) _|refine Below.alloc ?_ (by first|omega|(simp<;>omega)) _));done)))
  ·have hd:decide (code=0)=false:=by simpa using h0
   go_wp2
   refine bodyPost_ret (v:=.tuple #[.agg #[.int .u64 bal',.int .i64 st',.bool sl',.int .i64 rq',.int .i64 ex',.int .i64 wd',.int .i64 dl'],.int .u64 0,.int .i64 code]) (by simp[results,Tryz.results205,go_sem, *]) rfl ⟨by simp[h0],?_⟩
   (focus ((repeat (with_reducible first|exact hbel|refine Below.drew ?_|refine Below.setCell ?_ (by first|omega|(simp<;>omega)) _|refine Below.alloc ?_ (by first|omega|(simp<;>omega)) _));done))
end
section
open Go.RowKit
def accR (v:Val) (ep:Int):Int × Val × Int:=foldG [gRequest ep,gEvent 2] v 0
theorem acc_apply (W:World) (v:Val) (hv:v.wf) (ep:Int) (hep:(Lit.int .i64 ep).wf=true) (bs c he:Nat) (k1:W.cell? ⟨bs,0,none⟩=some (.func (.func 285) #[] #[.pointer (some ⟨he,0,none⟩)])) (k2:W.cell? ⟨bs,1,none⟩=some (.func (.func 291) #[] #[.pointer (some ⟨c,0,none⟩)]))
  (k3:W.cell? ⟨c,0,none⟩=some (.int .i64 2)) (k4:W.cell? ⟨he,0,none⟩=some (.int .i64 ep)) :
  Calls Tryz.prog 217 #[.agg v.cells,.slice (some ⟨bs,0,none⟩) 2 2] W fun r w'=>r=.returned (.tuple #[.agg (accR v ep).2.1.cells,.int .i64 (accR v ep).1])∧Upd [bs,c,he] W w':=by
 have h:=apply_IF [(bs,0,.func (.func 285) #[] #[.pointer (some ⟨he,0,none⟩)]),(bs,1,.func (.func 291) #[] #[.pointer (some ⟨c,0,none⟩)]),(c,0,.int .i64 2),(he,0,.int .i64 ep)] none
  [(285,#[.pointer (some ⟨he,0,none⟩)]),(291,#[.pointer (some ⟨c,0,none⟩)])] [gRequest ep,gEvent 2] ⟨chg_request hep (by simp),chg_event (wf_small _ (by omega) (by omega)) (by simp),trivial⟩ v 0 bs 2 W hv
  ⟨by simp[k1,k2,k3,k4],by simp⟩ (fun j hj=>by
   have:j=0∨j=1:=by simp at hj;omega
   rcases this with rfl|rfl<;>simp) (by simp)
 exact h.mono fun r w' ⟨h1,h2,_⟩=>⟨h1,h2.mono fun k hk _=>by simp at hk⟩
set_option maxHeartbeats 4000000 in
theorem accept_any (v:Val) (hv:v.wf) (ep:Int) (hep:(Lit.int .i64 ep).wf=true) (w:World) :
  Calls Tryz.prog 210 #[.agg v.cells,.int .i64 ep] w fun r w'=>r=.returned (.tuple #[.agg (accR v ep).2.1.cells,.int .i64 (accR v ep).1])∧Below w.heap.size w w':=by
 have HA:=fun W bs c he k1 k2 k3 k4=>acc_apply W v hv ep hep bs c he k1 k2 k3 k4
 obtain ⟨bal,st,sl,rq,ex,wd,dl⟩:=v
 generalize accR ⟨bal,st,sl,rq,ex,wd,dl⟩ ep=R at *
 obtain ⟨code,⟨bal',st',sl',rq',ex',wd',dl'⟩,s'⟩:=R
 simp only[Val.cells] at HA
 have HAA:=Lib.hid HA
 clear HA hv hep
 unfold Val.cells
 simp only[]
 go_enter Tryz.func210,Tryz.ntmps210
 go_upto_region 2 with fail
 go_cut [5] (fun c wx=>c=.int .i64 code∧BlockIs wx (w.heap.size+1+1) #[.int .u64 bal',.int .i64 st',.bool sl',.int .i64 rq',.int .i64 ex',.int .i64 wd',.int .i64 dl'] 48∧Below w.heap.size w wx)
 case first =>
  go_region_held3 (fun w'=>w'.cell? ⟨w.heap.size,0,none⟩=some (.int .u64 bal)∧w'.cell? ⟨w.heap.size,1,none⟩=some (.int .i64 st)∧w'.cell? ⟨w.heap.size,2,none⟩=some (.bool sl)∧w'.cell? ⟨w.heap.size,3,none⟩=some (.int .i64 rq)∧w'.cell? ⟨w.heap.size,4,none⟩=some (.int .i64 ex)∧w'.cell? ⟨w.heap.size,5,none⟩=some (.int .i64 wd)∧w'.cell? ⟨w.heap.size,6,none⟩=some (.int .i64 dl)) (((try dsimp only);(repeat' apply And.intro)<;>go_simp)) (first
   | (go_at_call 218;refine(event_any _ _).mono ?_;rintro r w1 ⟨rfl,rfl⟩)
   | (go_at_call 217;(refine(HAA.out _ _ (w.heap.size+3) (w.heap.size+1) ?_ ?_ ?_ ?_).mono ?_;(focus (go_simp;done));(focus (go_simp;done));(focus (go_simp;done));(focus (go_simp;done));rintro r w1 ⟨rfl,hu⟩;refine BlockIs.thru (b:=w.heap.size+1+1) (c:=#[.int .u64 0,.int .i64 0,.bool false,.int .i64 0,.int .i64 0,.int .i64 0,.int .i64 0]) (t:=48) ?_ hu ?_ (fun gz=>?_);(focus (repeat (first|(with_reducible refine BlockIs.drew ?_)|((with_reducible refine BlockIs.new' ?_);(simp<;>omega))|(with_reducible refine BlockIs.alloc ?_ _)));done);(focus (simp<;>omega));obtain ⟨o0,o1,o2,o3,o4,o5,o6,p0,p1,p2,p3,p4,p5,p6⟩:=vfacts gz;refine BlockIs.thru (b:=w.heap.size) (c:=#[.int .u64 bal,.int .i64 st,.bool sl,.int .i64 rq,.int .i64 ex,.int .i64 wd,.int .i64 dl]) (t:=48) ?_ hu ?_ (fun gv=>?_);(focus (repeat (first|(with_reducible refine BlockIs.drew ?_)|((with_reducible refine BlockIs.new' ?_);(simp<;>omega))|(with_reducible refine BlockIs.alloc ?_ _)));done);(focus (simp<;>omega));obtain ⟨v0,v1,v2,v3,v4,v5,v6,_,_,_,_,_,_,_⟩:=vfacts gv;have hsz:=gz.lt;have hsv:=gv.lt;have hbw:Below w.heap.size w w1:=Below.trans (by(repeat (with_reducible first|exact Below.refl _ _|refine Below.drew ?_|refine Below.alloc ?_ (by first|omega|(simp<;>omega)) _))) (hu.below (by first|omega|(simp<;>omega)) (by first|(simp<;>omega))))))
  all_goals(go_wp2_with fail;go_meet;refine⟨rfl,?_,?_⟩;(focus ((repeat (with_reducible first|exact gz|refine BlockIs.drew ?_|exact set7 gz));done));(focus ((repeat (with_reducible first|exact hbw|refine Below.drew ?_|refine Below.setCell ?_ (by first|omega|(simp<;>omega)) _|refine Below.alloc ?_ (by first|omega|(simp<;>omega)) _));done)))
 case rest =>
  obtain ⟨rfl,hbz,hbel⟩:=hcut
  obtain ⟨z0,z1,z2,z3,z4,z5,z6,f0,f1,f2,f3,f4,f5,f6⟩:=vfacts hbz
  clear HAA
  go_wp2
  refine bodyPost_ret (v:=.tuple #[.agg #[.int .u64 bal',.int .i64 st',.bool sl',.int .i64 rq',.int .i64 ex',.int .i64 wd',.int .i64 dl'],.int .i64 code]) (by simp[results,Tryz.results210,go_sem, *]) rfl ⟨rfl,?_⟩
  (focus ((repeat (with_reducible first|exact hbel|refine Below.drew ?_|refine Below.setCell ?_ (by first|omega|(simp<;>omega)) _|refine Below.alloc ?_ (by first|omega|(simp<;>omega)) _));done))
def asgR (v:Val) (xt dy:Int):Int × Val × Int:=foldG [gFresh xt,gDelay xt dy] v 0
theorem asg_apply (W:World) (v:Val) (hv:v.wf) (xt dy:Int) (hxt:(Lit.int .i64 xt).wf=true) (hdy:(Lit.int .i64 dy).wf=true) (bs c d he:Nat) (k1:W.cell? ⟨bs,0,none⟩=some (.func (.func 313) #[] #[.pointer (some ⟨he,0,none⟩)])) (k2:W.cell? ⟨bs,1,none⟩=some (.func (.func 292) #[] #[.pointer (some ⟨c,0,none⟩),.pointer (some ⟨d,0,none⟩)]))
  (k3:W.cell? ⟨c,0,none⟩=some (.int .i64 xt)) (k4:W.cell? ⟨d,0,none⟩=some (.int .i64 dy)) (k5:W.cell? ⟨he,0,none⟩=some (.int .i64 xt)) :
  Calls Tryz.prog 217 #[.agg v.cells,.slice (some ⟨bs,0,none⟩) 2 2] W fun r w'=>r=.returned (.tuple #[.agg (asgR v xt dy).2.1.cells,.int .i64 (asgR v xt dy).1])∧Upd [] W w':=by
 have h:=apply_IF [(bs,0,.func (.func 313) #[] #[.pointer (some ⟨he,0,none⟩)]),(bs,1,.func (.func 292) #[] #[.pointer (some ⟨c,0,none⟩),.pointer (some ⟨d,0,none⟩)]),(c,0,.int .i64 xt),(d,0,.int .i64 dy),(he,0,.int .i64 xt)] none
  [(313,#[.pointer (some ⟨he,0,none⟩)]),(292,#[.pointer (some ⟨c,0,none⟩),.pointer (some ⟨d,0,none⟩)])] [gFresh xt,gDelay xt dy] ⟨chg_fresh hxt (by simp),chg_delay hxt hdy (c:=c) (d:=d) (by simp) (by simp),trivial⟩ v 0 bs 2 W hv
  ⟨by simp[k1,k2,k3,k4,k5],by simp⟩ (fun j hj=>by
   have:j=0∨j=1:=by simp at hj;omega
   rcases this with rfl|rfl<;>simp) (by simp)
 exact h.mono fun r w' ⟨h1,h2,_⟩=>⟨h1,h2.mono fun k hk _=>by simp at hk⟩
set_option maxHeartbeats 4000000 in
theorem assign_any (v:Val) (hv:v.wf) (xt:Int) (hxt:(Lit.int .i64 xt).wf=true) (cf:Cfg) (hdy:(Lit.int .i64 cf.unbonding).wf=true) (w:World) :
  Calls Tryz.prog 274 #[.agg v.cells,.int .i64 xt,.agg cf.cells] w fun r w'=>r=.returned (.tuple #[.agg (asgR v xt cf.unbonding).2.1.cells,.int .i64 (asgR v xt cf.unbonding).1])∧Below w.heap.size w w':=by
 obtain ⟨k0,k1,k2,k3,k4,k5,k6,k7,k8,k9,dy,k11,k12,k13,k14,k15,k16,k17,k18,k19⟩:=cf
 simp only[] at hdy
 have HA:=fun W bs c d he k1 k2 k3 k4 k5=>asg_apply W v hv xt dy hxt hdy bs c d he k1 k2 k3 k4 k5
 obtain ⟨bal,st,sl,rq,ex,wd,dl⟩:=v
 simp only[]
 generalize asgR ⟨bal,st,sl,rq,ex,wd,dl⟩ xt dy=R at *
 obtain ⟨code,⟨bal',st',sl',rq',ex',wd',dl'⟩,s'⟩:=R
 simp only[Val.cells] at HA
 have HAA:=Lib.hid HA
 clear HA hv hxt hdy
 unfold Val.cells Cfg.cells
 simp only[]
 go_enter Tryz.func274,Tryz.ntmps274
 go_upto_region 2 with fail
 go_cut [7] (fun c wx=>c=.int .i64 code∧BlockIs wx (w.heap.size+1+1+1) #[.int .u64 bal',.int .i64 st',.bool sl',.int .i64 rq',.int .i64 ex',.int .i64 wd',.int .i64 dl'] 48∧Below w.heap.size w wx)
 case first =>
  go_region_held3 (fun w'=>w'.cell? ⟨w.heap.size,0,none⟩=some (.int .u64 bal)∧w'.cell? ⟨w.heap.size,1,none⟩=some (.int .i64 st)∧w'.cell? ⟨w.heap.size,2,none⟩=some (.bool sl)∧w'.cell? ⟨w.heap.size,3,none⟩=some (.int .i64 rq)∧w'.cell? ⟨w.heap.size,4,none⟩=some (.int .i64 ex)∧w'.cell? ⟨w.heap.size,5,none⟩=some (.int .i64 wd)∧w'.cell? ⟨w.heap.size,6,none⟩=some (.int .i64 dl)∧w'.cell? ⟨w.heap.size+1,0,none⟩=some (.int .i64 xt)∧w'.cell? ⟨w.heap.size+2,10,none⟩=some (.int .i64 dy)) (((try dsimp only);(repeat' apply And.intro)<;>go_simp)) (first
   | (go_at_call 219;refine(delay_any _ _ _).mono ?_;rintro r w1 ⟨rfl,rfl⟩)
   | (go_at_call 217;(refine(HAA.out _ _ (w.heap.size+4) (w.heap.size+5) (w.heap.size+1) ?_ ?_ ?_ ?_ ?_).mono ?_;(focus (go_simp;done));(focus (go_simp;done));(focus (go_simp;done));(focus (go_simp;done));(focus (go_simp;done));rintro r w1 ⟨rfl,hu⟩;refine Upd.thruC (b:=w.heap.size+1) (i:=0) (v:=.int .i64 xt) ?_ hu ?_ (fun q1=>?_);(focus (go_simp;done));(focus (simp<;>omega));refine Upd.thruC (b:=w.heap.size+2) (i:=10) (v:=.int .i64 dy) ?_ hu ?_ (fun q2=>?_);(focus (go_simp;done));(focus (simp<;>omega));refine BlockIs.thru (b:=w.heap.size+1+1+1) (c:=#[.int .u64 0,.int .i64 0,.bool false,.int .i64 0,.int .i64 0,.int .i64 0,.int .i64 0]) (t:=48) ?_ hu ?_ (fun gz=>?_);(focus (repeat (first|(with_reducible refine BlockIs.drew ?_)|((with_reducible refine BlockIs.new' ?_);(simp<;>omega))|(with_reducible refine BlockIs.alloc ?_ _)));done);(focus (simp<;>omega));obtain ⟨o0,o1,o2,o3,o4,o5,o6,p0,p1,p2,p3,p4,p5,p6⟩:=vfacts gz;refine BlockIs.thru (b:=w.heap.size) (c:=#[.int .u64 bal,.int .i64 st,.bool sl,.int .i64 rq,.int .i64 ex,.int .i64 wd,.int .i64 dl]) (t:=48) ?_ hu ?_ (fun gv=>?_);(focus (repeat (first|(with_reducible refine BlockIs.drew ?_)|((with_reducible refine BlockIs.new' ?_);(simp<;>omega))|(with_reducible refine BlockIs.alloc ?_ _)));done);(focus (simp<;>omega));obtain ⟨v0,v1,v2,v3,v4,v5,v6,_,_,_,_,_,_,_⟩:=vfacts gv;have hsz:=gz.lt;have hsv:=gv.lt;have hbw:Below w.heap.size w w1:=Below.trans (by(repeat (with_reducible first|exact Below.refl _ _|refine Below.drew ?_|refine Below.alloc ?_ (by first|omega|(simp<;>omega)) _))) (hu.below (by first|omega|(simp<;>omega)) (by first|(simp<;>omega))))))
  all_goals(go_wp2_with fail;go_meet;refine⟨rfl,?_,?_⟩;(focus ((repeat (with_reducible first|exact gz|refine BlockIs.drew ?_|exact set7 gz));done));(focus ((repeat (with_reducible first|exact hbw|refine Below.drew ?_|refine Below.setCell ?_ (by first|omega|(simp<;>omega)) _|refine Below.alloc ?_ (by first|omega|(simp<;>omega)) _));done)))
 case rest =>
  obtain ⟨rfl,hbz,hbel⟩:=hcut
  obtain ⟨z0,z1,z2,z3,z4,z5,z6,f0,f1,f2,f3,f4,f5,f6⟩:=vfacts hbz
  clear HAA
  go_wp2
  refine bodyPost_ret (v:=.tuple #[.agg #[.int .u64 bal',.int .i64 st',.bool sl',.int .i64 rq',.int .i64 ex',.int .i64 wd',.int .i64 dl'],.int .i64 code]) (by simp[results,Tryz.results274,go_sem, *]) rfl ⟨rfl,?_⟩
  (focus ((repeat (with_reducible first|exact hbel|refine Below.drew ?_|refine Below.setCell ?_ (by first|omega|(simp<;>omega)) _|refine Below.alloc ?_ (by first|omega|(simp<;>omega)) _));done))
end
section
open Go.RowKit
def slaR (v:Val) (ep dy pn pd:Int):Int × Val × Int:=foldG [gMark ep,gEvent 7,gDelay ep dy,gBurn pn pd] v 0
theorem sla_apply (W:World) (v:Val) (hv:v.wf) (ep dy pn pd:Int) (hep:(Lit.int .i64 ep).wf=true) (hdy:(Lit.int .i64 dy).wf=true) (hn0:0≤pn) (hn:pn≤18446744073709551615) (hd0:0≤pd) (hd:pd≤18446744073709551615)
  (bs c d e he hc u:Nat) (k1:W.cell? ⟨bs,0,none⟩=some (.func (.func 214) #[] #[.pointer (some ⟨he,0,none⟩)])) (k2:W.cell? ⟨bs,1,none⟩=some (.func (.func 291) #[] #[.pointer (some ⟨c,0,none⟩)]))
  (k3:W.cell? ⟨bs,2,none⟩=some (.func (.func 292) #[] #[.pointer (some ⟨d,0,none⟩),.pointer (some ⟨e,0,none⟩)])) (k4:W.cell? ⟨bs,3,none⟩=some (.func (.func 215) #[] #[.pointer (some ⟨hc,0,none⟩),.pointer (some ⟨u,0,none⟩)]))
  (k5:W.cell? ⟨c,0,none⟩=some (.int .i64 7)) (k6:W.cell? ⟨d,0,none⟩=some (.int .i64 ep)) (k7:W.cell? ⟨e,0,none⟩=some (.int .i64 dy)) (k8:W.cell? ⟨he,0,none⟩=some (.int .i64 ep))
  (k9:W.cell? ⟨hc,18,none⟩=some (.int .u64 pn)) (k10:W.cell? ⟨hc,19,none⟩=some (.int .u64 pd)) (k11:W.cell? ⟨u,0,none⟩=some (.int .u64 0)) (k12:W.frozen? ⟨u,0,none⟩=false)
  (hne:bs≠u∧c≠u∧d≠u∧e≠u∧he≠u∧hc≠u) :
  Calls Tryz.prog 217 #[.agg v.cells,.slice (some ⟨bs,0,none⟩) 4 4] W fun r w'=>r=.returned (.tuple #[.agg (slaR v ep dy pn pd).2.1.cells,.int .i64 (slaR v ep dy pn pd).1])∧Upd [u] W w'∧w'.cell? ⟨u,0,none⟩=some (.int .u64 (slaR v ep dy pn pd).2.2):=by
 obtain ⟨n1,n2,n3,n4,n5,n6⟩:=hne
 have h:=apply_IF [(bs,0,.func (.func 214) #[] #[.pointer (some ⟨he,0,none⟩)]),(bs,1,.func (.func 291) #[] #[.pointer (some ⟨c,0,none⟩)]),(bs,2,.func (.func 292) #[] #[.pointer (some ⟨d,0,none⟩),.pointer (some ⟨e,0,none⟩)]),(bs,3,.func (.func 215) #[] #[.pointer (some ⟨hc,0,none⟩),.pointer (some ⟨u,0,none⟩)]),
   (c,0,.int .i64 7),(d,0,.int .i64 ep),(e,0,.int .i64 dy),(he,0,.int .i64 ep),(hc,18,.int .u64 pn),(hc,19,.int .u64 pd)] (some u)
  [(214,#[.pointer (some ⟨he,0,none⟩)]),(291,#[.pointer (some ⟨c,0,none⟩)]),(292,#[.pointer (some ⟨d,0,none⟩),.pointer (some ⟨e,0,none⟩)]),(215,#[.pointer (some ⟨hc,0,none⟩),.pointer (some ⟨u,0,none⟩)])] [gMark ep,gEvent 7,gDelay ep dy,gBurn pn pd]
  ⟨chg_mark hep (by simp),chg_event (wf_small _ (by omega) (by omega)) (by simp),chg_delay hep hdy (c:=d) (d:=e) (by simp) (by simp),chg_burn (c:=hc) (u:=u) (by simp) (by simp) rfl (by simp[n1,n2,n3,n4,n5,n6]) hn0 hn hd0 hd,trivial⟩ v 0 bs 4 W hv
  ⟨by simp[k1,k2,k3,k4,k5,k6,k7,k8,k9,k10],by simp[k11,k12]⟩ (fun j hj=>by
   have:j=0∨j=1∨j=2∨j=3:=by simp at hj;omega
   rcases this with rfl|rfl|rfl|rfl<;>simp) (by simp)
 exact h.mono fun r w' ⟨h1,h2,h3⟩=>⟨h1,h2.mono fun k hk _=>by simpa using hk,(h3.2 u rfl).1⟩
def CellIs (w:World) (b i:Nat) (v:Value):Prop:=w.cell? ⟨b,i,none⟩=some v
theorem CellIs.of {w w':World} {b i:Nat} {v:Value} (h:CellIs w b i v) (e:w'.heap[b]? = w.heap[b]?):CellIs w' b i v:=(World.cell?_of_block (w:=w) (a:=⟨b,i,none⟩) e).trans h
theorem CellIs.lt {w:World} {b i:Nat} {v:Value} (h:CellIs w b i v):b<w.heap.size:=World.block_lt_of_cell? w _ h
theorem CellIs.drew {w:World} {b i:Nat} {v:Value} (h:CellIs w b i v):CellIs w.drew b i v:=h
theorem CellIs.alloc {w:World} {b i:Nat} {v:Value} (h:CellIs w b i v) (o:Obj):CellIs (w.alloc o) b i v:=h.of (Below.heap_alloc _ _ _ h.lt)
theorem CellIs.other {w:World} {b i b':Nat} {v:Value} (hne:b≠b') (h:CellIs w b i v) (j:Nat) (x:Value):CellIs (w.setCell ⟨b',j,none⟩ x) b i v:=h.of (Below.heap_setCell _ _ _ _ hne)
set_option maxHeartbeats 8000000 in
theorem slash_any (v:Val) (hv:v.wf) (ep:Int) (hep:(Lit.int .i64 ep).wf=true) (cf:Cfg) (hdy:(Lit.int .i64 cf.slashDelay).wf=true) (hn0:0≤cf.penNum) (hn:cf.penNum≤18446744073709551615) (hd0:0≤cf.penDen) (hd:cf.penDen≤18446744073709551615) (w:World) :
  Calls Tryz.prog 147 #[.agg v.cells,.int .i64 ep,.agg cf.cells] w fun r w'=>r=.returned (.tuple #[.agg (slaR v ep cf.slashDelay cf.penNum cf.penDen).2.1.cells,.int .u64 (slaR v ep cf.slashDelay cf.penNum cf.penDen).2.2,.int .i64 (slaR v ep cf.slashDelay cf.penNum cf.penDen).1])∧Below w.heap.size w w':=by
 obtain ⟨k0,k1,k2,k3,k4,k5,k6,k7,k8,k9,k10,dy,k12,k13,k14,k15,k16,k17,pn,pd⟩:=cf
 simp only[] at hdy hn0 hn hd0 hd
 have HA:=fun W bs c d e he hc u=>sla_apply W v hv ep dy pn pd hep hdy hn0 hn hd0 hd bs c d e he hc u
 obtain ⟨bal,st,sl,rq,ex,wd,dl⟩:=v
 simp only[]
 generalize slaR ⟨bal,st,sl,rq,ex,wd,dl⟩ ep dy pn pd=R at *
 obtain ⟨code,⟨bal',st',sl',rq',ex',wd',dl'⟩,s'⟩:=R
 simp only[Val.cells] at HA
 have HAA:=Lib.hid HA
 clear HA hv hep hdy hn0 hn hd0 hd
 unfold Val.cells Cfg.cells
 simp only[]
 go_enter Tryz.func147,Tryz.ntmps147
 go_upto_region 4 with fail
 go_cut [12,13] (fun p c wx=>∃ o,p=.pointer (some ⟨o,0,none⟩)∧c=.int .i64 code∧w.heap.size+1+1+1+1<o∧BlockIs wx o #[.int .u64 bal',.int .i64 st',.bool sl',.int .i64 rq',.int .i64 ex',.int .i64 wd',.int .i64 dl'] 48∧BlockIs wx (w.heap.size+1+1+1) #[.int .u64 0,.int .i64 0,.bool false,.int .i64 0,.int .i64 0,.int .i64 0,.int .i64 0] 48∧CellIs wx (w.heap.size+1+1+1+1) 0 (.int .u64 s')∧Below w.heap.size w wx)
 case first =>
  go_region_held3 (fun w'=>w'.cell? ⟨w.heap.size,0,none⟩=some (.int .u64 bal)∧w'.cell? ⟨w.heap.size,1,none⟩=some (.int .i64 st)∧w'.cell? ⟨w.heap.size,2,none⟩=some (.bool sl)∧w'.cell? ⟨w.heap.size,3,none⟩=some (.int .i64 rq)∧w'.cell? ⟨w.heap.size,4,none⟩=some (.int .i64 ex)∧w'.cell? ⟨w.heap.size,5,none⟩=some (.int .i64 wd)∧w'.cell? ⟨w.heap.size,6,none⟩=some (.int .i64 dl)∧w'.cell? ⟨w.heap.size+1,0,none⟩=some (.int .i64 ep)∧w'.cell? ⟨w.heap.size+2,11,none⟩=some (.int .i64 dy)) (((try dsimp only);(repeat' apply And.intro)<;>go_simp)) (first
   | (go_at_call 218;refine(event_any _ _).mono ?_;rintro r w1 ⟨rfl,rfl⟩)
   | (go_at_call 219;refine(delay_any _ _ _).mono ?_;rintro r w1 ⟨rfl,rfl⟩)
   | (go_at_call 217;first|(refine(HAA.out _ _ (w.heap.size+6) (w.heap.size+7) (w.heap.size+7+1) (w.heap.size+1) (w.heap.size+2) (w.heap.size+4) ?_ ?_ ?_ ?_ ?_ ?_ ?_ ?_ ?_ ?_ ?_ ?_ ?_).mono ?_;(focus (go_simp;done));(focus (go_simp;done));(focus (go_simp;done));(focus (go_simp;done));(focus (go_simp;done));(focus (go_simp;done));(focus (go_simp;done));(focus (go_simp;done));(focus (go_simp;done));(focus (go_simp;done));(focus (go_simp;done));(focus (go_simp;done));(focus (simp<;>omega));rintro r w1 ⟨rfl,hu,gu'⟩;have gu:CellIs w1 (w.heap.size+1+1+1+1) 0 (.int .u64 s'):=gu';refine Upd.thruC (b:=w.heap.size+1) (i:=0) (v:=.int .i64 ep) ?_ hu ?_ (fun q1=>?_);(focus (go_simp;done));(focus (simp<;>omega));refine Upd.thruC (b:=w.heap.size+1+1) (i:=11) (v:=.int .i64 dy) ?_ hu ?_ (fun q2=>?_);(focus (go_simp;done));(focus (simp<;>omega));refine BlockIs.thru (b:=w.heap.size) (c:=#[.int .u64 bal,.int .i64 st,.bool sl,.int .i64 rq,.int .i64 ex,.int .i64 wd,.int .i64 dl]) (t:=48) ?_ hu ?_ (fun gv=>?_);(focus (repeat (first|(with_reducible refine BlockIs.drew ?_)|((with_reducible refine BlockIs.new' ?_);(simp<;>omega))|(with_reducible refine BlockIs.alloc ?_ _)));done);(focus (simp<;>omega));refine BlockIs.thru (b:=w.heap.size+1+1+1) (c:=#[.int .u64 0,.int .i64 0,.bool false,.int .i64 0,.int .i64 0,.int .i64 0,.int .i64 0]) (t:=48) ?_ hu ?_ (fun gz=>?_);(focus (repeat (first|(with_reducible refine BlockIs.drew ?_)|((with_reducible refine BlockIs.new' ?_);(simp<;>omega))|(with_reducible refine BlockIs.alloc ?_ _)));done);(focus (simp<;>omega));(first|(refine BlockIs.thru (b:=w.heap.size+1+1+1+1+1) (c:=#[.int .u64 0,.int .i64 0,.bool false,.int .i64 0,.int .i64 0,.int .i64 0,.int .i64 0]) (t:=48) ?_ hu ?_ (fun go=>?_);(focus (repeat (first|(with_reducible refine BlockIs.drew ?_)|((with_reducible refine BlockIs.new' ?_);(simp<;>omega))|(with_reducible refine BlockIs.alloc ?_ _)));done);(focus (simp<;>omega));obtain ⟨o0,o1,o2,o3,o4,o5,o6,p0,p1,p2,p3,p4,p5,p6⟩:=vfacts go;have hso:=go.lt)|(refine BlockIs.thru (b:=w.heap.size+1+1+1+1+1+1) (c:=#[.int .u64 0,.int .i64 0,.bool false,.int .i64 0,.int .i64 0,.int .i64 0,.int .i64 0]) (t:=48) ?_ hu ?_ (fun go=>?_);(focus (repeat (first|(with_reducible refine BlockIs.drew ?_)|((with_reducible refine BlockIs.new' ?_);(simp<;>omega))|(with_reducible refine BlockIs.alloc ?_ _)));done);(focus (simp<;>omega));obtain ⟨o0,o1,o2,o3,o4,o5,o6,p0,p1,p2,p3,p4,p5,p6⟩:=vfacts go;have hso:=go.lt)|(refine BlockIs.thru (b:=w.heap.size+1+1+1+1+1+1+1) (c:=#[.int .u64 0,.int .i64 0,.bool false,.int .i64 0,.int .i64 0,.int .i64 0,.int .i64 0]) (t:=48) ?_ hu ?_ (fun go=>?_);(focus (repeat (first|(with_reducible refine BlockIs.drew ?_)|((with_reducible refine BlockIs.new' ?_);(simp<;>omega))|(with_reducible refine BlockIs.alloc ?_ _)));done);(focus (simp<;>omega));obtain ⟨o0,o1,o2,o3,o4,o5,o6,p0,p1,p2,p3,p4,p5,p6⟩:=vfacts go;have hso:=go.lt)|(refine BlockIs.thru (b:=w.heap.size+1+1+1+1+1+1+1+1) (c:=#[.int .u64 0,.int .i64 0,.bool false,.int .i64 0,.int .i64 0,.int .i64 0,.int .i64 0]) (t:=48) ?_ hu ?_ (fun go=>?_);(focus (repeat (first|(with_reducible refine BlockIs.drew ?_)|((with_reducible refine BlockIs.new' ?_);(simp<;>omega))|(with_reducible refine BlockIs.alloc ?_ _)));done);(focus (simp<;>omega));obtain ⟨o0,o1,o2,o3,o4,o5,o6,p0,p1,p2,p3,p4,p5,p6⟩:=vfacts go;have hso:=go.lt)|(refine BlockIs.thru (b:=w.heap.size+1+1+1+1+1+1+1+1+1) (c:=#[.int .u64 0,.int .i64 0,.bool false,.int .i64 0,.int .i64 0,.int .i64 0,.int .i64 0]) (t:=48) ?_ hu ?_ (fun go=>?_);(focus (repeat (first|(with_reducible refine BlockIs.drew ?_)|((with_reducible refine BlockIs.new' ?_);(simp<;>omega))|(with_reducible refine BlockIs.alloc ?_ _)));done);(focus (simp<;>omega));obtain ⟨o0,o1,o2,o3,o4,o5,o6,p0,p1,p2,p3,p4,p5,p6⟩:=vfacts go;have hso:=go.lt)|skip);obtain ⟨v0,v1,v2,v3,v4,v5,v6,_,_,_,_,_,_,_⟩:=vfacts gv;have hsz:=gz.lt;have hsv:=gv.lt;have hsu:=gu.lt;have hs1:w.heap.size+1<w1.heap.size:=(by omega);have hs2:w.heap.size+1+1<w1.heap.size:=(by omega);have hbw:Below w.heap.size w w1:=Below.trans (by(repeat (with_reducible first|exact Below.refl _ _|refine Below.drew ?_|refine Below.alloc ?_ (by first|omega|(simp<;>omega)) _))) (hu.below (by first|omega|(simp<;>omega)) (by first|(simp<;>omega))))|(refine(HAA.out _ _ (w.heap.size+5) (w.heap.size+7) (w.heap.size+7+1) (w.heap.size+1) (w.heap.size+2) (w.heap.size+4) ?_ ?_ ?_ ?_ ?_ ?_ ?_ ?_ ?_ ?_ ?_ ?_ ?_).mono ?_;(focus (go_simp;done));(focus (go_simp;done));(focus (go_simp;done));(focus (go_simp;done));(focus (go_simp;done));(focus (go_simp;done));(focus (go_simp;done));(focus (go_simp;done));(focus (go_simp;done));(focus (go_simp;done));(focus (go_simp;done));(focus (go_simp;done));(focus (simp<;>omega));rintro r w1 ⟨rfl,hu,gu'⟩;have gu:CellIs w1 (w.heap.size+1+1+1+1) 0 (.int .u64 s'):=gu';refine Upd.thruC (b:=w.heap.size+1) (i:=0) (v:=.int .i64 ep) ?_ hu ?_ (fun q1=>?_);(focus (go_simp;done));(focus (simp<;>omega));refine Upd.thruC (b:=w.heap.size+1+1) (i:=11) (v:=.int .i64 dy) ?_ hu ?_ (fun q2=>?_);(focus (go_simp;done));(focus (simp<;>omega));refine BlockIs.thru (b:=w.heap.size) (c:=#[.int .u64 bal,.int .i64 st,.bool sl,.int .i64 rq,.int .i64 ex,.int .i64 wd,.int .i64 dl]) (t:=48) ?_ hu ?_ (fun gv=>?_);(focus (repeat (first|(with_reducible refine BlockIs.drew ?_)|((with_reducible refine BlockIs.new' ?_);(simp<;>omega))|(with_reducible refine BlockIs.alloc ?_ _)));done);(focus (simp<;>omega));refine BlockIs.thru (b:=w.heap.size+1+1+1) (c:=#[.int .u64 0,.int .i64 0,.bool false,.int .i64 0,.int .i64 0,.int .i64 0,.int .i64 0]) (t:=48) ?_ hu ?_ (fun gz=>?_);(focus (repeat (first|(with_reducible refine BlockIs.drew ?_)|((with_reducible refine BlockIs.new' ?_);(simp<;>omega))|(with_reducible refine BlockIs.alloc ?_ _)));done);(focus (simp<;>omega));(first|(refine BlockIs.thru (b:=w.heap.size+1+1+1+1+1) (c:=#[.int .u64 0,.int .i64 0,.bool false,.int .i64 0,.int .i64 0,.int .i64 0,.int .i64 0]) (t:=48) ?_ hu ?_ (fun go=>?_);(focus (repeat (first|(with_reducible refine BlockIs.drew ?_)|((with_reducible refine BlockIs.new' ?_);(simp<;>omega))|(with_reducible refine BlockIs.alloc ?_ _)));done);(focus (simp<;>omega));obtain ⟨o0,o1,o2,o3,o4,o5,o6,p0,p1,p2,p3,p4,p5,p6⟩:=vfacts go;have hso:=go.lt)|(refine BlockIs.thru (b:=w.heap.size+1+1+1+1+1+1) (c:=#[.int .u64 0,.int .i64 0,.bool false,.int .i64 0,.int .i64 0,.int .i64 0,.int .i64 0]) (t:=48) ?_ hu ?_ (fun go=>?_);(focus (repeat (first|(with_reducible refine BlockIs.drew ?_)|((with_reducible refine BlockIs.new' ?_);(simp<;>omega))|(with_reducible refine BlockIs.alloc ?_ _)));done);(focus (simp<;>omega));obtain ⟨o0,o1,o2,o3,o4,o5,o6,p0,p1,p2,p3,p4,p5,p6⟩:=vfacts go;have hso:=go.lt)|(refine BlockIs.thru (b:=w.heap.size+1+1+1+1+1+1+1) (c:=#[.int .u64 0,.int .i64 0,.bool false,.int .i64 0,.int .i64 0,.int .i64 0,.int .i64 0]) (t:=48) ?_ hu ?_ (fun go=>?_);(focus (repeat (first|(with_reducible refine BlockIs.drew ?_)|((with_reducible refine BlockIs.new' ?_);(simp<;>omega))|(with_reducible refine BlockIs.alloc ?_ _)));done);(focus (simp<;>omega));obtain ⟨o0,o1,o2,o3,o4,o5,o6,p0,p1,p2,p3,p4,p5,p6⟩:=vfacts go;have hso:=go.lt)|(refine BlockIs.thru (b:=w.heap.size+1+1+1+1+1+1+1+1) (c:=#[.int .u64 0,.int .i64 0,.bool false,.int .i64 0,.int .i64 0,.int .i64 0,.int .i64 0]) (t:=48) ?_ hu ?_ (fun go=>?_);(focus (repeat (first|(with_reducible refine BlockIs.drew ?_)|((with_reducible refine BlockIs.new' ?_);(simp<;>omega))|(with_reducible refine BlockIs.alloc ?_ _)));done);(focus (simp<;>omega));obtain ⟨o0,o1,o2,o3,o4,o5,o6,p0,p1,p2,p3,p4,p5,p6⟩:=vfacts go;have hso:=go.lt)|(refine BlockIs.thru (b:=w.heap.size+1+1+1+1+1+1+1+1+1) (c:=#[.int .u64 0,.int .i64 0,.bool false,.int .i64 0,.int .i64 0,.int .i64 0,.int .i64 0]) (t:=48) ?_ hu ?_ (fun go=>?_);(focus (repeat (first|(with_reducible refine BlockIs.drew ?_)|((with_reducible refine BlockIs.new' ?_);(simp<;>omega))|(with_reducible refine BlockIs.alloc ?_ _)));done);(focus (simp<;>omega));obtain ⟨o0,o1,o2,o3,o4,o5,o6,p0,p1,p2,p3,p4,p5,p6⟩:=vfacts go;have hso:=go.lt)|skip);obtain ⟨v0,v1,v2,v3,v4,v5,v6,_,_,_,_,_,_,_⟩:=vfacts gv;have hsz:=gz.lt;have hsv:=gv.lt;have hsu:=gu.lt;have hs1:w.heap.size+1<w1.heap.size:=(by omega);have hs2:w.heap.size+1+1<w1.heap.size:=(by omega);have hbw:Below w.heap.size w w1:=Below.trans (by(repeat (with_reducible first|exact Below.refl _ _|refine Below.drew ?_|refine Below.alloc ?_ (by first|omega|(simp<;>omega)) _))) (hu.below (by first|omega|(simp<;>omega)) (by first|(simp<;>omega))))|(refine(HAA.out _ _ (w.heap.size+5) (w.heap.size+6) (w.heap.size+6+1) (w.heap.size+1) (w.heap.size+2) (w.heap.size+4) ?_ ?_ ?_ ?_ ?_ ?_ ?_ ?_ ?_ ?_ ?_ ?_ ?_).mono ?_;(focus (go_simp;done));(focus (go_simp;done));(focus (go_simp;done));(focus (go_simp;done));(focus (go_simp;done));(focus (go_simp;done));(focus (go_simp;done));(focus (go_simp;done));(focus (go_simp;done));(focus (go_simp;done));(focus (go_simp;done));(focus (go_simp;done));(focus (simp<;>omega));rintro r w1 ⟨rfl,hu,gu'⟩;have gu:CellIs w1 (w.heap.size+1+1+1+1) 0 (.int .u64 s'):=gu';refine Upd.thruC (b:=w.heap.size+1) (i:=0) (v:=.int .i64 ep) ?_ hu ?_ (fun q1=>?_);(focus (go_simp;done));(focus (simp<;>omega));refine Upd.thruC (b:=w.heap.size+1+1) (i:=11) (v:=.int .i64 dy) ?_ hu ?_ (fun q2=>?_);(focus (go_simp;done));(focus (simp<;>omega));refine BlockIs.thru (b:=w.heap.size) (c:=#[.int .u64 bal,.int .i64 st,.bool sl,.int .i64 rq,.int .i64 ex,.int .i64 wd,.int .i64 dl]) (t:=48) ?_ hu ?_ (fun gv=>?_);(focus (repeat (first|(with_reducible refine BlockIs.drew ?_)|((with_reducible refine BlockIs.new' ?_);(simp<;>omega))|(with_reducible refine BlockIs.alloc ?_ _)));done);(focus (simp<;>omega));refine BlockIs.thru (b:=w.heap.size+1+1+1) (c:=#[.int .u64 0,.int .i64 0,.bool false,.int .i64 0,.int .i64 0,.int .i64 0,.int .i64 0]) (t:=48) ?_ hu ?_ (fun gz=>?_);(focus (repeat (first|(with_reducible refine BlockIs.drew ?_)|((with_reducible refine BlockIs.new' ?_);(simp<;>omega))|(with_reducible refine BlockIs.alloc ?_ _)));done);(focus (simp<;>omega));(first|(refine BlockIs.thru (b:=w.heap.size+1+1+1+1+1) (c:=#[.int .u64 0,.int .i64 0,.bool false,.int .i64 0,.int .i64 0,.int .i64 0,.int .i64 0]) (t:=48) ?_ hu ?_ (fun go=>?_);(focus (repeat (first|(with_reducible refine BlockIs.drew ?_)|((with_reducible refine BlockIs.new' ?_);(simp<;>omega))|(with_reducible refine BlockIs.alloc ?_ _)));done);(focus (simp<;>omega));obtain ⟨o0,o1,o2,o3,o4,o5,o6,p0,p1,p2,p3,p4,p5,p6⟩:=vfacts go;have hso:=go.lt)|(refine BlockIs.thru (b:=w.heap.size+1+1+1+1+1+1) (c:=#[.int .u64 0,.int .i64 0,.bool false,.int .i64 0,.int .i64 0,.int .i64 0,.int .i64 0]) (t:=48) ?_ hu ?_ (fun go=>?_);(focus (repeat (first|(with_reducible refine BlockIs.drew ?_)|((with_reducible refine BlockIs.new' ?_);(simp<;>omega))|(with_reducible refine BlockIs.alloc ?_ _)));done);(focus (simp<;>omega));obtain ⟨o0,o1,o2,o3,o4,o5,o6,p0,p1,p2,p3,p4,p5,p6⟩:=vfacts go;have hso:=go.lt)|(refine BlockIs.thru (b:=w.heap.size+1+1+1+1+1+1+1) (c:=#[.int .u64 0,.int .i64 0,.bool false,.int .i64 0,.int .i64 0,.int .i64 0,.int .i64 0]) (t:=48) ?_ hu ?_ (fun go=>?_);(focus (repeat (first|(with_reducible refine BlockIs.drew ?_)|((with_reducible refine BlockIs.new' ?_);(simp<;>omega))|(with_reducible refine BlockIs.alloc ?_ _)));done);(focus (simp<;>omega));obtain ⟨o0,o1,o2,o3,o4,o5,o6,p0,p1,p2,p3,p4,p5,p6⟩:=vfacts go;have hso:=go.lt)|(refine BlockIs.thru (b:=w.heap.size+1+1+1+1+1+1+1+1) (c:=#[.int .u64 0,.int .i64 0,.bool false,.int .i64 0,.int .i64 0,.int .i64 0,.int .i64 0]) (t:=48) ?_ hu ?_ (fun go=>?_);(focus (repeat (first|(with_reducible refine BlockIs.drew ?_)|((with_reducible refine BlockIs.new' ?_);(simp<;>omega))|(with_reducible refine BlockIs.alloc ?_ _)));done);(focus (simp<;>omega));obtain ⟨o0,o1,o2,o3,o4,o5,o6,p0,p1,p2,p3,p4,p5,p6⟩:=vfacts go;have hso:=go.lt)|(refine BlockIs.thru (b:=w.heap.size+1+1+1+1+1+1+1+1+1) (c:=#[.int .u64 0,.int .i64 0,.bool false,.int .i64 0,.int .i64 0,.int .i64 0,.int .i64 0]) (t:=48) ?_ hu ?_ (fun go=>?_);(focus (repeat (first|(with_reducible refine BlockIs.drew ?_)|((with_reducible refine BlockIs.new' ?_);(simp<;>omega))|(with_reducible refine BlockIs.alloc ?_ _)));done);(focus (simp<;>omega));obtain ⟨o0,o1,o2,o3,o4,o5,o6,p0,p1,p2,p3,p4,p5,p6⟩:=vfacts go;have hso:=go.lt)|skip);obtain ⟨v0,v1,v2,v3,v4,v5,v6,_,_,_,_,_,_,_⟩:=vfacts gv;have hsz:=gz.lt;have hsv:=gv.lt;have hsu:=gu.lt;have hs1:w.heap.size+1<w1.heap.size:=(by omega);have hs2:w.heap.size+1+1<w1.heap.size:=(by omega);have hbw:Below w.heap.size w w1:=Below.trans (by(repeat (with_reducible first|exact Below.refl _ _|refine Below.drew ?_|refine Below.alloc ?_ (by first|omega|(simp<;>omega)) _))) (hu.below (by first|omega|(simp<;>omega)) (by first|(simp<;>omega))))|(refine(HAA.out _ _ (w.heap.size+8) (w.heap.size+6) (w.heap.size+6+1) (w.heap.size+1) (w.heap.size+2) (w.heap.size+4) ?_ ?_ ?_ ?_ ?_ ?_ ?_ ?_ ?_ ?_ ?_ ?_ ?_).mono ?_;(focus (go_simp;done));(focus (go_simp;done));(focus (go_simp;done));(focus (go_simp;done));(focus (go_simp;done));(focus (go_simp;done));(focus (go_simp;done));(focus (go_simp;done));(focus (go_simp;done));(focus (go_simp;done));(focus (go_simp;done));(focus (go_simp;done));(focus (simp<;>omega));rintro r w1 ⟨rfl,hu,gu'⟩;have gu:CellIs w1 (w.heap.size+1+1+1+1) 0 (.int .u64 s'):=gu';refine Upd.thruC (b:=w.heap.size+1) (i:=0) (v:=.int .i64 ep) ?_ hu ?_ (fun q1=>?_);(focus (go_simp;done));(focus (simp<;>omega));refine Upd.thruC (b:=w.heap.size+1+1) (i:=11) (v:=.int .i64 dy) ?_ hu ?_ (fun q2=>?_);(focus (go_simp;done));(focus (simp<;>omega));refine BlockIs.thru (b:=w.heap.size) (c:=#[.int .u64 bal,.int .i64 st,.bool sl,.int .i64 rq,.int .i64 ex,.int .i64 wd,.int .i64 dl]) (t:=48) ?_ hu ?_ (fun gv=>?_);(focus (repeat (first|(with_reducible refine BlockIs.drew ?_)|((with_reducible refine BlockIs.new' ?_);(simp<;>omega))|(with_reducible refine BlockIs.alloc ?_ _)));done);(focus (simp<;>omega));refine BlockIs.thru (b:=w.heap.size+1+1+1) (c:=#[.int .u64 0,.int .i64 0,.bool false,.int .i64 0,.int .i64 0,.int .i64 0,.int .i64 0]) (t:=48) ?_ hu ?_ (fun gz=>?_);(focus (repeat (first|(with_reducible refine BlockIs.drew ?_)|((with_reducible refine BlockIs.new' ?_);(simp<;>omega))|(with_reducible refine BlockIs.alloc ?_ _)));done);(focus (simp<;>omega));(first|(refine BlockIs.thru (b:=w.heap.size+1+1+1+1+1) (c:=#[.int .u64 0,.int .i64 0,.bool false,.int .i64 0,.int .i64 0,.int .i64 0,.int .i64 0]) (t:=48) ?_ hu ?_ (fun go=>?_);(focus (repeat (first|(with_reducible refine BlockIs.drew ?_)|((with_reducible refine BlockIs.new' ?_);(simp<;>omega))|(with_reducible refine BlockIs.alloc ?_ _)));done);(focus (simp<;>omega));obtain ⟨o0,o1,o2,o3,o4,o5,o6,p0,p1,p2,p3,p4,p5,p6⟩:=vfacts go;have hso:=go.lt)|(refine BlockIs.thru (b:=w.heap.size+1+1+1+1+1+1) (c:=#[.int .u64 0,.int .i64 0,.bool false,.int .i64 0,.int .i64 0,.int .i64 0,.int .i64 0]) (t:=48) ?_ hu ?_ (fun go=>?_);(focus (repeat (first|(with_reducible refine BlockIs.drew ?_)|((with_reducible refine BlockIs.new' ?_);(simp<;>omega))|(with_reducible refine BlockIs.alloc ?_ _)));done);(focus (simp<;>omega));obtain ⟨o0,o1,o2,o3,o4,o5,o6,p0,p1,p2,p3,p4,p5,p6⟩:=vfacts go;have hso:=go.lt)|(refine BlockIs.thru (b:=w.heap.size+1+1+1+1+1+1+1) (c:=#[.int .u64 0,.int .i64 0,.bool false,.int .i64 0,.int .i64 0,.int .i64 0,.int .i64 0]) (t:=48) ?_ hu ?_ (fun go=>?_);(focus (repeat (first|(with_reducible refine BlockIs.drew ?_)|((with_reducible refine BlockIs.new' ?_);(simp<;>omega))|(with_reducible refine BlockIs.alloc ?_ _)));done);(focus (simp<;>omega));obtain ⟨o0,o1,o2,o3,o4,o5,o6,p0,p1,p2,p3,p4,p5,p6⟩:=vfacts go;have hso:=go.lt)|(refine BlockIs.thru (b:=w.heap.size+1+1+1+1+1+1+1+1) (c:=#[.int .u64 0,.int .i64 0,.bool false,.int .i64 0,.int .i64 0,.int .i64 0,.int .i64 0]) (t:=48) ?_ hu ?_ (fun go=>?_);(focus (repeat (first|(with_reducible refine BlockIs.drew ?_)|((with_reducible refine BlockIs.new' ?_);(simp<;>omega))|(with_reducible refine BlockIs.alloc ?_ _)));done);(focus (simp<;>omega));obtain ⟨o0,o1,o2,o3,o4,o5,o6,p0,p1,p2,p3,p4,p5,p6⟩:=vfacts go;have hso:=go.lt)|(refine BlockIs.thru (b:=w.heap.size+1+1+1+1+1+1+1+1+1) (c:=#[.int .u64 0,.int .i64 0,.bool false,.int .i64 0,.int .i64 0,.int .i64 0,.int .i64 0]) (t:=48) ?_ hu ?_ (fun go=>?_);(focus (repeat (first|(with_reducible refine BlockIs.drew ?_)|((with_reducible refine BlockIs.new' ?_);(simp<;>omega))|(with_reducible refine BlockIs.alloc ?_ _)));done);(focus (simp<;>omega));obtain ⟨o0,o1,o2,o3,o4,o5,o6,p0,p1,p2,p3,p4,p5,p6⟩:=vfacts go;have hso:=go.lt)|skip);obtain ⟨v0,v1,v2,v3,v4,v5,v6,_,_,_,_,_,_,_⟩:=vfacts gv;have hsz:=gz.lt;have hsv:=gv.lt;have hsu:=gu.lt;have hs1:w.heap.size+1<w1.heap.size:=(by omega);have hs2:w.heap.size+1+1<w1.heap.size:=(by omega);have hbw:Below w.heap.size w w1:=Below.trans (by(repeat (with_reducible first|exact Below.refl _ _|refine Below.drew ?_|refine Below.alloc ?_ (by first|omega|(simp<;>omega)) _))) (hu.below (by first|omega|(simp<;>omega)) (by first|(simp<;>omega))))|(refine(HAA.out _ _ (w.heap.size+8) (w.heap.size+5) (w.heap.size+5+1) (w.heap.size+1) (w.heap.size+2) (w.heap.size+4) ?_ ?_ ?_ ?_ ?_ ?_ ?_ ?_ ?_ ?_ ?_ ?_ ?_).mono ?_;(focus (go_simp;done));(focus (go_simp;done));(focus (go_simp;done));(focus (go_simp;done));(focus (go_simp;done));(focus (go_simp;done));(focus (go_simp;done));(focus (go_simp;done));(focus (go_simp;done));(focus (go_simp;done));(focus (go_simp;done));(focus (go_simp;done));(focus (simp<;>omega));rintro r w1 ⟨rfl,hu,gu'⟩;have gu:CellIs w1 (w.heap.size+1+1+1+1) 0 (.int .u64 s'):=gu';refine Upd.thruC (b:=w.heap.size+1) (i:=0) (v:=.int .i64 ep) ?_ hu ?_ (fun q1=>?_);(focus (go_simp;done));(focus (simp<;>omega));refine Upd.thruC (b:=w.heap.size+1+1) (i:=11) (v:=.int .i64 dy) ?_ hu ?_ (fun q2=>?_);(focus (go_simp;done));(focus (simp<;>omega));refine BlockIs.thru (b:=w.heap.size) (c:=#[.int .u64 bal,.int .i64 st,.bool sl,.int .i64 rq,.int .i64 ex,.int .i64 wd,.int .i64 dl]) (t:=48) ?_ hu ?_ (fun gv=>?_);(focus (repeat (first|(with_reducible refine BlockIs.drew ?_)|((with_reducible refine BlockIs.new' ?_);(simp<;>omega))|(with_reducible refine BlockIs.alloc ?_ _)));done);(focus (simp<;>omega));refine BlockIs.thru (b:=w.heap.size+1+1+1) (c:=#[.int .u64 0,.int .i64 0,.bool false,.int .i64 0,.int .i64 0,.int .i64 0,.int .i64 0]) (t:=48) ?_ hu ?_ (fun gz=>?_);(focus (repeat (first|(with_reducible refine BlockIs.drew ?_)|((with_reducible refine BlockIs.new' ?_);(simp<;>omega))|(with_reducible refine BlockIs.alloc ?_ _)));done);(focus (simp<;>omega));(first|(refine BlockIs.thru (b:=w.heap.size+1+1+1+1+1) (c:=#[.int .u64 0,.int .i64 0,.bool false,.int .i64 0,.int .i64 0,.int .i64 0,.int .i64 0]) (t:=48) ?_ hu ?_ (fun go=>?_);(focus (repeat (first|(with_reducible refine BlockIs.drew ?_)|((with_reducible refine BlockIs.new' ?_);(simp<;>omega))|(with_reducible refine BlockIs.alloc ?_ _)));done);(focus (simp<;>omega));obtain ⟨o0,o1,o2,o3,o4,o5,o6,p0,p1,p2,p3,p4,p5,p6⟩:=vfacts go;have hso:=go.lt)|(refine BlockIs.thru (b:=w.heap.size+1+1+1+1+1+1) (c:=#[.int .u64 0,.int .i64 0,.bool false,.int .i64 0,.int .i64 0,.int .i64 0,.int .i64 0]) (t:=48) ?_ hu ?_ (fun go=>?_);(focus (repeat (first|(with_reducible refine BlockIs.drew ?_)|((with_reducible refine BlockIs.new' ?_);(simp<;>omega))|(with_reducible refine BlockIs.alloc ?_ _)));done);(focus (simp<;>omega));obtain ⟨o0,o1,o2,o3,o4,o5,o6,p0,p1,p2,p3,p4,p5,p6⟩:=vfacts go;have hso:=go.lt)|(refine BlockIs.thru (b:=w.heap.size+1+1+1+1+1+1+1) (c:=#[.int .u64 0,.int .i64 0,.bool false,.int .i64 0,.int .i64 0,.int .i64 0,.int .i64 0]) (t:=48) ?_ hu ?_ (fun go=>?_);(focus (repeat (first|(with_reducible refine BlockIs.drew ?_)|((with_reducible refine BlockIs.new' ?_);(simp<;>omega))|(with_reducible refine BlockIs.alloc ?_ _)));done);(focus (simp<;>omega));obtain ⟨o0,o1,o2,o3,o4,o5,o6,p0,p1,p2,p3,p4,p5,p6⟩:=vfacts go;have hso:=go.lt)|(refine BlockIs.thru (b:=w.heap.size+1+1+1+1+1+1+1+1) (c:=#[.int .u64 0,.int .i64 0,.bool false,.int .i64 0,.int .i64 0,.int .i64 0,.int .i64 0]) (t:=48) ?_ hu ?_ (fun go=>?_);(focus (repeat (first|(with_reducible refine BlockIs.drew ?_)|((with_reducible refine BlockIs.new' ?_);(simp<;>omega))|(with_reducible refine BlockIs.alloc ?_ _)));done);(focus (simp<;>omega));obtain ⟨o0,o1,o2,o3,o4,o5,o6,p0,p1,p2,p3,p4,p5,p6⟩:=vfacts go;have hso:=go.lt)|(refine BlockIs.thru (b:=w.heap.size+1+1+1+1+1+1+1+1+1) (c:=#[.int .u64 0,.int .i64 0,.bool false,.int .i64 0,.int .i64 0,.int .i64 0,.int .i64 0]) (t:=48) ?_ hu ?_ (fun go=>?_);(focus (repeat (first|(with_reducible refine BlockIs.drew ?_)|((with_reducible refine BlockIs.new' ?_);(simp<;>omega))|(with_reducible refine BlockIs.alloc ?_ _)));done);(focus (simp<;>omega));obtain ⟨o0,o1,o2,o3,o4,o5,o6,p0,p1,p2,p3,p4,p5,p6⟩:=vfacts go;have hso:=go.lt)|skip);obtain ⟨v0,v1,v2,v3,v4,v5,v6,_,_,_,_,_,_,_⟩:=vfacts gv;have hsz:=gz.lt;have hsv:=gv.lt;have hsu:=gu.lt;have hs1:w.heap.size+1<w1.heap.size:=(by omega);have hs2:w.heap.size+1+1<w1.heap.size:=(by omega);have hbw:Below w.heap.size w w1:=Below.trans (by(repeat (with_reducible first|exact Below.refl _ _|refine Below.drew ?_|refine Below.alloc ?_ (by first|omega|(simp<;>omega)) _))) (hu.below (by first|omega|(simp<;>omega)) (by first|(simp<;>omega))))|(refine(HAA.out _ _ (w.heap.size+7) (w.heap.size+5) (w.heap.size+5+1) (w.heap.size+1) (w.heap.size+2) (w.heap.size+4) ?_ ?_ ?_ ?_ ?_ ?_ ?_ ?_ ?_ ?_ ?_ ?_ ?_).mono ?_;(focus (go_simp;done));(focus (go_simp;done));(focus (go_simp;done));(focus (go_simp;done));(focus (go_simp;done));(focus (go_simp;done));(focus (go_simp;done));(focus (go_simp;done));(focus (go_simp;done));(focus (go_simp;done));(focus (go_simp;done));(focus (go_simp;done));(focus (simp<;>omega));rintro r w1 ⟨rfl,hu,gu'⟩;have gu:CellIs w1 (w.heap.size+1+1+1+1) 0 (.int .u64 s'):=gu';refine Upd.thruC (b:=w.heap.size+1) (i:=0) (v:=.int .i64 ep) ?_ hu ?_ (fun q1=>?_);(focus (go_simp;done));(focus (simp<;>omega));refine Upd.thruC (b:=w.heap.size+1+1) (i:=11) (v:=.int .i64 dy) ?_ hu ?_ (fun q2=>?_);(focus (go_simp;done));(focus (simp<;>omega));refine BlockIs.thru (b:=w.heap.size) (c:=#[.int .u64 bal,.int .i64 st,.bool sl,.int .i64 rq,.int .i64 ex,.int .i64 wd,.int .i64 dl]) (t:=48) ?_ hu ?_ (fun gv=>?_);(focus (repeat (first|(with_reducible refine BlockIs.drew ?_)|((with_reducible refine BlockIs.new' ?_);(simp<;>omega))|(with_reducible refine BlockIs.alloc ?_ _)));done);(focus (simp<;>omega));refine BlockIs.thru (b:=w.heap.size+1+1+1) (c:=#[.int .u64 0,.int .i64 0,.bool false,.int .i64 0,.int .i64 0,.int .i64 0,.int .i64 0]) (t:=48) ?_ hu ?_ (fun gz=>?_);(focus (repeat (first|(with_reducible refine BlockIs.drew ?_)|((with_reducible refine BlockIs.new' ?_);(simp<;>omega))|(with_reducible refine BlockIs.alloc ?_ _)));done);(focus (simp<;>omega));(first|(refine BlockIs.thru (b:=w.heap.size+1+1+1+1+1) (c:=#[.int .u64 0,.int .i64 0,.bool false,.int .i64 0,.int .i64 0,.int .i64 0,.int .i64 0]) (t:=48) ?_ hu ?_ (fun go=>?_);(focus (repeat (first|(with_reducible refine BlockIs.drew ?_)|((with_reducible refine BlockIs.new' ?_);(simp<;>omega))|(with_reducible refine BlockIs.alloc ?_ _)));done);(focus (simp<;>omega));obtain ⟨o0,o1,o2,o3,o4,o5,o6,p0,p1,p2,p3,p4,p5,p6⟩:=vfacts go;have hso:=go.lt)|(refine BlockIs.thru (b:=w.heap.size+1+1+1+1+1+1) (c:=#[.int .u64 0,.int .i64 0,.bool false,.int .i64 0,.int .i64 0,.int .i64 0,.int .i64 0]) (t:=48) ?_ hu ?_ (fun go=>?_);(focus (repeat (first|(with_reducible refine BlockIs.drew ?_)|((with_reducible refine BlockIs.new' ?_);(simp<;>omega))|(with_reducible refine BlockIs.alloc ?_ _)));done);(focus (simp<;>omega));obtain ⟨o0,o1,o2,o3,o4,o5,o6,p0,p1,p2,p3,p4,p5,p6⟩:=vfacts go;have hso:=go.lt)|(refine BlockIs.thru (b:=w.heap.size+1+1+1+1+1+1+1) (c:=#[.int .u64 0,.int .i64 0,.bool false,.int .i64 0,.int .i64 0,.int .i64 0,.int .i64 0]) (t:=48) ?_ hu ?_ (fun go=>?_);(focus (repeat (first|(with_reducible refine BlockIs.drew ?_)|((with_reducible refine BlockIs.new' ?_);(simp<;>omega))|(with_reducible refine BlockIs.alloc ?_ _)));done);(focus (simp<;>omega));obtain ⟨o0,o1,o2,o3,o4,o5,o6,p0,p1,p2,p3,p4,p5,p6⟩:=vfacts go;have hso:=go.lt)|(refine BlockIs.thru (b:=w.heap.size+1+1+1+1+1+1+1+1) (c:=#[.int .u64 0,.int .i64 0,.bool false,.int .i64 0,.int .i64 0,.int .i64 0,.int .i64 0]) (t:=48) ?_ hu ?_ (fun go=>?_);(focus (repeat (first|(with_reducible refine BlockIs.drew ?_)|((with_reducible refine BlockIs.new' ?_);(simp<;>omega))|(with_reducible refine BlockIs.alloc ?_ _)));done);(focus (simp<;>omega));obtain ⟨o0,o1,o2,o3,o4,o5,o6,p0,p1,p2,p3,p4,p5,p6⟩:=vfacts go;have hso:=go.lt)|(refine BlockIs.thru (b:=w.heap.size+1+1+1+1+1+1+1+1+1) (c:=#[.int .u64 0,.int .i64 0,.bool false,.int .i64 0,.int .i64 0,.int .i64 0,.int .i64 0]) (t:=48) ?_ hu ?_ (fun go=>?_);(focus (repeat (first|(with_reducible refine BlockIs.drew ?_)|((with_reducible refine BlockIs.new' ?_);(simp<;>omega))|(with_reducible refine BlockIs.alloc ?_ _)));done);(focus (simp<;>omega));obtain ⟨o0,o1,o2,o3,o4,o5,o6,p0,p1,p2,p3,p4,p5,p6⟩:=vfacts go;have hso:=go.lt)|skip);obtain ⟨v0,v1,v2,v3,v4,v5,v6,_,_,_,_,_,_,_⟩:=vfacts gv;have hsz:=gz.lt;have hsv:=gv.lt;have hsu:=gu.lt;have hs1:w.heap.size+1<w1.heap.size:=(by omega);have hs2:w.heap.size+1+1<w1.heap.size:=(by omega);have hbw:Below w.heap.size w w1:=Below.trans (by(repeat (with_reducible first|exact Below.refl _ _|refine Below.drew ?_|refine Below.alloc ?_ (by first|omega|(simp<;>omega)) _))) (hu.below (by first|omega|(simp<;>omega)) (by first|(simp<;>omega))))))
  all_goals(go_wp2_with fail;go_meet;refine⟨_,rfl,rfl,?_,?_,?_,?_,?_⟩;(focus omega);(focus ((repeat (with_reducible first|exact go|refine BlockIs.drew ?_|exact set7 go|exact BlockIs.new _ _ _));done));(focus ((repeat (with_reducible first|exact gv|exact gz|refine BlockIs.drew ?_|refine BlockIs.other' (by omega) ?_ _ _|refine BlockIs.alloc ?_ _));done));(focus ((repeat (with_reducible first|exact gu|refine CellIs.drew ?_|refine CellIs.other (by omega) ?_ _ _|refine CellIs.alloc ?_ _));done));(focus ((repeat (with_reducible first|exact hbw|refine Below.drew ?_|refine Below.setCell ?_ (by first|omega|(simp<;>omega)) _|refine Below.alloc ?_ (by first|omega|(simp<;>omega)) _));done)))
 case rest =>
  obtain ⟨o,rfl,rfl,ho,hbo,hbz,hbu,hbel⟩:=hcut
  obtain ⟨o0,o1,o2,o3,o4,o5,o6,_,_,_,_,_,_,_⟩:=vfacts hbo
  obtain ⟨z0,z1,z2,z3,z4,z5,z6,f0,f1,f2,f3,f4,f5,f6⟩:=vfacts hbz
  clear HAA
  unfold CellIs at hbu
  go_wp2
  go_region
  all_goals(go_wp2;refine bodyPost_ret (v:=.tuple #[.agg #[.int .u64 bal',.int .i64 st',.bool sl',.int .i64 rq',.int .i64 ex',.int .i64 wd',.int .i64 dl'],.int .u64 s',.int .i64 code]) (by simp[results,Tryz.results147,go_sem, *]) rfl ⟨rfl,?_⟩;(focus ((repeat (with_reducible first|exact hbel|refine Below.drew ?_|refine Below.setCell ?_ (by first|omega|(simp<;>omega)) _|refine Below.alloc ?_ (by first|omega|(simp<;>omega)) _));done)))
end
section
open Go.RowKit
theorem Same.thru {W w1:World} {b:Nat} {c:Array Value} {t:TypeId} {Q:Prop} (h:BlockIs W b c t) (hS:Same W w1) (k:BlockIs w1 b c t→Q):Q:=k (by obtain ⟨d,rfl⟩:=hS;exact h)
theorem maxF_max (a b:Int):maxF [a,b]=max a b:=by
 show(if a<b then b else a)=max a b
 split<;>omega
end
section
open Go.RowKit
def Cfg.deflt:Cfg:=⟨16,8,16,64,1024,8,128,32,4,64,2,5,4,4,6,4,2,2,1,4⟩
theorem built_cfg (k1 k2 k3 k4 k5 k6 k7 k8 k9 k10 k11 k12 k13 k14 k15 k16 k17 k18 k19 k20:Int):Tryz.prog.built 30 [(0,.int .i64 k1),(1,.int .i64 k2),(2,.int .u64 k3),(3,.int .u64 k4),(4,.int .u64 k5),(5,.int .u64 k6),(6,.int .u64 k7),(7,.int .u64 k8),(8,.int .u64 k9),(9,.int .u64 k10),(10,.int .i64 k11),(11,.int .i64 k12),(12,.int .i64 k13),(13,.int .i64 k14),(14,.int .i64 k15),(15,.int .i64 k16),(16,.int .i64 k17),(17,.int .i64 k18),(18,.int .u64 k19),(19,.int .u64 k20)]=some (Cfg.cells ⟨k1,k2,k3,k4,k5,k6,k7,k8,k9,k10,k11,k12,k13,k14,k15,k16,k17,k18,k19,k20⟩):=by kernel_rfl
theorem wpList_build' {P:Program} {ops:Array Oper} {rest:List Oper} {o:Oper} {a:Act} {w:World} {Q:Exit→Act→World→Prop} (hg:o.guard=none) (t:TypeId) (parts:Array (Nat × Operand)) (ho:o.op=.build t parts)
  (vs:List (Nat × Value)) (hv:(parts.map fun (i,x)=>(i,a.eval x)).toList=vs) (cells:Array Value) (hf:P.built t vs=some cells) (h:wpList P ops Q rest (a.put o.dst (.agg cells)) w):wpList P ops Q (o::rest) a w :=
 wpList_build hg t parts ho (by rw[hv,hf];rfl) (by rw[hv,hf];exact h)
theorem cfg_size (c:Cfg):(Tryz.prog.info? 30).map (·.size)=some c.cells.size:=by
 have h:(Tryz.prog.info? 30).map (·.size)=some 20:=by kernel_rfl
 rw[h];rfl
theorem cfg_one (c:Cfg):c.cells.all (·.oneCell')=true:=by simp[Cfg.cells,Value.oneCell']
set_option maxHeartbeats 1000000 in
theorem default_any (w:World):Calls Tryz.prog 49 #[] w fun r w'=>r=.returned (.agg Cfg.deflt.cells)∧Below w.heap.size w w':=by
 have HZ:=Lib.hid (cfg_size Cfg.deflt)
 have H1:=Lib.hid (cfg_one Cfg.deflt)
 have HB:=Lib.hid (built_cfg 16 8 16 64 1024 8 128 32 4 64 2 5 4 4 6 4 2 2 1 4)
 go_enter Tryz.func49,Tryz.ntmps49
 go_step
 go_step
 go_step
 go_step
 go_step
 go_step
 go_step
 go_step
 go_step
 go_step
 go_step
 refine wpList_build' rfl 30 _ rfl [(0,.int .i64 16),(1,.int .i64 8),(2,.int .u64 16),(3,.int .u64 64),(4,.int .u64 1024),(5,.int .u64 8),(6,.int .u64 128),(7,.int .u64 32),(8,.int .u64 4),(9,.int .u64 64),(10,.int .i64 2),(11,.int .i64 5),(12,.int .i64 4),(13,.int .i64 4),(14,.int .i64 6),(15,.int .i64 4),(16,.int .i64 2),(17,.int .i64 2),(18,.int .u64 1),(19,.int .u64 4)] ?_ Cfg.deflt.cells HB.out ?_
 ·simp[Act.eval]
 refine wpList_store_row ?_ 30 (.tmp 0) (.tmp 1) ?_ w.heap.size Cfg.deflt.cells ?_ ?_ 30 ?old ?_ HZ.out ?_ H1.out ?_
 case old=>exact Cfg.cells ⟨0,0,0,0,0,0,0,0,0,0,0,0,0,0,0,0,0,0,0,0⟩
 ·rfl
 ·rfl
 ·rfl
 ·rfl
 ·exact heap_alloc_last w _
 ·rfl
 rw[World.setRow_alloc_new]
 go_wp2
 refine bodyPost_ret (v:=.agg Cfg.deflt.cells) (results_cell_row rfl _ _ w.heap.size 30 _ (0,0) _ rfl (heap_alloc_last w _) Tryz.underlying30 rfl HZ.out) rfl ⟨rfl,?_⟩
 exact(Below.refl _ _).alloc (Nat.le_refl _) _
end
section
open Go.RowKit
def bt (n lo hi:Int):Bool:=decide (lo≤n) && decide (n≤hi)
theorem ret_b {p q:Bool} (h:p=q):Ending.returned (.bool p)=.returned (.bool q):=by rw[h]
set_option maxHeartbeats 1000000 in
theorem between_any (n lo hi:Int) (w:World):Calls Tryz.prog 103 #[.int .i64 n,.int .i64 lo,.int .i64 hi] w fun r w'=>r=.returned (.bool (bt n lo hi))∧w=w':=by
 by_cases h:lo≤n
 ·have HI:Hid (bt n lo hi=decide (n≤hi)):=by simp[Hid,bt,h]
  have hd:decide (lo≤n)=true:=by simpa using h
  go_enter Tryz.func103,Tryz.ntmps103
  go_wp2
  go_ret
  exact⟨ret_b HI.out.symm,rfl⟩
 ·have HI:Hid (bt n lo hi=false):=by simp[Hid,bt,h]
  have hd:decide (lo≤n)=false:=by simpa using h
  go_enter Tryz.func103,Tryz.ntmps103
  go_wp2
  go_ret
  exact⟨ret_b HI.out.symm,rfl⟩
def fieldB (c:Cfg):Nat→Bool
 | 1=>bt c.capacity 1 4096
 | 2=>bt c.queueSize 1 4096
 | 3=>decide (1≤c.minDeposit)
 | 4=>decide (c.minDeposit≤c.maxDeposit)
 | 5=>decide (c.maxDeposit≤c.supplyCap) && decide (c.supplyCap≤1152921504606846976)
 | 6=>decide (1≤c.minBalance) && decide (c.minBalance≤c.minDeposit)
 | 7=>decide (c.maxDeposit≤c.maxBalance) && decide (c.maxBalance≤c.supplyCap)
 | 8=>decide (1≤c.minChurn) && decide (c.minChurn≤1152921504606846976)
 | 9=>decide (1≤c.quotient)
 | 10=>decide (c.forcedCap≤1152921504606846976)
 | 11=>bt c.unbonding 1 1048576
 | 12=>decide (c.unbonding<c.slashDelay) && decide (c.slashDelay≤1048576)
 | 13=>bt c.ringLen 1 4096
 | 14=>bt c.epochLen 1 4096
 | 15=>bt c.visits 1 4096
 | 16=>bt c.payments 1 4096
 | 17=>decide (0≤c.partials) && decide (c.partials<c.visits) && decide (c.partials<c.payments)
 | 18=>bt c.merges 0 4096
 | 19=>decide (c.penNum≤c.penDen)
 | 20=>decide (1≤c.penDen) && decide (c.penDen≤4294967296)
 | _=>true
theorem right_1 (c:Cfg) (w:World):Calls Tryz.prog 48 #[.agg c.cells,.int .i64 1] w fun r w'=>r=.returned (.bool (fieldB c 1))∧Below w.heap.size w w':=by
 have HI:Hid (fieldB c 1=bt c.capacity 1 4096):=rfl;obtain ⟨k1,k2,k3,k4,k5,k6,k7,k8,k9,k10,k11,k12,k13,k14,k15,k16,k17,k18,k19,k20⟩:=c;unfold Cfg.cells;(try simp only[] at *);go_enter Tryz.func48,Tryz.ntmps48;go_wp2_with (go_at_call 103;refine(between_any _ _ _ _).mono ?_;rintro r w1 ⟨rfl,rfl⟩);go_ret;exact⟨ret_b HI.out.symm,by(repeat (with_reducible first|exact Below.refl _ _|refine Below.drew ?_|refine Below.alloc ?_ (by first|omega|(simp<;>omega)) _))⟩
theorem right_2 (c:Cfg) (w:World):Calls Tryz.prog 48 #[.agg c.cells,.int .i64 2] w fun r w'=>r=.returned (.bool (fieldB c 2))∧Below w.heap.size w w':=by
 have HI:Hid (fieldB c 2=bt c.queueSize 1 4096):=rfl;obtain ⟨k1,k2,k3,k4,k5,k6,k7,k8,k9,k10,k11,k12,k13,k14,k15,k16,k17,k18,k19,k20⟩:=c;unfold Cfg.cells;(try simp only[] at *);go_enter Tryz.func48,Tryz.ntmps48;go_wp2_with (go_at_call 103;refine(between_any _ _ _ _).mono ?_;rintro r w1 ⟨rfl,rfl⟩);go_ret;exact⟨ret_b HI.out.symm,by(repeat (with_reducible first|exact Below.refl _ _|refine Below.drew ?_|refine Below.alloc ?_ (by first|omega|(simp<;>omega)) _))⟩
theorem right_3 (c:Cfg) (w:World):Calls Tryz.prog 48 #[.agg c.cells,.int .i64 3] w fun r w'=>r=.returned (.bool (fieldB c 3))∧Below w.heap.size w w':=by
 have HI:Hid (fieldB c 3=decide (1≤c.minDeposit)):=rfl;obtain ⟨k1,k2,k3,k4,k5,k6,k7,k8,k9,k10,k11,k12,k13,k14,k15,k16,k17,k18,k19,k20⟩:=c;unfold Cfg.cells;(try simp only[] at *);go_enter Tryz.func48,Tryz.ntmps48;go_wp2_with (go_at_call 103;refine(between_any _ _ _ _).mono ?_;rintro r w1 ⟨rfl,rfl⟩);go_ret;exact⟨ret_b HI.out.symm,by(repeat (with_reducible first|exact Below.refl _ _|refine Below.drew ?_|refine Below.alloc ?_ (by first|omega|(simp<;>omega)) _))⟩
theorem right_4 (c:Cfg) (w:World):Calls Tryz.prog 48 #[.agg c.cells,.int .i64 4] w fun r w'=>r=.returned (.bool (fieldB c 4))∧Below w.heap.size w w':=by
 have HI:Hid (fieldB c 4=decide (c.minDeposit≤c.maxDeposit)):=rfl;obtain ⟨k1,k2,k3,k4,k5,k6,k7,k8,k9,k10,k11,k12,k13,k14,k15,k16,k17,k18,k19,k20⟩:=c;unfold Cfg.cells;(try simp only[] at *);go_enter Tryz.func48,Tryz.ntmps48;go_wp2_with (go_at_call 103;refine(between_any _ _ _ _).mono ?_;rintro r w1 ⟨rfl,rfl⟩);go_ret;exact⟨ret_b HI.out.symm,by(repeat (with_reducible first|exact Below.refl _ _|refine Below.drew ?_|refine Below.alloc ?_ (by first|omega|(simp<;>omega)) _))⟩
theorem right_5 (c:Cfg) (w:World):Calls Tryz.prog 48 #[.agg c.cells,.int .i64 5] w fun r w'=>r=.returned (.bool (fieldB c 5))∧Below w.heap.size w w':=by
 by_cases h:c.maxDeposit≤c.supplyCap;(focus (have HI:Hid (fieldB c 5=decide (c.supplyCap≤1152921504606846976)):=(by simp[Hid,fieldB,h]);have hd:decide (c.maxDeposit≤c.supplyCap)=true:=(by simpa using h);clear h;obtain ⟨k1,k2,k3,k4,k5,k6,k7,k8,k9,k10,k11,k12,k13,k14,k15,k16,k17,k18,k19,k20⟩:=c;unfold Cfg.cells;(try simp only[] at *);go_enter Tryz.func48,Tryz.ntmps48;go_wp2_with (go_at_call 103;refine(between_any _ _ _ _).mono ?_;rintro r w1 ⟨rfl,rfl⟩);go_ret;exact⟨ret_b HI.out.symm,by(repeat (with_reducible first|exact Below.refl _ _|refine Below.drew ?_|refine Below.alloc ?_ (by first|omega|(simp<;>omega)) _))⟩));(focus (have HI:Hid (fieldB c 5=false):=(by simp[Hid,fieldB,h]);have hd:decide (c.maxDeposit≤c.supplyCap)=false:=(by simpa using h);clear h;obtain ⟨k1,k2,k3,k4,k5,k6,k7,k8,k9,k10,k11,k12,k13,k14,k15,k16,k17,k18,k19,k20⟩:=c;unfold Cfg.cells;(try simp only[] at *);go_enter Tryz.func48,Tryz.ntmps48;go_wp2_with (go_at_call 103;refine(between_any _ _ _ _).mono ?_;rintro r w1 ⟨rfl,rfl⟩);go_ret;exact⟨ret_b HI.out.symm,by(repeat (with_reducible first|exact Below.refl _ _|refine Below.drew ?_|refine Below.alloc ?_ (by first|omega|(simp<;>omega)) _))⟩))
theorem right_6 (c:Cfg) (w:World):Calls Tryz.prog 48 #[.agg c.cells,.int .i64 6] w fun r w'=>r=.returned (.bool (fieldB c 6))∧Below w.heap.size w w':=by
 by_cases h:1≤c.minBalance;(focus (have HI:Hid (fieldB c 6=decide (c.minBalance≤c.minDeposit)):=(by simp[Hid,fieldB,h]);have hd:decide (1≤c.minBalance)=true:=(by simpa using h);clear h;obtain ⟨k1,k2,k3,k4,k5,k6,k7,k8,k9,k10,k11,k12,k13,k14,k15,k16,k17,k18,k19,k20⟩:=c;unfold Cfg.cells;(try simp only[] at *);go_enter Tryz.func48,Tryz.ntmps48;go_wp2_with (go_at_call 103;refine(between_any _ _ _ _).mono ?_;rintro r w1 ⟨rfl,rfl⟩);go_ret;exact⟨ret_b HI.out.symm,by(repeat (with_reducible first|exact Below.refl _ _|refine Below.drew ?_|refine Below.alloc ?_ (by first|omega|(simp<;>omega)) _))⟩));(focus (have HI:Hid (fieldB c 6=false):=(by simp[Hid,fieldB,h]);have hd:decide (1≤c.minBalance)=false:=(by simpa using h);clear h;obtain ⟨k1,k2,k3,k4,k5,k6,k7,k8,k9,k10,k11,k12,k13,k14,k15,k16,k17,k18,k19,k20⟩:=c;unfold Cfg.cells;(try simp only[] at *);go_enter Tryz.func48,Tryz.ntmps48;go_wp2_with (go_at_call 103;refine(between_any _ _ _ _).mono ?_;rintro r w1 ⟨rfl,rfl⟩);go_ret;exact⟨ret_b HI.out.symm,by(repeat (with_reducible first|exact Below.refl _ _|refine Below.drew ?_|refine Below.alloc ?_ (by first|omega|(simp<;>omega)) _))⟩))
theorem right_7 (c:Cfg) (w:World):Calls Tryz.prog 48 #[.agg c.cells,.int .i64 7] w fun r w'=>r=.returned (.bool (fieldB c 7))∧Below w.heap.size w w':=by
 by_cases h:c.maxDeposit≤c.maxBalance;(focus (have HI:Hid (fieldB c 7=decide (c.maxBalance≤c.supplyCap)):=(by simp[Hid,fieldB,h]);have hd:decide (c.maxDeposit≤c.maxBalance)=true:=(by simpa using h);clear h;obtain ⟨k1,k2,k3,k4,k5,k6,k7,k8,k9,k10,k11,k12,k13,k14,k15,k16,k17,k18,k19,k20⟩:=c;unfold Cfg.cells;(try simp only[] at *);go_enter Tryz.func48,Tryz.ntmps48;go_wp2_with (go_at_call 103;refine(between_any _ _ _ _).mono ?_;rintro r w1 ⟨rfl,rfl⟩);go_ret;exact⟨ret_b HI.out.symm,by(repeat (with_reducible first|exact Below.refl _ _|refine Below.drew ?_|refine Below.alloc ?_ (by first|omega|(simp<;>omega)) _))⟩));(focus (have HI:Hid (fieldB c 7=false):=(by simp[Hid,fieldB,h]);have hd:decide (c.maxDeposit≤c.maxBalance)=false:=(by simpa using h);clear h;obtain ⟨k1,k2,k3,k4,k5,k6,k7,k8,k9,k10,k11,k12,k13,k14,k15,k16,k17,k18,k19,k20⟩:=c;unfold Cfg.cells;(try simp only[] at *);go_enter Tryz.func48,Tryz.ntmps48;go_wp2_with (go_at_call 103;refine(between_any _ _ _ _).mono ?_;rintro r w1 ⟨rfl,rfl⟩);go_ret;exact⟨ret_b HI.out.symm,by(repeat (with_reducible first|exact Below.refl _ _|refine Below.drew ?_|refine Below.alloc ?_ (by first|omega|(simp<;>omega)) _))⟩))
theorem right_8 (c:Cfg) (w:World):Calls Tryz.prog 48 #[.agg c.cells,.int .i64 8] w fun r w'=>r=.returned (.bool (fieldB c 8))∧Below w.heap.size w w':=by
 by_cases h:1≤c.minChurn;(focus (have HI:Hid (fieldB c 8=decide (c.minChurn≤1152921504606846976)):=(by simp[Hid,fieldB,h]);have hd:decide (1≤c.minChurn)=true:=(by simpa using h);clear h;obtain ⟨k1,k2,k3,k4,k5,k6,k7,k8,k9,k10,k11,k12,k13,k14,k15,k16,k17,k18,k19,k20⟩:=c;unfold Cfg.cells;(try simp only[] at *);go_enter Tryz.func48,Tryz.ntmps48;go_wp2_with (go_at_call 103;refine(between_any _ _ _ _).mono ?_;rintro r w1 ⟨rfl,rfl⟩);go_ret;exact⟨ret_b HI.out.symm,by(repeat (with_reducible first|exact Below.refl _ _|refine Below.drew ?_|refine Below.alloc ?_ (by first|omega|(simp<;>omega)) _))⟩));(focus (have HI:Hid (fieldB c 8=false):=(by simp[Hid,fieldB,h]);have hd:decide (1≤c.minChurn)=false:=(by simpa using h);clear h;obtain ⟨k1,k2,k3,k4,k5,k6,k7,k8,k9,k10,k11,k12,k13,k14,k15,k16,k17,k18,k19,k20⟩:=c;unfold Cfg.cells;(try simp only[] at *);go_enter Tryz.func48,Tryz.ntmps48;go_wp2_with (go_at_call 103;refine(between_any _ _ _ _).mono ?_;rintro r w1 ⟨rfl,rfl⟩);go_ret;exact⟨ret_b HI.out.symm,by(repeat (with_reducible first|exact Below.refl _ _|refine Below.drew ?_|refine Below.alloc ?_ (by first|omega|(simp<;>omega)) _))⟩))
theorem right_9 (c:Cfg) (w:World):Calls Tryz.prog 48 #[.agg c.cells,.int .i64 9] w fun r w'=>r=.returned (.bool (fieldB c 9))∧Below w.heap.size w w':=by
 have HI:Hid (fieldB c 9=decide (1≤c.quotient)):=rfl;obtain ⟨k1,k2,k3,k4,k5,k6,k7,k8,k9,k10,k11,k12,k13,k14,k15,k16,k17,k18,k19,k20⟩:=c;unfold Cfg.cells;(try simp only[] at *);go_enter Tryz.func48,Tryz.ntmps48;go_wp2_with (go_at_call 103;refine(between_any _ _ _ _).mono ?_;rintro r w1 ⟨rfl,rfl⟩);go_ret;exact⟨ret_b HI.out.symm,by(repeat (with_reducible first|exact Below.refl _ _|refine Below.drew ?_|refine Below.alloc ?_ (by first|omega|(simp<;>omega)) _))⟩
theorem right_10 (c:Cfg) (w:World):Calls Tryz.prog 48 #[.agg c.cells,.int .i64 10] w fun r w'=>r=.returned (.bool (fieldB c 10))∧Below w.heap.size w w':=by
 have HI:Hid (fieldB c 10=decide (c.forcedCap≤1152921504606846976)):=rfl;obtain ⟨k1,k2,k3,k4,k5,k6,k7,k8,k9,k10,k11,k12,k13,k14,k15,k16,k17,k18,k19,k20⟩:=c;unfold Cfg.cells;(try simp only[] at *);go_enter Tryz.func48,Tryz.ntmps48;go_wp2_with (go_at_call 103;refine(between_any _ _ _ _).mono ?_;rintro r w1 ⟨rfl,rfl⟩);go_ret;exact⟨ret_b HI.out.symm,by(repeat (with_reducible first|exact Below.refl _ _|refine Below.drew ?_|refine Below.alloc ?_ (by first|omega|(simp<;>omega)) _))⟩
theorem right_11 (c:Cfg) (w:World):Calls Tryz.prog 48 #[.agg c.cells,.int .i64 11] w fun r w'=>r=.returned (.bool (fieldB c 11))∧Below w.heap.size w w':=by
 have HI:Hid (fieldB c 11=bt c.unbonding 1 1048576):=rfl;obtain ⟨k1,k2,k3,k4,k5,k6,k7,k8,k9,k10,k11,k12,k13,k14,k15,k16,k17,k18,k19,k20⟩:=c;unfold Cfg.cells;(try simp only[] at *);go_enter Tryz.func48,Tryz.ntmps48;go_wp2_with (go_at_call 103;refine(between_any _ _ _ _).mono ?_;rintro r w1 ⟨rfl,rfl⟩);go_ret;exact⟨ret_b HI.out.symm,by(repeat (with_reducible first|exact Below.refl _ _|refine Below.drew ?_|refine Below.alloc ?_ (by first|omega|(simp<;>omega)) _))⟩
theorem right_12 (c:Cfg) (w:World):Calls Tryz.prog 48 #[.agg c.cells,.int .i64 12] w fun r w'=>r=.returned (.bool (fieldB c 12))∧Below w.heap.size w w':=by
 by_cases h:c.unbonding<c.slashDelay;(focus (have HI:Hid (fieldB c 12=decide (c.slashDelay≤1048576)):=(by simp[Hid,fieldB,h]);have hd:decide (c.unbonding<c.slashDelay)=true:=(by simpa using h);clear h;obtain ⟨k1,k2,k3,k4,k5,k6,k7,k8,k9,k10,k11,k12,k13,k14,k15,k16,k17,k18,k19,k20⟩:=c;unfold Cfg.cells;(try simp only[] at *);go_enter Tryz.func48,Tryz.ntmps48;go_wp2_with (go_at_call 103;refine(between_any _ _ _ _).mono ?_;rintro r w1 ⟨rfl,rfl⟩);go_ret;exact⟨ret_b HI.out.symm,by(repeat (with_reducible first|exact Below.refl _ _|refine Below.drew ?_|refine Below.alloc ?_ (by first|omega|(simp<;>omega)) _))⟩));(focus (have HI:Hid (fieldB c 12=false):=(by simp[Hid,fieldB,h]);have hd:decide (c.unbonding<c.slashDelay)=false:=(by simpa using h);clear h;obtain ⟨k1,k2,k3,k4,k5,k6,k7,k8,k9,k10,k11,k12,k13,k14,k15,k16,k17,k18,k19,k20⟩:=c;unfold Cfg.cells;(try simp only[] at *);go_enter Tryz.func48,Tryz.ntmps48;go_wp2_with (go_at_call 103;refine(between_any _ _ _ _).mono ?_;rintro r w1 ⟨rfl,rfl⟩);go_ret;exact⟨ret_b HI.out.symm,by(repeat (with_reducible first|exact Below.refl _ _|refine Below.drew ?_|refine Below.alloc ?_ (by first|omega|(simp<;>omega)) _))⟩))
theorem right_13 (c:Cfg) (w:World):Calls Tryz.prog 48 #[.agg c.cells,.int .i64 13] w fun r w'=>r=.returned (.bool (fieldB c 13))∧Below w.heap.size w w':=by
 have HI:Hid (fieldB c 13=bt c.ringLen 1 4096):=rfl;obtain ⟨k1,k2,k3,k4,k5,k6,k7,k8,k9,k10,k11,k12,k13,k14,k15,k16,k17,k18,k19,k20⟩:=c;unfold Cfg.cells;(try simp only[] at *);go_enter Tryz.func48,Tryz.ntmps48;go_wp2_with (go_at_call 103;refine(between_any _ _ _ _).mono ?_;rintro r w1 ⟨rfl,rfl⟩);go_ret;exact⟨ret_b HI.out.symm,by(repeat (with_reducible first|exact Below.refl _ _|refine Below.drew ?_|refine Below.alloc ?_ (by first|omega|(simp<;>omega)) _))⟩
theorem right_14 (c:Cfg) (w:World):Calls Tryz.prog 48 #[.agg c.cells,.int .i64 14] w fun r w'=>r=.returned (.bool (fieldB c 14))∧Below w.heap.size w w':=by
 have HI:Hid (fieldB c 14=bt c.epochLen 1 4096):=rfl;obtain ⟨k1,k2,k3,k4,k5,k6,k7,k8,k9,k10,k11,k12,k13,k14,k15,k16,k17,k18,k19,k20⟩:=c;unfold Cfg.cells;(try simp only[] at *);go_enter Tryz.func48,Tryz.ntmps48;go_wp2_with (go_at_call 103;refine(between_any _ _ _ _).mono ?_;rintro r w1 ⟨rfl,rfl⟩);go_ret;exact⟨ret_b HI.out.symm,by(repeat (with_reducible first|exact Below.refl _ _|refine Below.drew ?_|refine Below.alloc ?_ (by first|omega|(simp<;>omega)) _))⟩
theorem right_15 (c:Cfg) (w:World):Calls Tryz.prog 48 #[.agg c.cells,.int .i64 15] w fun r w'=>r=.returned (.bool (fieldB c 15))∧Below w.heap.size w w':=by
 have HI:Hid (fieldB c 15=bt c.visits 1 4096):=rfl;obtain ⟨k1,k2,k3,k4,k5,k6,k7,k8,k9,k10,k11,k12,k13,k14,k15,k16,k17,k18,k19,k20⟩:=c;unfold Cfg.cells;(try simp only[] at *);go_enter Tryz.func48,Tryz.ntmps48;go_wp2_with (go_at_call 103;refine(between_any _ _ _ _).mono ?_;rintro r w1 ⟨rfl,rfl⟩);go_ret;exact⟨ret_b HI.out.symm,by(repeat (with_reducible first|exact Below.refl _ _|refine Below.drew ?_|refine Below.alloc ?_ (by first|omega|(simp<;>omega)) _))⟩
theorem right_16 (c:Cfg) (w:World):Calls Tryz.prog 48 #[.agg c.cells,.int .i64 16] w fun r w'=>r=.returned (.bool (fieldB c 16))∧Below w.heap.size w w':=by
 have HI:Hid (fieldB c 16=bt c.payments 1 4096):=rfl;obtain ⟨k1,k2,k3,k4,k5,k6,k7,k8,k9,k10,k11,k12,k13,k14,k15,k16,k17,k18,k19,k20⟩:=c;unfold Cfg.cells;(try simp only[] at *);go_enter Tryz.func48,Tryz.ntmps48;go_wp2_with (go_at_call 103;refine(between_any _ _ _ _).mono ?_;rintro r w1 ⟨rfl,rfl⟩);go_ret;exact⟨ret_b HI.out.symm,by(repeat (with_reducible first|exact Below.refl _ _|refine Below.drew ?_|refine Below.alloc ?_ (by first|omega|(simp<;>omega)) _))⟩
theorem right_18 (c:Cfg) (w:World):Calls Tryz.prog 48 #[.agg c.cells,.int .i64 18] w fun r w'=>r=.returned (.bool (fieldB c 18))∧Below w.heap.size w w':=by
 have HI:Hid (fieldB c 18=bt c.merges 0 4096):=rfl;obtain ⟨k1,k2,k3,k4,k5,k6,k7,k8,k9,k10,k11,k12,k13,k14,k15,k16,k17,k18,k19,k20⟩:=c;unfold Cfg.cells;(try simp only[] at *);go_enter Tryz.func48,Tryz.ntmps48;go_wp2_with (go_at_call 103;refine(between_any _ _ _ _).mono ?_;rintro r w1 ⟨rfl,rfl⟩);go_ret;exact⟨ret_b HI.out.symm,by(repeat (with_reducible first|exact Below.refl _ _|refine Below.drew ?_|refine Below.alloc ?_ (by first|omega|(simp<;>omega)) _))⟩
theorem right_19 (c:Cfg) (w:World):Calls Tryz.prog 48 #[.agg c.cells,.int .i64 19] w fun r w'=>r=.returned (.bool (fieldB c 19))∧Below w.heap.size w w':=by
 have HI:Hid (fieldB c 19=decide (c.penNum≤c.penDen)):=rfl;obtain ⟨k1,k2,k3,k4,k5,k6,k7,k8,k9,k10,k11,k12,k13,k14,k15,k16,k17,k18,k19,k20⟩:=c;unfold Cfg.cells;(try simp only[] at *);go_enter Tryz.func48,Tryz.ntmps48;go_wp2_with (go_at_call 103;refine(between_any _ _ _ _).mono ?_;rintro r w1 ⟨rfl,rfl⟩);go_ret;exact⟨ret_b HI.out.symm,by(repeat (with_reducible first|exact Below.refl _ _|refine Below.drew ?_|refine Below.alloc ?_ (by first|omega|(simp<;>omega)) _))⟩
theorem right_20 (c:Cfg) (w:World):Calls Tryz.prog 48 #[.agg c.cells,.int .i64 20] w fun r w'=>r=.returned (.bool (fieldB c 20))∧Below w.heap.size w w':=by
 by_cases h:1≤c.penDen;(focus (have HI:Hid (fieldB c 20=decide (c.penDen≤4294967296)):=(by simp[Hid,fieldB,h]);have hd:decide (1≤c.penDen)=true:=(by simpa using h);clear h;obtain ⟨k1,k2,k3,k4,k5,k6,k7,k8,k9,k10,k11,k12,k13,k14,k15,k16,k17,k18,k19,k20⟩:=c;unfold Cfg.cells;(try simp only[] at *);go_enter Tryz.func48,Tryz.ntmps48;go_wp2_with (go_at_call 103;refine(between_any _ _ _ _).mono ?_;rintro r w1 ⟨rfl,rfl⟩);go_ret;exact⟨ret_b HI.out.symm,by(repeat (with_reducible first|exact Below.refl _ _|refine Below.drew ?_|refine Below.alloc ?_ (by first|omega|(simp<;>omega)) _))⟩));(focus (have HI:Hid (fieldB c 20=false):=(by simp[Hid,fieldB,h]);have hd:decide (1≤c.penDen)=false:=(by simpa using h);clear h;obtain ⟨k1,k2,k3,k4,k5,k6,k7,k8,k9,k10,k11,k12,k13,k14,k15,k16,k17,k18,k19,k20⟩:=c;unfold Cfg.cells;(try simp only[] at *);go_enter Tryz.func48,Tryz.ntmps48;go_wp2_with (go_at_call 103;refine(between_any _ _ _ _).mono ?_;rintro r w1 ⟨rfl,rfl⟩);go_ret;exact⟨ret_b HI.out.symm,by(repeat (with_reducible first|exact Below.refl _ _|refine Below.drew ?_|refine Below.alloc ?_ (by first|omega|(simp<;>omega)) _))⟩))
theorem right_17 (c:Cfg) (w:World):Calls Tryz.prog 48 #[.agg c.cells,.int .i64 17] w fun r w'=>r=.returned (.bool (fieldB c 17))∧Below w.heap.size w w':=by
 by_cases h:0≤c.partials
 ·by_cases h2:c.partials<c.visits
  ·have HI:Hid (fieldB c 17=decide (c.partials<c.payments)):=by simp[Hid,fieldB,h,h2]
   have hd:decide (0≤c.partials)=true:=by simpa using h
   have hd2:decide (c.partials<c.visits)=true:=by simpa using h2
   clear h h2
   obtain ⟨k1,k2,k3,k4,k5,k6,k7,k8,k9,k10,k11,k12,k13,k14,k15,k16,k17,k18,k19,k20⟩:=c;unfold Cfg.cells;(try simp only[] at *);go_enter Tryz.func48,Tryz.ntmps48;go_wp2_with (go_at_call 103;refine(between_any _ _ _ _).mono ?_;rintro r w1 ⟨rfl,rfl⟩)
   go_ret;exact⟨ret_b HI.out.symm,by(repeat (with_reducible first|exact Below.refl _ _|refine Below.drew ?_|refine Below.alloc ?_ (by first|omega|(simp<;>omega)) _))⟩
  ·have HI:Hid (fieldB c 17=false):=by simp[Hid,fieldB,h,h2]
   have hd:decide (0≤c.partials)=true:=by simpa using h
   have hd2:decide (c.partials<c.visits)=false:=by simpa using h2
   clear h h2
   obtain ⟨k1,k2,k3,k4,k5,k6,k7,k8,k9,k10,k11,k12,k13,k14,k15,k16,k17,k18,k19,k20⟩:=c;unfold Cfg.cells;(try simp only[] at *);go_enter Tryz.func48,Tryz.ntmps48;go_wp2_with (go_at_call 103;refine(between_any _ _ _ _).mono ?_;rintro r w1 ⟨rfl,rfl⟩)
   go_ret;exact⟨ret_b HI.out.symm,by(repeat (with_reducible first|exact Below.refl _ _|refine Below.drew ?_|refine Below.alloc ?_ (by first|omega|(simp<;>omega)) _))⟩
 ·have HI:Hid (fieldB c 17=false):=by simp[Hid,fieldB,h]
  have hd:decide (0≤c.partials)=false:=by simpa using h
  clear h
  obtain ⟨k1,k2,k3,k4,k5,k6,k7,k8,k9,k10,k11,k12,k13,k14,k15,k16,k17,k18,k19,k20⟩:=c;unfold Cfg.cells;(try simp only[] at *);go_enter Tryz.func48,Tryz.ntmps48;go_wp2_with (go_at_call 103;refine(between_any _ _ _ _).mono ?_;rintro r w1 ⟨rfl,rfl⟩)
  go_ret;exact⟨ret_b HI.out.symm,by(repeat (with_reducible first|exact Below.refl _ _|refine Below.drew ?_|refine Below.alloc ?_ (by first|omega|(simp<;>omega)) _))⟩
theorem right_any (c:Cfg) (i:Nat) (h1:1≤i) (h2:i≤20) (w:World):Calls Tryz.prog 48 #[.agg c.cells,.int .i64 i] w fun r w'=>r=.returned (.bool (fieldB c i))∧Below w.heap.size w w':=by
 have h:i=1∨i=2∨i=3∨i=4∨i=5∨i=6∨i=7∨i=8∨i=9∨i=10∨i=11∨i=12∨i=13∨i=14∨i=15∨i=16∨i=17∨i=18∨i=19∨i=20:=by omega
 rcases h with rfl|rfl|rfl|rfl|rfl|rfl|rfl|rfl|rfl|rfl|rfl|rfl|rfl|rfl|rfl|rfl|rfl|rfl|rfl|rfl
 ·rw[show((1:Nat):Int)=1 from rfl];exact right_1 c w
 ·rw[show((2:Nat):Int)=2 from rfl];exact right_2 c w
 ·rw[show((3:Nat):Int)=3 from rfl];exact right_3 c w
 ·rw[show((4:Nat):Int)=4 from rfl];exact right_4 c w
 ·rw[show((5:Nat):Int)=5 from rfl];exact right_5 c w
 ·rw[show((6:Nat):Int)=6 from rfl];exact right_6 c w
 ·rw[show((7:Nat):Int)=7 from rfl];exact right_7 c w
 ·rw[show((8:Nat):Int)=8 from rfl];exact right_8 c w
 ·rw[show((9:Nat):Int)=9 from rfl];exact right_9 c w
 ·rw[show((10:Nat):Int)=10 from rfl];exact right_10 c w
 ·rw[show((11:Nat):Int)=11 from rfl];exact right_11 c w
 ·rw[show((12:Nat):Int)=12 from rfl];exact right_12 c w
 ·rw[show((13:Nat):Int)=13 from rfl];exact right_13 c w
 ·rw[show((14:Nat):Int)=14 from rfl];exact right_14 c w
 ·rw[show((15:Nat):Int)=15 from rfl];exact right_15 c w
 ·rw[show((16:Nat):Int)=16 from rfl];exact right_16 c w
 ·rw[show((17:Nat):Int)=17 from rfl];exact right_17 c w
 ·rw[show((18:Nat):Int)=18 from rfl];exact right_18 c w
 ·rw[show((19:Nat):Int)=19 from rfl];exact right_19 c w
 ·rw[show((20:Nat):Int)=20 from rfl];exact right_20 c w
def checkGo (c:Cfg):Nat→Nat→Nat
 | 0,_=>0
 | n+1,i=>if fieldB c i then checkGo c n (i+1) else i
def checkF (c:Cfg):Nat:=checkGo c 20 1
theorem ret_i {k:IntKind} {x y:Int} (h:x=y):Ending.returned (.int k x)=.returned (.int k y):=by rw[h]
theorem checkF_zero {c:Cfg} (h:checkF c=0):∀ i,1≤i→i≤20→fieldB c i=true:=by
 have key:∀ n i,checkGo c n i=0→1≤i→∀ j,i≤j→j<i+n→fieldB c j=true:=by
  intro n
  induction n with
  | zero=>intro i _ _ j h1 h2;omega
  | succ n ih =>
   intro i hi h0 j h1 h2
   rw[checkGo] at hi
   by_cases hf:fieldB c i=true
   ·rw[if_pos hf] at hi
    by_cases hj:j=i
    ·rw[hj];exact hf
    ·exact ih (i+1) hi (by omega) j (by omega) (by omega)
   ·rw[if_neg hf] at hi;omega
 intro i h1 h2
 exact key 20 1 h (by omega) i h1 (by omega)
set_option maxHeartbeats 1000000 in
theorem rCheck_any (c:Cfg) (w:World):Calls Tryz.prog 16 #[.agg c.cells] w fun r w'=>r=.returned (.int .i64 (checkF c))∧Below w.heap.size w w':=by
 have HR:=Lib.hid (fun i h1 h2 w=>right_any c i h1 h2 w)
 have hs:checkF c=checkGo c (21 - 1) 1:=rfl
 have hb:=BlockIs.new w c.cells 30
 have HS:=Lib.hid hs
 have HB:=Lib.hid hb
 have HZ:=Lib.hid (cfg_size c)
 clear hs hb
 have HCG:∀ n k,n+1=21 - k→checkGo c (21 - k) k=if fieldB c k then checkGo c n (k+1) else k:=fun n k h=>by rw[← h];rfl
 have HCH:=Lib.hid HCG
 clear HCG
 generalize checkF c=R at *
 generalize c.cells=cs at *
 go_enter Tryz.func16,Tryz.ntmps16
 go_wp2
 go_loopw [3] (fun i wr=>∃ k:Nat,1≤k∧k≤21∧i=.int .i64 k∧Hid (R=checkGo c (21 - k) k)∧Hid (BlockIs wr w.heap.size cs 30)∧Below w.heap.size w wr) (fun i _=>(21 - intOf i).toNat)
 case atStart=>exact⟨1,by omega,by omega,rfl,HS,HB,by(repeat (with_reducible first|exact Below.refl _ _|refine Below.drew ?_|refine Below.alloc ?_ (by first|omega|(simp<;>omega)) _))⟩
 case round =>
  obtain ⟨k,hk1,hk2,rfl,HK,HW,hbel⟩:=hrel
  clear HS HB
  by_cases hlt:k≤20
  ·go_wp2_with (first|(go_at_call 48;fail)|((with_reducible refine wpList_load_row ?_ 30 (.tmp 1) ?_ w.heap.size ?_ 30 cs (0,0) _ ?_ Tryz.underlying30 rfl HZ.out ?_);(focus rfl);(focus rfl);(focus rfl);(focus exact HW.out)))
   refine(HR.out k hk1 hlt _).mono ?_
   rintro r w1 ⟨rfl,hb1⟩
   have HW1:Hid (BlockIs w1 w.heap.size cs 30):=Lib.hid (HW.out.below hb1 HW.out.lt)
   have hbel1:Below w.heap.size w w1:=hbel.trans (hb1.mono hbel.size)
   have HE:=HCH.out (21 - (k+1)) k (by omega)
   by_cases hf:fieldB c k=true
   ·have HN:Hid (R=checkGo c (21 - (k+1)) (k+1)):=by
     have h1:=HK.out
     rw[HE,if_pos hf] at h1
     exact h1
    rw[hf]
    clear HK HE hf
    go_wp2
    go_roundw
    case rel=>exact⟨k+1,by omega,by omega,by go_num,HN,HW1,hbel1⟩
    case measure=>simp[intOf]<;>omega
   ·have HN:Hid (R=k):=by
     have h1:=HK.out
     rw[HE,if_neg hf] at h1
     exact h1
    have hf':fieldB c k=false:=by simpa using hf
    rw[hf']
    clear HK HE hf hf'
    go_wp2
    go_ret
    exact⟨ret_i (by rw[HN.out]),hbel1⟩
  ·have HN:Hid (R=0):=by
    have h1:=HK.out
    rw[show 21 - k=0 by omega] at h1
    exact h1
   clear HK
   go_wp2
   go_ret
   exact⟨ret_i (by rw[HN.out];rfl),hbel⟩
end
section
open Go.RowKit
structure Asg where
 ix:Int
 cl:Int
 ep:Int
deriving DecidableEq
def asgL (x:Asg):List Value:=[.int .i64 x.ix,.int .i64 x.cl,.int .i64 x.ep]
structure Pm where
 ix:Int
 am:Int
 fl:Bool
deriving DecidableEq
def pmL (x:Pm):List Value:=[.int .i64 x.ix,.int .u64 x.am,.bool x.fl]
instance:EL asgL 3:=⟨fun _=>rfl,fun x u h=>by simp[asgL] at h;rcases h with rfl|rfl|rfl<;>rfl⟩
instance:EL pmL 3:=⟨fun _=>rfl,fun x u h=>by simp[pmL] at h;rcases h with rfl|rfl|rfl<;>rfl⟩
structure Rc where
 k:Int
 c:Int
 ix:Int
 bk:Int
 ep:Int
 dl:Int
 vi:Int
 asg:List Asg
 pms:List Pm
deriving DecidableEq
def rcL (r:Rc) (s p:SlH):List Value:=[.int .i64 r.k,.int .i64 r.c,.int .i64 r.ix,.int .i64 r.bk,.int .i64 r.ep,.int .i64 r.dl,sl s,sl p,.int .i64 r.vi]
abbrev rcV (r:Rc) (s p:SlH):Value:=.agg (rcL r s p).toArray
structure RcG (L:List Asn) (x:Rc) (s p:SlH):Prop where
 a:GS L 3 (sl s) x.asg.length (x.asg.flatMap asgL)
 p:GS L 3 (sl p) x.pms.length (x.pms.flatMap pmL)
theorem RcG.imp {L K:List Asn} {x:Rc} {s p:SlH} (h:RcG L x s p) (hk:∀ w,Mem w K→Mem w L):RcG K x s p:=⟨h.a.imp hk,h.p.imp hk⟩
structure Opn where
 k:Int
 ix:Int
 tg:Int
 am:Int
deriving DecidableEq
def opL (o:Opn):List Value:=[.int .i64 o.k,.int .i64 o.ix,.int .i64 o.tg,.int .u64 o.am]
instance:EL opL 4:=⟨fun _=>rfl,fun x u h=>by simp[opL] at h;rcases h with rfl|rfl|rfl|rfl<;>rfl⟩
abbrev nilH:SlH:=⟨none,0,0⟩
theorem RcG.nil {L:List Asn} {k c ix bk ep dl vi:Int}:RcG L ⟨k,c,ix,bk,ep,dl,vi,[],[]⟩ nilH nilH:=⟨GS.nil _ _,GS.nil _ _⟩
structure Rc.wf (x:Rc):Prop where
 k:I64 x.k
 c:I64 x.c
 ix:I64 x.ix
 bk:I64 x.bk
 ep:I64 x.ep
 dl:I64 x.dl
 vi:I64 x.vi
 asg:∀ y∈x.asg,I64 y.ix∧I64 y.cl∧I64 y.ep
 pms:∀ y∈x.pms,I64 y.ix∧U64 y.am
structure RcS where
 r:Rc
 s:SlH
 p:SlH
def rsL (x:RcS):List Value:=rcL x.r x.s x.p
instance:EL rsL 9:=⟨fun _=>rfl,fun x u h=>by simp[rsL,rcL] at h;rcases h with rfl|rfl|rfl|rfl|rfl|rfl|rfl|rfl|rfl<;>rfl⟩
theorem op_of_sh {w:World} {l:List Value} (h:HasSh w (.agg [.int .i64,.int .i64,.int .i64,.int .u64]) l):∃ x:Opn,l=opL x∧(I64 x.k∧I64 x.ix∧I64 x.tg∧U64 x.am):=by
 obtain ⟨c1,r1,rfl,h1,h⟩:=shb_cons h
 obtain ⟨c2,r2,rfl,h2,h⟩:=shb_cons h
 obtain ⟨c3,r3,rfl,h3,h⟩:=shb_cons h
 obtain ⟨c4,r4,rfl,h4,h⟩:=shb_cons h
 have:=shb_nil h;subst this
 obtain ⟨a,rfl,ha⟩:=shb_int h1
 obtain ⟨b,rfl,hb⟩:=shb_int h2
 obtain ⟨c,rfl,hc⟩:=shb_int h3
 obtain ⟨d,rfl,hd⟩:=shb_int h4
 exact⟨⟨a,b,c,d⟩,rfl,i64_wf ha,i64_wf hb,i64_wf hc,u64_wf hd⟩
end
end Go.Proofs.YtopbohbkhljjgaaGreat
