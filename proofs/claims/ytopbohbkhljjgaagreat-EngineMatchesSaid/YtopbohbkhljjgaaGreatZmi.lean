import Derived.Test.YtopbohbkhljjgaaGreatZmh
set_option linter.unusedVariables false
set_option linter.unusedSimpArgs false
set_option linter.unusedSectionVars false
set_option maxRecDepth 100000
set_option maxHeartbeats 8000000
namespace Go.Proofs.YtopbohbkhljjgaaGreat
section
open Go.RowKit
def foldG {σ:Type}:List (Val→σ→Int × Val × σ)→Val→σ→Int × Val × σ
 | [],v,s=>(0,v,s)
 | g::gs,v,s=>if (g v s).1=0 then foldG gs (g v s).2.1 (g v s).2.2 else ((g v s).1,Val.zero,(g v s).2.2)
def ChgRun {σ:Type} (N C:List Nat) (I:σ→World→Prop) (p:FuncId × Array Value) (G:Val→σ→Int × Val × σ):Prop :=
 (∀ args w,(callFunc p.1 args).run Tryz.prog w=.ok (.enter p.1 args) w)∧∀ w b v s,I s w→BlockIs w b v.cells 48→b∉N→v.wf →
  ((G v s).1=0→(G v s).2.1.wf)∧Calls Tryz.prog p.1 (#[.pointer (some ⟨b,0,none⟩)]++p.2) w fun r w'=>r=.returned (.int .i64 (G v s).1)∧Upd (b::C) w w'∧I (G v s).2.2 w'∧((G v s).1=0→BlockIs w' b (G v s).2.1.cells 48)
def Chgs {σ:Type} (N C:List Nat) (I:σ→World→Prop):List (FuncId × Array Value)→List (Val→σ→Int × Val × σ)→Prop
 | [],[]=>True
 | p::ps,g::gs=>ChgRun N C I p g∧Chgs N C I ps gs
 | _,_=>False
theorem Chgs.len {σ:Type} {N C:List Nat} {I:σ→World→Prop}:∀ {ps:List (FuncId × Array Value)} {gs:List (Val→σ→Int × Val × σ)},Chgs N C I ps gs→ps.length=gs.length
 | [],[],_=>rfl
 | _::_,_::_,h=>by simp[Chgs.len h.2]
 | [],_::_,h=>h.elim
 | _::_,[],h=>h.elim
theorem Chgs.at {σ:Type} {N C:List Nat} {I:σ→World→Prop}:∀ {ps:List (FuncId × Array Value)} {gs:List (Val→σ→Int × Val × σ)},Chgs N C I ps gs→∀ (k:Nat) (h1:k<ps.length) (h2:k<gs.length),ChgRun N C I ps[k] gs[k]
 | [],[],_,_,h1,_=>absurd h1 (Nat.not_lt_zero _)
 | _::_,_::_,h,0,_,_=>h.1
 | _::_,_::_,h,k+1,h1,h2=>Chgs.at h.2 k (by simpa using h1) (by simpa using h2)
 | [],_::_,h,_,_,_=>h.elim
 | _::_,[],h,_,_,_=>h.elim
theorem ret_vi {cs cs':Array Value} {k:IntKind} {x y:Int} (h:cs=cs') (h':x=y):Ending.returned (.tuple #[.agg cs,.int k x])=.returned (.tuple #[.agg cs',.int k y]):=by rw[h,h']
theorem upd_new {C:List Nat} {w wr w1:World} (h:Upd C w wr) (k:Upd (w.heap.size::C) wr w1):Upd C w w1 :=
 ⟨k.os.trans h.os,k.tape.trans h.tape,k.output.trans h.output,Nat.le_trans h.size k.size,fun i hi hn=>(k.block i (Nat.lt_of_lt_of_le hi h.size) (by simp;exact⟨by omega,hn⟩)).trans (h.block i hi hn)⟩
theorem upd_set_new {C:List Nat} {w w1:World} (h:Upd C w w1) {b:Nat} (hb:w.heap.size≤b) (i:Nat) (v:Value):Upd C w (w1.setCell ⟨b,i,none⟩ v) :=
 ⟨h.os,h.tape,h.output,by simpa[World.setCell] using h.size,fun k hk hn=>(Below.heap_setCell _ _ _ _ (by show k≠b;omega)).trans (h.block k hk hn)⟩
set_option maxHeartbeats 2000000 in
theorem apply_any {σ:Type} (N C:List Nat) (I:σ→World→Prop) (ps:List (FuncId × Array Value)) (gs:List (Val→σ→Int × Val × σ)) (hc:Chgs N C I ps gs) (v:Val) (s:σ) (b off cap:Nat) (w:World) (hv:v.wf)
  (hI:I s w) (hst:∀ s w w',I s w→Below w.heap.size w w'→I s w') (hst':∀ s wr (i:Nat) (x:Value),I s wr→I s (wr.setCell ⟨w.heap.size+1,i,none⟩ x)) (hC:∀ c∈N,c<w.heap.size) (hC':∀ c∈C,c<w.heap.size)
  (hsl:∀ s w,I s w→∀ j (h:j<ps.length),w.cell? ⟨b,off+j,none⟩=some (.func (.func ps[j].1) #[] ps[j].2)) (hlen:ps.length≤1000) :
  Calls Tryz.prog 217 #[.agg v.cells,.slice (some ⟨b,off,none⟩) ps.length cap] w fun r w'=>r=.returned (.tuple #[.agg (foldG gs v s).2.1.cells,.int .i64 (foldG gs v s).1])∧Upd C w w'∧I (foldG gs v s).2.2 w':=by
 have HGL:=Lib.hid hc.len
 have hfin:foldG gs v s=foldG (gs.drop 0) v s:=rfl
 generalize foldG gs v s=R at *
 have hI0:=hst _ _ _ hI (((Below.refl w.heap.size w).alloc (Nat.le_refl _) (.cells v.cells 48)).alloc (by simp) (.cells Val.zero.cells 48))
 have hstart:∃ v' s',BlockIs ((w.alloc (.cells v.cells 48)).alloc (.cells Val.zero.cells 48)) w.heap.size v'.cells 48∧BlockIs ((w.alloc (.cells v.cells 48)).alloc (.cells Val.zero.cells 48)) (w.heap.size+1) Val.zero.cells 48 ∧
   I s' ((w.alloc (.cells v.cells 48)).alloc (.cells Val.zero.cells 48))∧Upd C w ((w.alloc (.cells v.cells 48)).alloc (.cells Val.zero.cells 48))∧v'.wf∧R=foldG (gs.drop 0) v' s' :=
  ⟨v,s,(BlockIs.new w _ _).alloc _,by have:=BlockIs.new (w.alloc (.cells v.cells 48)) Val.zero.cells 48;simpa using this,hI0,((Upd.refl _ _).alloc _).alloc _,hv,hfin⟩
 have HS:=Lib.hid hstart
 have HSL:=Lib.hid hsl
 have HC:=Lib.hid hc
 have HCC:=Lib.hid hC
 have HCD:=Lib.hid hC'
 have HST:=Lib.hid hst'
 clear hst' hstart hfin hI0 hI hst hc hsl hC hv
 obtain ⟨bal,st,sl,rq,ex,wd,dl⟩:=v
 simp only[Val.cells,Val.zero] at HS
 unfold Val.cells
 simp only[]
 go_enter Tryz.func217,Tryz.ntmps217
 go_wp2
 go_loopw [7,8,11] (fun _ _ i wr=>∃ (k:Nat) (v':Val) (s':σ),k≤ps.length∧i=.int .i64 k∧BlockIs wr w.heap.size v'.cells 48∧BlockIs wr (w.heap.size+1) Val.zero.cells 48∧I s' wr∧Upd C w wr∧v'.wf∧Hid (R=foldG (gs.drop k) v' s')) (fun _ _ i _=>ps.length - (intOf i).toNat)
 case atStart =>
  obtain ⟨v',s',h1,h2,h3,h4,h5,h6⟩:=HS.out
  exact⟨0,v',s',by omega,rfl,h1,h2,h3,h4,h5,h6⟩
 case round =>
  obtain ⟨k,v',s',hk,rfl,hb1,hb2,hI,hU,hw,HF⟩:=hrel
  clear HS
  by_cases hlt:k<ps.length
  ·have hcl:=HSL.out _ _ hI k hlt
   have hsz:w.heap.size+1<wr.heap.size:=hb2.lt
   have hnC:w.heap.size∉N:=fun h=>absurd (HCC.out _ h) (Nat.lt_irrefl _)
   have hkg:k<gs.length:=by have:=HGL.out;omega
   have hchg:=HC.out.at k hlt hkg
   have hcf:=hchg.1
   obtain ⟨hwf,hcall⟩:=hchg.2 wr w.heap.size v' s' hI hb1 hnC hw
   have HCALL:=Lib.hid hcall
   have HFD:Hid (R=foldG (gs[k]::gs.drop (k+1)) v' s'):=by
    have:=HF.out
    rwa [List.drop_eq_getElem_cons hkg] at this
   clear hcall HF hchg
   generalize gs[k]=G at *
   generalize ps[k]=p at *
   clear hkg
   have z0:=hb2.cell (i:=0) rfl
   clear z0
   go_wp2_with fail
   refine(HCALL.out).mono ?_
   rintro r w1 ⟨rfl,hu1,hI',hpost⟩
   have hb2':BlockIs w1 (w.heap.size+1) Val.zero.cells 48:=hb2.upd hu1 (by simp;exact fun h=>absurd (HCD.out _ h) (by omega))
   have hU1:Upd C w w1:=upd_new hU hu1
   by_cases hz:(G v' s').1=0
   ·have hb1':=hpost hz
    have hzb:((G v' s').1 != 0)=false:=by simp[hz]
    have HFN:Hid (R=foldG (gs.drop (k+1)) (G v' s').2.1 (G v' s').2.2):=by
     have:=HFD.out;rwa [foldG,if_pos hz] at this
    have hwf':=hwf hz
    clear hpost HFD HCALL hwf hz hb1 hb2 hI
    generalize (G v' s').2.1=v2 at *
    generalize (G v' s').2.2=s2 at *
    generalize (G v' s').1=code at *
    go_wp2
    go_roundw
    case rel=>exact⟨k+1,v2,s2,by omega,by go_num,hb1',hb2',hI',hU1,hwf',HFN⟩
    case measure=>simp[intOf]<;>omega
   ·have hzb:((G v' s').1 != 0)=true:=by simp[hz]
    have HFN:Hid (R=((G v' s').1,Val.zero,(G v' s').2.2)):=by
     have:=HFD.out;rwa [foldG,if_neg hz] at this
    obtain ⟨c0,c1,c2,c3,c4,c5,c6,f0,f1,f2,f3,f4,f5,f6⟩:=vfacts hb2'
    have HI:=Lib.hid hI'
    clear hpost HFD HCALL hwf hz hb1 hb2 hI hI'
    generalize (G v' s').2.2=s2 at *
    generalize (G v' s').1=code at *
    go_wp2
    refine bodyPost_ret (v:=.tuple #[.agg Val.zero.cells,.int .i64 code]) (by simp[results,Tryz.results217,go_sem,c0,c1,c2,c3,c4,c5,c6];rfl) rfl ⟨?_,?_,?_⟩
    ·exact ret_vi (by rw[HFN.out]<;>rfl) (by rw[HFN.out]<;>rfl)
    ·iterate 7 (with_reducible refine upd_set_new ?_ (by omega) _ _)
     exact hU1
    ·rw[HFN.out]
     iterate 7 (with_reducible refine HST.out _ _ _ _ ?_)
     exact HI.out
  ·have hge:ps.length≤k:=by omega
   have HFN:Hid (R=(0,v',s')):=by
    have:=HF.out;rwa [List.drop_of_length_le (by have:=HGL.out;omega),foldG] at this
   obtain ⟨bal',st',sl',rq',ex',wd',dl'⟩:=v'
   obtain ⟨a0,a1,a2,a3,a4,a5,a6,_,_,_,_,_,_,_⟩:=vfacts hb1
   obtain ⟨c0,c1,c2,c3,c4,c5,c6,f0,f1,f2,f3,f4,f5,f6⟩:=vfacts hb2
   clear hb1 hb2
   have HI:=Lib.hid hI
   clear hI hw
   go_wp2
   refine bodyPost_ret (v:=.tuple #[.agg (Val.cells ⟨bal',st',sl',rq',ex',wd',dl'⟩),.int .i64 0]) (by simp[results,Tryz.results217,go_sem,c0,c1,c2,c3,c4,c5,c6,Val.cells]) rfl ⟨?_,?_,?_⟩
   ·exact ret_vi (by rw[HFN.out]<;>rfl) (by rw[HFN.out]<;>rfl)
   ·iterate 7 (with_reducible refine upd_set_new ?_ (by omega) _ _)
    exact hU
   ·rw[HFN.out]
    iterate 7 (with_reducible refine HST.out _ _ _ _ ?_)
    exact HI.out
end
section
open Go.RowKit
set_option maxHeartbeats 1000000 in
theorem event_ok (b c:Nat) (bal st rq ex wd dl ev:Int) (sl:Bool) (w:World) (hv:BlockIs w b (Val.cells ⟨bal,st,sl,rq,ex,wd,dl⟩) 48) (hc:w.cell? ⟨c,0,none⟩=some (.int .i64 ev)) (hs:(Lit.int .i64 st).wf=true) (he:(Lit.int .i64 ev).wf=true) (hn:nextF st ev≠0) :
  Calls Tryz.prog 291 #[.pointer (some ⟨b,0,none⟩),.pointer (some ⟨c,0,none⟩)] w fun r w'=>r=.returned (.int .i64 0)∧Upd [b] w w' ∧
   BlockIs w' b (Val.cells ⟨bal,nextF st ev,sl,rq,ex,wd,dl⟩) 48:=by
 have ⟨v0,v1,v2,v3,v4,v5,v6,f0,f1,f2,f3,f4,f5,f6⟩:=vfacts hv
 have hl:=hv.lt
 have c0:=hc
 have hl2:c<w.heap.size:=World.block_lt_of_cell? w _ hc
 have HN:=Lib.hid (fun w=>next_status st ev hs he w)
 have hnb:(nextF st ev != 0)=true:=by simpa using hn
 generalize nextF st ev=x at *
 go_enter Tryz.func291,Tryz.ntmps291
 go_wp2_with fail
 go_region_held3 (fun w'=>w'.cell? ⟨b,1,none⟩=some (.int .i64 st)∧w'.cell? ⟨c,0,none⟩=some (.int .i64 ev)) (go_keep) (first|(go_at_call 271;refine(HN.out _).mono ?_;rintro r w1 ⟨rfl,hb0⟩;have hb1:=undrew hb0;have g1:=(hb1.cell (p:=⟨b,1,none⟩) hl).trans v1;have g2:=(hb1.cell (p:=⟨c,0,none⟩) hl2).trans c0;have g3:=(hb1.frozen (p:=⟨b,1,none⟩) hl).trans f1;have g4:=hv.below hb1 hl;have g5:Upd [b] w w1:=Upd.of_below hb1;clear hb1 hb0))
 go_wp2
 go_ret
 exact⟨rfl,g5.setCell (by simp) _ _,g4.set 1 _⟩
set_option maxHeartbeats 1000000 in
theorem event_no (b c:Nat) (bal st rq ex wd dl ev:Int) (sl:Bool) (w:World) (hv:BlockIs w b (Val.cells ⟨bal,st,sl,rq,ex,wd,dl⟩) 48) (hc:w.cell? ⟨c,0,none⟩=some (.int .i64 ev)) (hs:(Lit.int .i64 st).wf=true) (he:(Lit.int .i64 ev).wf=true) (hn:nextF st ev=0) :
  Calls Tryz.prog 291 #[.pointer (some ⟨b,0,none⟩),.pointer (some ⟨c,0,none⟩)] w fun r w'=>r=.returned (.int .i64 8)∧Upd [b] w w':=by
 have ⟨v0,v1,v2,v3,v4,v5,v6,f0,f1,f2,f3,f4,f5,f6⟩:=vfacts hv
 have hl:=hv.lt
 have c0:=hc
 have hl2:c<w.heap.size:=World.block_lt_of_cell? w _ hc
 have HN:=Lib.hid (fun w=>next_status st ev hs he w)
 have hnb:(nextF st ev != 0)=false:=by simpa using hn
 clear hn
 generalize nextF st ev=x at *
 go_enter Tryz.func291,Tryz.ntmps291
 go_wp2_with fail
 go_region_held3 (fun w'=>w'.cell? ⟨b,1,none⟩=some (.int .i64 st)∧w'.cell? ⟨c,0,none⟩=some (.int .i64 ev)) (go_keep) (first|(go_at_call 271;refine(HN.out _).mono ?_;rintro r w1 ⟨rfl,hb0⟩;have hb1:=undrew hb0;have g1:=(hb1.cell (p:=⟨b,1,none⟩) hl).trans v1;have g2:=(hb1.cell (p:=⟨c,0,none⟩) hl2).trans c0;have g5:Upd [b] w w1:=Upd.of_below hb1;clear hb1 hb0))
 go_wp2
 go_ret
 exact⟨rfl,g5⟩
set_option maxHeartbeats 1000000 in
theorem mark_act (b c:Nat) (bal st rq ex wd dl ep:Int) (sl:Bool) (w:World) (hv:BlockIs w b (Val.cells ⟨bal,st,sl,rq,ex,wd,dl⟩) 48) (hc:w.cell? ⟨c,0,none⟩=some (.int .i64 ep)) (hsl:sl=false) (h2:(st == 2)=true) (hbc:b≠c) :
  Calls Tryz.prog 214 #[.pointer (some ⟨b,0,none⟩),.pointer (some ⟨c,0,none⟩)] w fun r w'=>r=.returned (.int .i64 0)∧Upd [b] w w' ∧
   BlockIs w' b (Val.cells ⟨bal,st,true,ep,ex,wd,-1⟩) 48:=by
 have ⟨v0,v1,v2,v3,v4,v5,v6,f0,f1,f2,f3,f4,f5,f6⟩:=vfacts hv
 have hl:=hv.lt
 have c0:=hc
 subst hsl
 have hu:=hv
 go_enter Tryz.func214,Tryz.ntmps214
 go_wp2
 go_ret
 refine⟨rfl,?_,?_⟩
 ·repeat (with_reducible first|exact Upd.refl _ _|refine Upd.setCell ?_ (by simp) _ _)
 ·exact((hu.set 3 _).set 2 _).set 6 _
set_option maxHeartbeats 1000000 in
theorem mark_oth (b c:Nat) (bal st rq ex wd dl ep:Int) (sl:Bool) (w:World) (hv:BlockIs w b (Val.cells ⟨bal,st,sl,rq,ex,wd,dl⟩) 48) (hc:w.cell? ⟨c,0,none⟩=some (.int .i64 ep)) (hsl:sl=false) (h2:(st == 2)=false) (hbc:b≠c) :
  Calls Tryz.prog 214 #[.pointer (some ⟨b,0,none⟩),.pointer (some ⟨c,0,none⟩)] w fun r w'=>r=.returned (.int .i64 0)∧Upd [b] w w' ∧
   BlockIs w' b (Val.cells ⟨bal,st,true,rq,ex,wd,-1⟩) 48:=by
 have ⟨v0,v1,v2,v3,v4,v5,v6,f0,f1,f2,f3,f4,f5,f6⟩:=vfacts hv
 have hl:=hv.lt
 have c0:=hc
 subst hsl
 have hu:=hv
 go_enter Tryz.func214,Tryz.ntmps214
 go_wp2
 go_ret
 refine⟨rfl,?_,?_⟩
 ·repeat (with_reducible first|exact Upd.refl _ _|refine Upd.setCell ?_ (by simp) _ _)
 ·exact(hu.set 2 _).set 6 _
set_option maxHeartbeats 1000000 in
theorem mark_no (b c:Nat) (bal st rq ex wd dl ep:Int) (sl:Bool) (w:World) (hv:BlockIs w b (Val.cells ⟨bal,st,sl,rq,ex,wd,dl⟩) 48) (hsl:sl=true) :
  Calls Tryz.prog 214 #[.pointer (some ⟨b,0,none⟩),.pointer (some ⟨c,0,none⟩)] w fun r w'=>r=.returned (.int .i64 9)∧Upd [b] w w':=by
 have ⟨v0,v1,v2,v3,v4,v5,v6,f0,f1,f2,f3,f4,f5,f6⟩:=vfacts hv
 have hl:=hv.lt
 subst hsl
 go_enter Tryz.func214,Tryz.ntmps214
 go_wp2
 go_ret
 exact⟨rfl,Upd.refl _ _⟩
set_option maxHeartbeats 1000000 in
theorem due_ok (b c:Nat) (bal st rq ex wd dl ep:Int) (sl:Bool) (w:World) (hv:BlockIs w b (Val.cells ⟨bal,st,sl,rq,ex,wd,dl⟩) 48) (hc:w.cell? ⟨c,0,none⟩=some (.int .i64 ep)) (h:¬ep<wd) :
  Calls Tryz.prog 284 #[.pointer (some ⟨b,0,none⟩),.pointer (some ⟨c,0,none⟩)] w fun r w'=>r=.returned (.int .i64 0)∧Upd [b] w w' ∧
   BlockIs w' b (Val.cells ⟨0,st,sl,rq,ex,wd,dl⟩) 48:=by
 have ⟨v0,v1,v2,v3,v4,v5,v6,f0,f1,f2,f3,f4,f5,f6⟩:=vfacts hv
 have hl:=hv.lt
 have c0:=hc
 have hd:decide (ep<wd)=false:=by simpa using h
 go_enter Tryz.func284,Tryz.ntmps284
 go_wp2_with fail
 go_quiet (fail)
 go_wp2
 go_ret
 exact⟨rfl,((Upd.refl _ _).setCell (by simp) _ _).drewN _,(hv.set 0 _).drewN _⟩
set_option maxHeartbeats 1000000 in
theorem due_no (b c:Nat) (bal st rq ex wd dl ep:Int) (sl:Bool) (w:World) (hv:BlockIs w b (Val.cells ⟨bal,st,sl,rq,ex,wd,dl⟩) 48) (hc:w.cell? ⟨c,0,none⟩=some (.int .i64 ep)) (h:ep<wd) :
  Calls Tryz.prog 284 #[.pointer (some ⟨b,0,none⟩),.pointer (some ⟨c,0,none⟩)] w fun r w'=>r=.returned (.int .i64 8)∧Upd [b] w w':=by
 have ⟨v0,v1,v2,v3,v4,v5,v6,f0,f1,f2,f3,f4,f5,f6⟩:=vfacts hv
 have hl:=hv.lt
 have c0:=hc
 go_enter Tryz.func284,Tryz.ntmps284
 go_wp2_with fail
 go_quiet (fail)
 go_wp2
 go_ret
 exact⟨rfl,(Upd.refl _ _).drewN _⟩
set_option maxHeartbeats 1000000 in
theorem request_ok (b c:Nat) (bal st rq ex wd dl ep:Int) (sl:Bool) (w:World) (hv:BlockIs w b (Val.cells ⟨bal,st,sl,rq,ex,wd,dl⟩) 48) (hc:w.cell? ⟨c,0,none⟩=some (.int .i64 ep)) (hep:(Lit.int .i64 ep).wf=true) (h:laterB ep []=true) :
  Calls Tryz.prog 285 #[.pointer (some ⟨b,0,none⟩),.pointer (some ⟨c,0,none⟩)] w fun r w'=>r=.returned (.int .i64 0)∧Upd [b] w w' ∧
   BlockIs w' b (Val.cells ⟨bal,st,sl,ep,ex,wd,dl⟩) 48:=by
 have ⟨v0,v1,v2,v3,v4,v5,v6,f0,f1,f2,f3,f4,f5,f6⟩:=vfacts hv
 have hl:=hv.lt
 have c0:=hc
 have hl2:c<w.heap.size:=World.block_lt_of_cell? w _ hc
 have HL:=Lib.hid (fun w=>later_any ep (.slice none 0 0) [] w (SlR.nil _ _) (by simp) (bounds_i64 hep) (by simp))
 rw[h] at HL
 go_enter Tryz.func285,Tryz.ntmps285
 go_wp2_with (go_at_call 286;refine(HL.out _).mono ?_;rintro r w1 ⟨rfl,hb1⟩;have g3:=(hb1.frozen (p:=⟨b,3,none⟩) hl).trans f3;have g1:=(hb1.cell (p:=⟨b,3,none⟩) hl).trans v3;have g2:=(hb1.cell (p:=⟨c,0,none⟩) hl2).trans c0;have g4:=hv.below hb1 hl;have g5:Upd [b] w w1:=Upd.of_below hb1;clear hb1)
 go_ret
 exact⟨rfl,g5.setCell (by simp) _ _,g4.set 3 _⟩
set_option maxHeartbeats 1000000 in
theorem request_no (b c:Nat) (bal st rq ex wd dl ep:Int) (sl:Bool) (w:World) (hv:BlockIs w b (Val.cells ⟨bal,st,sl,rq,ex,wd,dl⟩) 48) (hc:w.cell? ⟨c,0,none⟩=some (.int .i64 ep)) (hep:(Lit.int .i64 ep).wf=true) (h:laterB ep []=false) :
  Calls Tryz.prog 285 #[.pointer (some ⟨b,0,none⟩),.pointer (some ⟨c,0,none⟩)] w fun r w'=>r=.returned (.int .i64 10)∧Upd [b] w w':=by
 have ⟨v0,v1,v2,v3,v4,v5,v6,f0,f1,f2,f3,f4,f5,f6⟩:=vfacts hv
 have hl:=hv.lt
 have c0:=hc
 have HL:=Lib.hid (fun w=>later_any ep (.slice none 0 0) [] w (SlR.nil _ _) (by simp) (bounds_i64 hep) (by simp))
 rw[h] at HL
 go_enter Tryz.func285,Tryz.ntmps285
 go_wp2_with (go_at_call 286;refine(HL.out _).mono ?_;rintro r w1 ⟨rfl,hb1⟩;have g5:Upd [b] w w1:=Upd.of_below hb1;clear hb1)
 go_ret
 exact⟨rfl,g5⟩
set_option maxHeartbeats 1000000 in
theorem fresh_ok (b c:Nat) (bal st rq ex wd dl xt:Int) (sl:Bool) (w:World) (hv:BlockIs w b (Val.cells ⟨bal,st,sl,rq,ex,wd,dl⟩) 48) (hc:w.cell? ⟨c,0,none⟩=some (.int .i64 xt)) (h1:(st != 3)=false) (h2:(ex != -1)=false) :
  Calls Tryz.prog 313 #[.pointer (some ⟨b,0,none⟩),.pointer (some ⟨c,0,none⟩)] w fun r w'=>r=.returned (.int .i64 0)∧Upd [b] w w' ∧
   BlockIs w' b (Val.cells ⟨bal,st,sl,rq,xt,wd,dl⟩) 48:=by
 have ⟨v0,v1,v2,v3,v4,v5,v6,f0,f1,f2,f3,f4,f5,f6⟩:=vfacts hv
 have hl:=hv.lt
 have c0:=hc
 go_enter Tryz.func313,Tryz.ntmps313
 go_wp2
 go_ret
 exact⟨rfl,(Upd.refl _ _).setCell (by simp) _ _,hv.set 4 _⟩
set_option maxHeartbeats 1000000 in
theorem fresh_no1 (b c:Nat) (bal st rq ex wd dl :Int) (sl:Bool) (w:World) (hv:BlockIs w b (Val.cells ⟨bal,st,sl,rq,ex,wd,dl⟩) 48) (h1:(st != 3)=true) :
  Calls Tryz.prog 313 #[.pointer (some ⟨b,0,none⟩),.pointer (some ⟨c,0,none⟩)] w fun r w'=>r=.returned (.int .i64 8)∧Upd [b] w w':=by
 have ⟨v0,v1,v2,v3,v4,v5,v6,f0,f1,f2,f3,f4,f5,f6⟩:=vfacts hv
 have hl:=hv.lt
 go_enter Tryz.func313,Tryz.ntmps313
 go_wp2
 go_ret
 exact⟨rfl,Upd.refl _ _⟩
set_option maxHeartbeats 1000000 in
theorem fresh_no2 (b c:Nat) (bal st rq ex wd dl :Int) (sl:Bool) (w:World) (hv:BlockIs w b (Val.cells ⟨bal,st,sl,rq,ex,wd,dl⟩) 48) (h1:(st != 3)=false) (h2:(ex != -1)=true) :
  Calls Tryz.prog 313 #[.pointer (some ⟨b,0,none⟩),.pointer (some ⟨c,0,none⟩)] w fun r w'=>r=.returned (.int .i64 8)∧Upd [b] w w':=by
 have ⟨v0,v1,v2,v3,v4,v5,v6,f0,f1,f2,f3,f4,f5,f6⟩:=vfacts hv
 have hl:=hv.lt
 go_enter Tryz.func313,Tryz.ntmps313
 go_wp2
 go_ret
 exact⟨rfl,Upd.refl _ _⟩
end
section
open Go.RowKit
theorem slr_of_block {w:World} {b:Nat} {c:Array Value} {t:TypeId} (h:BlockIs w b c t) (n:Nat) (hn:n=c.size) (hm:n≤maxLen):SlR w 1 (.slice (some ⟨b,0,none⟩) n n) n c.toList:=by
 subst hn
 exact⟨by simp,.inr ⟨b,0,c.size,rfl,h.lt,hm,fun j u hu=>by rw[Nat.zero_add];exact h.cell (by simpa using hu)⟩⟩
set_option maxHeartbeats 1000000 in
theorem delay_ok (b c d:Nat) (bal st rq ex wd dl ep dy:Int) (sl:Bool) (w:World) (hv:BlockIs w b (Val.cells ⟨bal,st,sl,rq,ex,wd,dl⟩) 48) (hc:w.cell? ⟨c,0,none⟩=some (.int .i64 ep)) (hd:w.cell? ⟨d,0,none⟩=some (.int .i64 dy))
  (hep:(Lit.int .i64 ep).wf=true) (hdy:(Lit.int .i64 dy).wf=true) (h:laterB ep [dy]=true) :
  Calls Tryz.prog 292 #[.pointer (some ⟨b,0,none⟩),.pointer (some ⟨c,0,none⟩),.pointer (some ⟨d,0,none⟩)] w fun r w'=>r=.returned (.int .i64 0)∧Upd [b] w w' ∧
   BlockIs w' b (Val.cells ⟨bal,st,sl,rq,ex,maxF [wd,laterF ep [dy]],dl⟩) 48:=by
 have ⟨v0,v1,v2,v3,v4,v5,v6,f0,f1,f2,f3,f4,f5,f6⟩:=vfacts hv
 have hl:=hv.lt
 have c0:=hc
 have d0:=hd
 have HL:=Lib.hid (later_any ep _ [dy] _ (slr_of_block (BlockIs.new w #[.int .i64 dy] 3) 1 rfl (by decide)) (by simp) (bounds_i64 hep) (by simp;exact bounds_i64 hdy))
 rw[h] at HL
 have HM:Hid (∀ w1:World,Calls Tryz.prog 293 #[.slice (some ⟨w1.heap.size,0,none⟩) 2 2] (w1.alloc (.cells #[.int .i64 wd,.int .i64 (laterF ep [dy])] 3)) fun r w'=>r=.returned (.int .i64 (maxF [wd,laterF ep [dy]]))∧w1.alloc (.cells #[.int .i64 wd,.int .i64 (laterF ep [dy])] 3)=w'):=fun w1 =>
  max_any [wd,laterF ep [dy]] _ _ (slr_of_block (BlockIs.new w1 #[.int .i64 wd,.int .i64 (laterF ep [dy])] 3) 2 rfl (by decide)) (by simp)
 clear h
 generalize laterF ep [dy]=x at *
 generalize maxF [wd,x]=y at *
 go_enter Tryz.func292,Tryz.ntmps292
 go_wp2_with (first
  | (go_at_call 286;refine(HL.out).mono ?_;rintro r w1 ⟨rfl,hb0⟩;have hb1:=((Below.refl w.heap.size w).alloc (Nat.le_refl _) (.cells #[.int .i64 dy] 3)).trans (hb0.mono (by simp));have g3:=(hb1.frozen (p:=⟨b,5,none⟩) hl).trans f5;have g1:=(hb1.cell (p:=⟨b,5,none⟩) hl).trans v5;have g4:=hv.below hb1 hl;have g5:Upd [b] w w1:=Upd.of_below hb1;have g6:=Nat.lt_of_lt_of_le hl hb1.size;clear hb1 hb0)
  | (go_at_call 293;refine(HM.out _).mono ?_;rintro r w2 ⟨rfl,rfl⟩))
 go_ret
 exact⟨rfl,(g5.setCell (by simp) _ _).alloc _,(g4.set 5 _).alloc _⟩
set_option maxHeartbeats 1000000 in
theorem delay_no (b c d:Nat) (bal st rq ex wd dl ep dy:Int) (sl:Bool) (w:World) (hv:BlockIs w b (Val.cells ⟨bal,st,sl,rq,ex,wd,dl⟩) 48) (hc:w.cell? ⟨c,0,none⟩=some (.int .i64 ep)) (hd:w.cell? ⟨d,0,none⟩=some (.int .i64 dy))
  (hep:(Lit.int .i64 ep).wf=true) (hdy:(Lit.int .i64 dy).wf=true) (h:laterB ep [dy]=false) :
  Calls Tryz.prog 292 #[.pointer (some ⟨b,0,none⟩),.pointer (some ⟨c,0,none⟩),.pointer (some ⟨d,0,none⟩)] w fun r w'=>r=.returned (.int .i64 10)∧Upd [b] w w':=by
 have c0:=hc
 have d0:=hd
 have HL:=Lib.hid (later_any ep _ [dy] _ (slr_of_block (BlockIs.new w #[.int .i64 dy] 3) 1 rfl (by decide)) (by simp) (bounds_i64 hep) (by simp;exact bounds_i64 hdy))
 rw[h] at HL
 clear h
 go_enter Tryz.func292,Tryz.ntmps292
 go_wp2_with (go_at_call 286;refine(HL.out).mono ?_;rintro r w1 ⟨rfl,hb0⟩;have g5:Upd [b] w w1:=Upd.of_below (((Below.refl w.heap.size w).alloc (Nat.le_refl _) (.cells #[.int .i64 dy] 3)).trans (hb0.mono (by simp))))
 go_ret
 exact⟨rfl,g5⟩
def penF (b n d:Int):Int:=if d<n then 0 else mulF b n d
def penB (b n d:Int):Bool:=if d<n then false else mulB b n d
set_option maxHeartbeats 1000000 in
theorem amount_any (b n d:Int) (w:World) (hb0:0≤b) (hb:b≤18446744073709551615) (hn0:0≤n) (hn:n≤18446744073709551615) (hd0:0≤d) (hd:d≤18446744073709551615) :
  Calls Tryz.prog 216 #[.int .u64 b,.int .u64 n,.int .u64 d] w fun r w'=>r=.returned (.tuple #[.int .u64 (penF b n d),.bool (penB b n d)])∧Below w.heap.size w w':=by
 unfold penF penB
 by_cases h:d<n
 ·rw[if_pos h,if_pos h]
  go_enter Tryz.func216,Tryz.ntmps216
  go_wp2
  go_ret2
  exact⟨rfl,Below.refl _ _⟩
 ·rw[if_neg h,if_neg h]
  have HM:=Lib.hid (fun w=>mulDiv_any b n d w hb0 hb hn0 hn hd0 hd)
  go_enter Tryz.func216,Tryz.ntmps216
  go_wp2_with (go_at_call 290;refine(HM.out _).mono ?_;rintro r w1 ⟨rfl,hb1⟩)
  go_ret2
  exact⟨rfl,hb1⟩
theorem mulF_le (b n d:Int) (hb0:0≤b) (hn0:0≤n) (h:n≤d):0≤mulF b n d∧mulF b n d≤b:=by
 unfold mulF
 by_cases hc:b*n<d*18446744073709551616
 ·rw[if_pos hc]
  by_cases hd:d=0
  ·subst hd;simp;exact hb0
  ·have h1:b*n≤b*d:=Int.mul_le_mul_of_nonneg_left h hb0
   exact⟨Int.ediv_nonneg (Int.mul_nonneg hb0 hn0) (by omega),Int.ediv_le_of_le_mul (by omega) h1⟩
 ·rw[if_neg hc];omega
theorem penF_le (b n d:Int) (hb0:0≤b) (hn0:0≤n):0≤penF b n d∧penF b n d≤b:=by
 unfold penF
 by_cases h:d<n
 ·rw[if_pos h];omega
 ·rw[if_neg h];exact mulF_le b n d hb0 hn0 (by omega)
set_option maxHeartbeats 2000000 in
theorem burn_ok (b c u:Nat) (bal st rq ex wd dl pn pd u0:Int) (sl:Bool) (w:World) (hv:BlockIs w b (Val.cells ⟨bal,st,sl,rq,ex,wd,dl⟩) 48) (c18:w.cell? ⟨c,18,none⟩=some (.int .u64 pn)) (c19:w.cell? ⟨c,19,none⟩=some (.int .u64 pd)) (hcl:c<w.heap.size)
  (hu:w.cell? ⟨u,0,none⟩=some (.int .u64 u0)∧w.frozen? ⟨u,0,none⟩=false) (hub:u≠b) (huc:u≠c) (hcu:c≠u) (hbu:b≠u)
  (hb0:0≤bal) (hb:bal≤18446744073709551615) (hn0:0≤pn) (hn:pn≤18446744073709551615) (hd0:0≤pd) (hd:pd≤18446744073709551615) :
  Calls Tryz.prog 215 #[.pointer (some ⟨b,0,none⟩),.pointer (some ⟨c,0,none⟩),.pointer (some ⟨u,0,none⟩)] w fun r w'=>r=.returned (.int .i64 0)∧Upd [b,u] w w' ∧
   BlockIs w' b (Val.cells ⟨bal - penF bal pn pd,st,sl,rq,ex,wd,dl⟩) 48∧(w'.cell? ⟨u,0,none⟩=some (.int .u64 (penF bal pn pd))∧w'.frozen? ⟨u,0,none⟩=false):=by
 have ⟨v0,_,_,_,_,_,_,f0,_,_,_,_,_,_⟩:=vfacts hv
 have hl:=hv.lt
 obtain ⟨u0',fu⟩:=hu
 have hl2:u<w.heap.size:=World.block_lt_of_cell? w _ u0'
 have HA:=Lib.hid (fun w=>amount_any bal pn pd w hb0 hb hn0 hn hd0 hd)
 obtain ⟨p0,p1⟩:=penF_le bal pn pd hb0 hn0
 generalize penF bal pn pd=x at *
 generalize penB bal pn pd=y at *
 go_enter Tryz.func215,Tryz.ntmps215
 go_wp2_with fail
 go_region_held3 (fun w'=>w'.cell? ⟨b,0,none⟩=some (.int .u64 bal)∧w'.cell? ⟨c,18,none⟩=some (.int .u64 pn)∧w'.cell? ⟨c,19,none⟩=some (.int .u64 pd)) (go_keep) (first|(go_at_call 216;refine(HA.out _).mono ?_;rintro r w1 ⟨rfl,hb00⟩;have hb1:=undrew hb00;have g1:=(hb1.cell (p:=⟨b,0,none⟩) hl).trans v0;have g2:=(hb1.cell (p:=⟨c,18,none⟩) hcl).trans c18;have g3:=(hb1.cell (p:=⟨c,19,none⟩) hcl).trans c19;have g6:=(hb1.frozen (p:=⟨b,0,none⟩) hl).trans f0;have g7:=(hb1.frozen (p:=⟨u,0,none⟩) hl2).trans fu;have g8:=(hb1.cell (p:=⟨u,0,none⟩) hl2).trans u0';have g4:=hv.below hb1 hl;have g5:Upd [b,u] w w1:=Upd.of_below hb1;clear hb1 hb00))
 go_wp2_with fail
 go_region
 go_wp2
 go_ret
 refine⟨rfl,?_,?_,?_⟩
 ·repeat (with_reducible first|exact g5|refine Upd.drew ?_|refine Upd.setCell ?_ (by simp) _ _)
 ·exact BlockIs.drew ((g4.other hbu 0 _).set 0 _)
 ·exact⟨by go_simp,by go_simp⟩
end
section
open Go.RowKit
def IF (F:List (Nat × Nat × Value)) (uo:Option Nat) (s:Int) (W:World):Prop :=
 (∀ p∈F,W.cell? ⟨p.1,p.2.1,none⟩=some p.2.2)∧∀ u,uo=some u→W.cell? ⟨u,0,none⟩=some (.int .u64 s)∧W.frozen? ⟨u,0,none⟩=false
def IC (F:List (Nat × Nat × Value)) (uo:Option Nat):List Nat:=F.map (·.1)++uo.toList
theorem IF.below {F:List (Nat × Nat × Value)} {uo:Option Nat} {s:Int} {W W':World} (h:IF F uo s W) (hb:Below W.heap.size W W'):IF F uo s W' :=
 ⟨fun p hp=>(hb.cell (p:=⟨p.1,p.2.1,none⟩) (World.block_lt_of_cell? W _ (h.1 p hp))).trans (h.1 p hp),fun u hu =>
  have hl:=World.block_lt_of_cell? W _ (h.2 u hu).1
  ⟨(hb.cell (p:=⟨u,0,none⟩) hl).trans (h.2 u hu).1,(hb.frozen (p:=⟨u,0,none⟩) hl).trans (h.2 u hu).2⟩⟩
theorem IF.upd {F:List (Nat × Nat × Value)} {uo:Option Nat} {s:Int} {W W':World} {b:Nat} (h:IF F uo s W) (hb:Upd [b] W W') (hn:b∉IC F uo):IF F uo s W':=by
 have key:∀ k,k∈IC F uo→k<W.heap.size→W'.heap[k]? = W.heap[k]?:=fun k hk hl=>hb.block k hl (by simp;rintro rfl;exact hn hk)
 refine⟨fun p hp=>?_,fun u hu=>?_⟩
 ·have hl:=World.block_lt_of_cell? W _ (h.1 p hp)
  rw[World.cell?_of_block (w:=W) (a:=⟨p.1,p.2.1,none⟩) (key p.1 (by simp[IC];exact .inl ⟨_,_,hp⟩) hl)]
  exact h.1 p hp
 ·have hl:=World.block_lt_of_cell? W _ (h.2 u hu).1
  have hk:=key u (by simp[IC,hu]) hl
  exact⟨(World.cell?_of_block (w:=W) (a:=⟨u,0,none⟩) hk).trans (h.2 u hu).1,(World.frozen?_of_block (w:=W) (a:=⟨u,0,none⟩) hk).trans (h.2 u hu).2⟩
theorem IF.set {F:List (Nat × Nat × Value)} {uo:Option Nat} {s:Int} {W:World} {b:Nat} (h:IF F uo s W) (hn:b∉IC F uo) (i:Nat) (x:Value):IF F uo s (W.setCell ⟨b,i,none⟩ x) :=
 h.upd ((Upd.refl [b] W).setCell (by simp) _ _) hn
theorem upd_cons {b:Nat} {C:List Nat} {w w':World} (h:Upd [b] w w'):Upd (b::C) w w':=h.mono fun k hk _=>by simp at hk;simp[hk]
section
variable {F:List (Nat × Nat × Value)} {uo:Option Nat}
def gEvent (ev:Int) (v:Val) (s:Int):Int × Val × Int:=if nextF v.st ev=0 then (8,v,s) else (0,{v with st:=nextF v.st ev},s)
def gDelay (ep dy:Int) (v:Val) (s:Int):Int × Val × Int:=if laterB ep [dy] then (0,{v with wd:=maxF [v.wd,laterF ep [dy]]},s) else (10,v,s)
def gMark (ep:Int) (v:Val) (s:Int):Int × Val × Int:=if v.sl then (9,v,s) else (0,{v with rq:=if v.st=2 then ep else v.rq,sl:=true,dl:=-1},s)
def gBurn (pn pd:Int) (v:Val) (_:Int):Int × Val × Int:=(0,{v with bal:=v.bal - penF v.bal pn pd},penF v.bal pn pd)
def gDue (ep:Int) (v:Val) (s:Int):Int × Val × Int:=if ep<v.wd then (8,v,s) else (0,{v with bal:=0},s)
def gRequest (ep:Int) (v:Val) (s:Int):Int × Val × Int:=if laterB ep [] then (0,{v with rq:=ep},s) else (10,v,s)
def gFresh (xt:Int) (v:Val) (s:Int):Int × Val × Int:=if v.st≠3∨v.ex≠-1 then (8,v,s) else (0,{v with ex:=xt},s)
theorem nextF_wf (s e:Int):(Lit.int .i64 (nextF s e)).wf=true:=by
 have:0≤nextF s e∧nextF s e≤7:=by
  unfold nextF
  repeat' split
  all_goals omega
 exact wf_small _ (by omega) (by omega)
theorem chg_event {c:Nat} {ev:Int} (he:(Lit.int .i64 ev).wf=true) (hF:(c,0,Value.int .i64 ev)∈F):ChgRun (IC F uo) uo.toList (IF F uo) (291,#[.pointer (some ⟨c,0,none⟩)]) (gEvent ev):=by
 refine⟨fun args w=>by go_simp,fun w b v s hI hv hb hw=>?_⟩
 obtain ⟨bal,st,sl,rq,ex,wd,dl⟩:=v
 have hc:=hI.1 _ hF
 unfold gEvent
 by_cases hn:nextF st ev=0
 ·rw[if_pos hn]
  refine⟨fun h=>by simp at h,(event_no b c bal st rq ex wd dl ev sl w hv hc hw.2.1 he hn).mono fun r w' ⟨h1,h2⟩=>⟨h1,upd_cons h2,hI.upd h2 hb,fun h=>by simp at h⟩⟩
 ·rw[if_neg hn]
  exact⟨fun _=>⟨hw.1,nextF_wf _ _,hw.2.2⟩,(event_ok b c bal st rq ex wd dl ev sl w hv hc hw.2.1 he hn).mono fun r w' ⟨h1,h2,h3⟩=>⟨h1,upd_cons h2,hI.upd h2 hb,fun _=>h3⟩⟩
theorem maxF_wf (a b:Int) (ha:(Lit.int .i64 a).wf=true) (hb:(Lit.int .i64 b).wf=true):(Lit.int .i64 (maxF [a,b])).wf=true:=by
 show(Lit.int .i64 (if a<b then b else a)).wf=true
 split
 ·exact hb
 ·exact ha
theorem laterGo_le:∀ (l:List Int) (s:Int),0≤s→s≤1099511627776→0≤(laterGo s l).1∧(laterGo s l).1≤1099511627776
 | [],s,h0,h1=>⟨h0,h1⟩
 | n::t,s,h0,h1=>by
  unfold laterGo
  split
  ·simp
  ·exact laterGo_le t _ (by omega) (by omega)
theorem laterF_wf (a:Int) (l:List Int):(Lit.int .i64 (laterF a l)).wf=true:=by
 have:=laterGo_le (a::l) 0 (by omega) (by omega)
 exact WalkArith.wf_i64 (by unfold laterF;omega)
theorem chg_delay {c d:Nat} {ep dy:Int} (hep:(Lit.int .i64 ep).wf=true) (hdy:(Lit.int .i64 dy).wf=true) (hF:(c,0,Value.int .i64 ep)∈F) (hF':(d,0,Value.int .i64 dy)∈F) :
  ChgRun (IC F uo) uo.toList (IF F uo) (292,#[.pointer (some ⟨c,0,none⟩),.pointer (some ⟨d,0,none⟩)]) (gDelay ep dy):=by
 refine⟨fun args w=>by go_simp,fun w b v s hI hv hb hw=>?_⟩
 obtain ⟨bal,st,sl,rq,ex,wd,dl⟩:=v
 have hc:=hI.1 _ hF
 have hd:=hI.1 _ hF'
 unfold gDelay
 by_cases hn:laterB ep [dy]=true
 ·rw[if_pos hn]
  exact⟨fun _=>⟨hw.1,hw.2.1,hw.2.2.1,hw.2.2.2.1,maxF_wf _ _ hw.2.2.2.2.1 (laterF_wf _ _),hw.2.2.2.2.2⟩,(delay_ok b c d bal st rq ex wd dl ep dy sl w hv hc hd hep hdy hn).mono fun r w' ⟨h1,h2,h3⟩=>⟨h1,upd_cons h2,hI.upd h2 hb,fun _=>h3⟩⟩
 ·rw[if_neg hn]
  exact⟨fun h=>by simp at h,(delay_no b c d bal st rq ex wd dl ep dy sl w hv hc hd hep hdy (by simpa using hn)).mono fun r w' ⟨h1,h2⟩=>⟨h1,upd_cons h2,hI.upd h2 hb,fun h=>by simp at h⟩⟩
theorem chg_mark {c:Nat} {ep:Int} (hep:(Lit.int .i64 ep).wf=true) (hF:(c,0,Value.int .i64 ep)∈F):ChgRun (IC F uo) uo.toList (IF F uo) (214,#[.pointer (some ⟨c,0,none⟩)]) (gMark ep):=by
 refine⟨fun args w=>by go_simp,fun w b v s hI hv hb hw=>?_⟩
 obtain ⟨bal,st,sl,rq,ex,wd,dl⟩:=v
 have hc:=hI.1 _ hF
 have hbc:b≠c:=fun e=>hb (by rw[e];simp[IC];exact .inl ⟨_,_,hF⟩)
 unfold gMark
 cases sl with
 | true =>
  rw[if_pos rfl]
  exact⟨fun h=>by simp at h,(mark_no b c bal st rq ex wd dl ep true w hv rfl).mono fun r w' ⟨h1,h2⟩=>⟨h1,upd_cons h2,hI.upd h2 hb,fun h=>by simp at h⟩⟩
 | false =>
  rw[if_neg (by simp)]
  have hdl:(Lit.int .i64 (-1)).wf=true:=WalkArith.wf_i64 (by omega)
  by_cases h2:st=2
  ·simp only[if_pos h2]
   exact⟨fun _=>⟨hw.1,hw.2.1,hep,hw.2.2.2.1,hw.2.2.2.2.1,hdl⟩,(mark_act b c bal st rq ex wd dl ep false w hv hc rfl (by simpa using h2) hbc).mono fun r w' ⟨h1,h2,h3⟩=>⟨h1,upd_cons h2,hI.upd h2 hb,fun _=>h3⟩⟩
  ·simp only[if_neg h2]
   exact⟨fun _=>⟨hw.1,hw.2.1,hw.2.2.1,hw.2.2.2.1,hw.2.2.2.2.1,hdl⟩,(mark_oth b c bal st rq ex wd dl ep false w hv hc rfl (by simpa using h2) hbc).mono fun r w' ⟨h1,h2,h3⟩=>⟨h1,upd_cons h2,hI.upd h2 hb,fun _=>h3⟩⟩
theorem chg_burn {c u:Nat} {pn pd:Int} (hF:(c,18,Value.int .u64 pn)∈F) (hF':(c,19,Value.int .u64 pd)∈F) (hu:uo=some u) (hne:∀ p∈F,p.1≠u)
  (hn0:0≤pn) (hn:pn≤18446744073709551615) (hd0:0≤pd) (hd:pd≤18446744073709551615) :
  ChgRun (IC F uo) uo.toList (IF F uo) (215,#[.pointer (some ⟨c,0,none⟩),.pointer (some ⟨u,0,none⟩)]) (gBurn pn pd):=by
 refine⟨fun args w=>by go_simp,fun w b v s hI hv hb hw=>?_⟩
 obtain ⟨bal,st,sl,rq,ex,wd,dl⟩:=v
 have hc:=hI.1 _ hF
 have hd':=hI.1 _ hF'
 have hcu:c≠u:=hne _ hF
 have hbu:b≠u:=fun e=>hb (by rw[e];simp[IC,hu])
 have hl:=World.block_lt_of_cell? w _ hc
 obtain ⟨hb0,hb1⟩:=hw.1
 obtain ⟨p0,p1⟩:=penF_le bal pn pd hb0 hn0
 refine⟨fun _=>⟨⟨by simp only[gBurn];omega,by simp only[gBurn] at *;omega⟩,hw.2⟩,(burn_ok b c u bal st rq ex wd dl pn pd s sl w hv hc hd' hl (hI.2 u hu) (Ne.symm hbu) (Ne.symm hcu) hcu hbu hb0 hb1 hn0 hn hd0 hd).mono fun r w' ⟨h1,h2,h3,h4⟩=>⟨h1,?_,⟨?_,fun u' hu'=>?_⟩,fun _=>h3⟩⟩
 ·exact h2.mono fun k hk _=>by
   simp at hk
   rcases hk with rfl|rfl
   ·simp
   ·simp[hu]
 ·intro p hp
  have hlp:=World.block_lt_of_cell? w _ (hI.1 p hp)
  rw[World.cell?_of_block (w:=w) (a:=⟨p.1,p.2.1,none⟩) (h2.block p.1 hlp (by
   simp
   exact⟨fun e=>hb (by rw[← e];simp[IC];exact .inl ⟨_,_,hp⟩),hne p hp⟩))]
  exact hI.1 p hp
 ·rw[hu] at hu';cases hu';exact h4
theorem chg_due {c:Nat} {ep:Int} (hF:(c,0,Value.int .i64 ep)∈F):ChgRun (IC F uo) uo.toList (IF F uo) (284,#[.pointer (some ⟨c,0,none⟩)]) (gDue ep):=by
 refine⟨fun args w=>by go_simp,fun w b v s hI hv hb hw=>?_⟩
 obtain ⟨bal,st,sl,rq,ex,wd,dl⟩:=v
 have hc:=hI.1 _ hF
 unfold gDue
 by_cases hn:ep<wd
 ·rw[if_pos hn]
  exact⟨fun h=>by simp at h,(due_no b c bal st rq ex wd dl ep sl w hv hc hn).mono fun r w' ⟨h1,h2⟩=>⟨h1,upd_cons h2,hI.upd h2 hb,fun h=>by simp at h⟩⟩
 ·rw[if_neg hn]
  exact⟨fun _=>⟨by simp,hw.2⟩,(due_ok b c bal st rq ex wd dl ep sl w hv hc hn).mono fun r w' ⟨h1,h2,h3⟩=>⟨h1,upd_cons h2,hI.upd h2 hb,fun _=>h3⟩⟩
theorem chg_request {c:Nat} {ep:Int} (hep:(Lit.int .i64 ep).wf=true) (hF:(c,0,Value.int .i64 ep)∈F):ChgRun (IC F uo) uo.toList (IF F uo) (285,#[.pointer (some ⟨c,0,none⟩)]) (gRequest ep):=by
 refine⟨fun args w=>by go_simp,fun w b v s hI hv hb hw=>?_⟩
 obtain ⟨bal,st,sl,rq,ex,wd,dl⟩:=v
 have hc:=hI.1 _ hF
 unfold gRequest
 by_cases hn:laterB ep []=true
 ·rw[if_pos hn]
  exact⟨fun _=>⟨hw.1,hw.2.1,hep,hw.2.2.2⟩,(request_ok b c bal st rq ex wd dl ep sl w hv hc hep hn).mono fun r w' ⟨h1,h2,h3⟩=>⟨h1,upd_cons h2,hI.upd h2 hb,fun _=>h3⟩⟩
 ·rw[if_neg hn]
  exact⟨fun h=>by simp at h,(request_no b c bal st rq ex wd dl ep sl w hv hc hep (by simpa using hn)).mono fun r w' ⟨h1,h2⟩=>⟨h1,upd_cons h2,hI.upd h2 hb,fun h=>by simp at h⟩⟩
theorem chg_fresh {c:Nat} {xt:Int} (hx:(Lit.int .i64 xt).wf=true) (hF:(c,0,Value.int .i64 xt)∈F):ChgRun (IC F uo) uo.toList (IF F uo) (313,#[.pointer (some ⟨c,0,none⟩)]) (gFresh xt):=by
 refine⟨fun args w=>by go_simp,fun w b v s hI hv hb hw=>?_⟩
 obtain ⟨bal,st,sl,rq,ex,wd,dl⟩:=v
 have hc:=hI.1 _ hF
 unfold gFresh
 by_cases h1:st=3
 ·by_cases h2:ex = -1
  ·rw[if_neg (by simp[h1,h2])]
   exact⟨fun _=>⟨hw.1,hw.2.1,hw.2.2.1,hx,hw.2.2.2.2⟩,(fresh_ok b c bal st rq ex wd dl xt sl w hv hc (by simpa using h1) (by simpa using h2)).mono fun r w' ⟨h1,h2,h3⟩=>⟨h1,upd_cons h2,hI.upd h2 hb,fun _=>h3⟩⟩
  ·rw[if_pos (.inr h2)]
   exact⟨fun h=>by simp at h,(fresh_no2 b c bal st rq ex wd dl sl w hv (by simpa using h1) (by simpa using h2)).mono fun r w' ⟨h1,h2⟩=>⟨h1,upd_cons h2,hI.upd h2 hb,fun h=>by simp at h⟩⟩
 ·rw[if_pos (.inl h1)]
  exact⟨fun h=>by simp at h,(fresh_no1 b c bal st rq ex wd dl sl w hv (by simpa using h1)).mono fun r w' ⟨h1,h2⟩=>⟨h1,upd_cons h2,hI.upd h2 hb,fun h=>by simp at h⟩⟩
end
end
section
open Go.RowKit
set_option maxHeartbeats 400000 in
theorem event_any (ev:Int) (w:World):Calls Tryz.prog 218 #[.int .i64 ev] w fun r w'=>r=.returned (.func (.func 291) #[] #[.pointer (some ⟨w.heap.size,0,none⟩)])∧w.alloc (.cells #[.int .i64 ev] 3)=w':=by
 go_enter Tryz.func218,Tryz.ntmps218
 go_wp2
 go_ret
 exact⟨rfl,rfl⟩
set_option maxHeartbeats 400000 in
theorem delay_any (ep dy:Int) (w:World):Calls Tryz.prog 219 #[.int .i64 ep,.int .i64 dy] w fun r w'=>r=.returned (.func (.func 292) #[] #[.pointer (some ⟨w.heap.size,0,none⟩),.pointer (some ⟨w.heap.size+1,0,none⟩)])∧(w.alloc (.cells #[.int .i64 ep] 3)).alloc (.cells #[.int .i64 dy] 3)=w':=by
 go_enter Tryz.func219,Tryz.ntmps219
 go_wp2
 go_ret
 exact⟨rfl,rfl⟩
theorem apply_IF (F:List (Nat × Nat × Value)) (uo:Option Nat) (ps:List (FuncId × Array Value)) (gs:List (Val→Int→Int × Val × Int)) (hc:Chgs (IC F uo) uo.toList (IF F uo) ps gs) (v:Val) (s:Int) (b cap:Nat) (w:World) (hv:v.wf)
  (hI:IF F uo s w) (hsl:∀ j (h:j<ps.length),(b,j,Value.func (.func ps[j].1) #[] ps[j].2)∈F) (hlen:ps.length≤1000) :
  Calls Tryz.prog 217 #[.agg v.cells,.slice (some ⟨b,0,none⟩) ps.length cap] w fun r w'=>r=.returned (.tuple #[.agg (foldG gs v s).2.1.cells,.int .i64 (foldG gs v s).1])∧Upd uo.toList w w'∧IF F uo (foldG gs v s).2.2 w':=by
 have hlt:∀ c∈IC F uo,c<w.heap.size:=by
  intro c hc'
  simp only[IC,List.mem_append,List.mem_map,Option.mem_toList] at hc'
  rcases hc' with⟨p,hp,rfl⟩|hu
  ·exact World.block_lt_of_cell? w _ (hI.1 p hp)
  ·exact World.block_lt_of_cell? w _ (hI.2 c hu).1
 exact apply_any (IC F uo) uo.toList (IF F uo) ps gs hc v s b 0 cap w hv hI (fun _ _ _ h hb=>h.below hb) (fun s wr i x h=>h.set (fun hm=>by have:=hlt _ hm;omega) i x) hlt (fun c hc'=>hlt c (by simp only[IC,List.mem_append];exact .inr hc'))
  (fun s w h j hj=>by rw[Nat.zero_add];exact h.1 _ (hsl j hj)) hlen
def payR (v:Val) (ep:Int):Int × Val × Int:=foldG [gEvent 5,gDue ep] v 0
theorem pay_apply (W:World) (v:Val) (hv:v.wf) (ep:Int) (bs c he:Nat) (k1:W.cell? ⟨bs,0,none⟩=some (.func (.func 291) #[] #[.pointer (some ⟨c,0,none⟩)])) (k2:W.cell? ⟨bs,1,none⟩=some (.func (.func 284) #[] #[.pointer (some ⟨he,0,none⟩)]))
  (k3:W.cell? ⟨c,0,none⟩=some (.int .i64 5)) (k4:W.cell? ⟨he,0,none⟩=some (.int .i64 ep)) :
  Calls Tryz.prog 217 #[.agg v.cells,.slice (some ⟨bs,0,none⟩) 2 2] W fun r w'=>r=.returned (.tuple #[.agg (payR v ep).2.1.cells,.int .i64 (payR v ep).1])∧Upd [bs,c,he] W w':=by
 have h:=apply_IF [(bs,0,.func (.func 291) #[] #[.pointer (some ⟨c,0,none⟩)]),(bs,1,.func (.func 284) #[] #[.pointer (some ⟨he,0,none⟩)]),(c,0,.int .i64 5),(he,0,.int .i64 ep)] none
  [(291,#[.pointer (some ⟨c,0,none⟩)]),(284,#[.pointer (some ⟨he,0,none⟩)])] [gEvent 5,gDue ep] ⟨chg_event (wf_small _ (by omega) (by omega)) (by simp),chg_due (by simp),trivial⟩ v 0 bs 2 W hv
  ⟨by simp[k1,k2,k3,k4],by simp⟩ (fun j hj=>by
   have:j=0∨j=1:=by simp at hj;omega
   rcases this with rfl|rfl<;>simp) (by simp)
 exact h.mono fun r w' ⟨h1,h2,_⟩=>⟨h1,h2.mono fun k hk _=>by simp at hk⟩
theorem BlockIs.thru {w w':World} {S:List Nat} {b:Nat} {c:Array Value} {t:TypeId} {G:Prop} (h:BlockIs w b c t) (hu:Upd S w w') (hb:b∉S) (k:BlockIs w' b c t→G):G:=k (h.upd hu hb)
theorem set7 {w:World} {b:Nat} {x0 x1 x2 x3 x4 x5 x6 y0 y1 y2 y3 y4 y5 y6:Value} {t:TypeId} (h:BlockIs w b #[x0,x1,x2,x3,x4,x5,x6] t) :
  BlockIs (((((((w.setCell ⟨b,0,none⟩ y0).setCell ⟨b,1,none⟩ y1).setCell ⟨b,2,none⟩ y2).setCell ⟨b,3,none⟩ y3).setCell ⟨b,4,none⟩ y4).setCell ⟨b,5,none⟩ y5).setCell ⟨b,6,none⟩ y6) b #[y0,y1,y2,y3,y4,y5,y6] t:=by
 have h':=((((((h.set 0 y0).set 1 y1).set 2 y2).set 3 y3).set 4 y4).set 5 y5).set 6 y6
 simpa using h'
theorem BlockIs.other' {w:World} {b:Nat} {c:Array Value} {t:TypeId} {b':Nat} (hne:b≠b') (h:BlockIs w b c t) (i:Nat) (v:Value):BlockIs (w.setCell ⟨b',i,none⟩ v) b c t:=h.other hne i v
theorem Upd.thruC {w w':World} {S:List Nat} {b i:Nat} {v:Value} {G:Prop} (hc:w.cell? ⟨b,i,none⟩=some v) (hu:Upd S w w') (hb:b∉S) (k:w'.cell? ⟨b,i,none⟩=some v→G):G :=
 k ((World.cell?_of_block (w:=w) (a:=⟨b,i,none⟩) (hu.block b (World.block_lt_of_cell? w _ hc) hb)).trans hc)
set_option maxHeartbeats 4000000 in
theorem pay_any (v:Val) (hv:v.wf) (ep:Int) (w:World) :
  Calls Tryz.prog 205 #[.agg v.cells,.int .i64 ep] w fun r w'=>r=.returned (.tuple #[.agg (payR v ep).2.1.cells,.int .u64 (if (payR v ep).1=0 then v.bal else 0),.int .i64 (payR v ep).1])∧Below w.heap.size w w':=by
 have HA:=fun W bs c he k1 k2 k3 k4=>pay_apply W v hv ep bs c he k1 k2 k3 k4
 obtain ⟨bal,st,sl,rq,ex,wd,dl⟩:=v
 generalize payR ⟨bal,st,sl,rq,ex,wd,dl⟩ ep=R at *
 obtain ⟨code,⟨bal',st',sl',rq',ex',wd',dl'⟩,s'⟩:=R
 simp only[Val.cells] at HA
 have HAA:=Lib.hid HA
 clear HA hv
 unfold Val.cells
 simp only[]
 go_enter Tryz.func205,Tryz.ntmps205
 go_upto_region 2 with fail
 go_cut [8,9] (fun p c wx=>∃ o,p=.pointer (some ⟨o,0,none⟩)∧c=.int .i64 code∧w.heap.size+1+1<o∧BlockIs wx o #[.int .u64 bal',.int .i64 st',.bool sl',.int .i64 rq',.int .i64 ex',.int .i64 wd',.int .i64 dl'] 48∧BlockIs wx (w.heap.size+1+1) #[.int .u64 0,.int .i64 0,.bool false,.int .i64 0,.int .i64 0,.int .i64 0,.int .i64 0] 48∧BlockIs wx w.heap.size #[.int .u64 bal,.int .i64 st,.bool sl,.int .i64 rq,.int .i64 ex,.int .i64 wd,.int .i64 dl] 48∧Below w.heap.size w wx)
 case first =>
  go_region_held3 (fun w'=>w'.cell? ⟨w.heap.size,0,none⟩=some (.int .u64 bal)∧w'.cell? ⟨w.heap.size,1,none⟩=some (.int .i64 st)∧w'.cell? ⟨w.heap.size,2,none⟩=some (.bool sl)∧w'.cell? ⟨w.heap.size,3,none⟩=some (.int .i64 rq)∧w'.cell? ⟨w.heap.size,4,none⟩=some (.int .i64 ex)∧w'.cell? ⟨w.heap.size,5,none⟩=some (.int .i64 wd)∧w'.cell? ⟨w.heap.size,6,none⟩=some (.int .i64 dl)) (((try dsimp only);(repeat' apply And.intro)<;>go_simp)) (first
   | (go_at_call 218;refine(event_any _ _).mono ?_;rintro r w1 ⟨rfl,rfl⟩)
   | (go_at_call 217;first|(refine(HAA.out _ _ (w.heap.size+3) (w.heap.size+1) ?_ ?_ ?_ ?_).mono ?_;(focus (go_simp;done));(focus (go_simp;done));(focus (go_simp;done));(focus (go_simp;done));rintro r w1 ⟨rfl,hu⟩;refine BlockIs.thru (b:=w.heap.size) (c:=#[.int .u64 bal,.int .i64 st,.bool sl,.int .i64 rq,.int .i64 ex,.int .i64 wd,.int .i64 dl]) (t:=48) ?_ hu ?_ (fun gv=>?_);(focus (repeat (first|(with_reducible refine BlockIs.drew ?_)|((with_reducible refine BlockIs.new' ?_);(simp<;>omega))|(with_reducible refine BlockIs.alloc ?_ _)));done);(focus (simp<;>omega));refine BlockIs.thru (b:=w.heap.size+1+1) (c:=#[.int .u64 0,.int .i64 0,.bool false,.int .i64 0,.int .i64 0,.int .i64 0,.int .i64 0]) (t:=48) ?_ hu ?_ (fun gz=>?_);(focus (repeat (first|(with_reducible refine BlockIs.drew ?_)|((with_reducible refine BlockIs.new' ?_);(simp<;>omega))|(with_reducible refine BlockIs.alloc ?_ _)));done);(focus (simp<;>omega));(first|(refine BlockIs.thru (b:=w.heap.size+1+1+1) (c:=#[.int .u64 0,.int .i64 0,.bool false,.int .i64 0,.int .i64 0,.int .i64 0,.int .i64 0]) (t:=48) ?_ hu ?_ (fun go=>?_);(focus (repeat (first|(with_reducible refine BlockIs.drew ?_)|((with_reducible refine BlockIs.new' ?_);(simp<;>omega))|(with_reducible refine BlockIs.alloc ?_ _)));done);(focus (simp<;>omega));obtain ⟨o0,o1,o2,o3,o4,o5,o6,p0,p1,p2,p3,p4,p5,p6⟩:=vfacts go;have hso:=go.lt)|(refine BlockIs.thru (b:=w.heap.size+1+1+1+1) (c:=#[.int .u64 0,.int .i64 0,.bool false,.int .i64 0,.int .i64 0,.int .i64 0,.int .i64 0]) (t:=48) ?_ hu ?_ (fun go=>?_);(focus (repeat (first|(with_reducible refine BlockIs.drew ?_)|((with_reducible refine BlockIs.new' ?_);(simp<;>omega))|(with_reducible refine BlockIs.alloc ?_ _)));done);(focus (simp<;>omega));obtain ⟨o0,o1,o2,o3,o4,o5,o6,p0,p1,p2,p3,p4,p5,p6⟩:=vfacts go;have hso:=go.lt)|(refine BlockIs.thru (b:=w.heap.size+1+1+1+1+1) (c:=#[.int .u64 0,.int .i64 0,.bool false,.int .i64 0,.int .i64 0,.int .i64 0,.int .i64 0]) (t:=48) ?_ hu ?_ (fun go=>?_);(focus (repeat (first|(with_reducible refine BlockIs.drew ?_)|((with_reducible refine BlockIs.new' ?_);(simp<;>omega))|(with_reducible refine BlockIs.alloc ?_ _)));done);(focus (simp<;>omega));obtain ⟨o0,o1,o2,o3,o4,o5,o6,p0,p1,p2,p3,p4,p5,p6⟩:=vfacts go;have hso:=go.lt)|skip);obtain ⟨v0,v1,v2,v3,v4,v5,v6,_,_,_,_,_,_,_⟩:=vfacts gv;have hsz:=gz.lt;have hsv:=gv.lt;have hbw:Below w.heap.size w w1:=Below.trans (by(repeat (with_reducible first|exact Below.refl _ _|refine Below.drew ?_|refine Below.alloc ?_ (by first|omega|(simp<;>omega)) _))) (hu.below (by first|omega|(simp<;>omega)) (by first|(simp<;>omega))))|(refine(HAA.out _ _ (w.heap.size+4) (w.heap.size+1) ?_ ?_ ?_ ?_).mono ?_;(focus (go_simp;done));(focus (go_simp;done));(focus (go_simp;done));(focus (go_simp;done));rintro r w1 ⟨rfl,hu⟩;refine BlockIs.thru (b:=w.heap.size) (c:=#[.int .u64 bal,.int .i64 st,.bool sl,.int .i64 rq,.int .i64 ex,.int .i64 wd,.int .i64 dl]) (t:=48) ?_ hu ?_ (fun gv=>?_);(focus (repeat (first|(with_reducible refine BlockIs.drew ?_)|((with_reducible refine BlockIs.new' ?_);(simp<;>omega))|(with_reducible refine BlockIs.alloc ?_ _)));done);(focus (simp<;>omega));refine BlockIs.thru (b:=w.heap.size+1+1) (c:=#[.int .u64 0,.int .i64 0,.bool false,.int .i64 0,.int .i64 0,.int .i64 0,.int .i64 0]) (t:=48) ?_ hu ?_ (fun gz=>?_);(focus (repeat (first|(with_reducible refine BlockIs.drew ?_)|((with_reducible refine BlockIs.new' ?_);(simp<;>omega))|(with_reducible refine BlockIs.alloc ?_ _)));done);(focus (simp<;>omega));(first|(refine BlockIs.thru (b:=w.heap.size+1+1+1) (c:=#[.int .u64 0,.int .i64 0,.bool false,.int .i64 0,.int .i64 0,.int .i64 0,.int .i64 0]) (t:=48) ?_ hu ?_ (fun go=>?_);(focus (repeat (first|(with_reducible refine BlockIs.drew ?_)|((with_reducible refine BlockIs.new' ?_);(simp<;>omega))|(with_reducible refine BlockIs.alloc ?_ _)));done);(focus (simp<;>omega));obtain ⟨o0,o1,o2,o3,o4,o5,o6,p0,p1,p2,p3,p4,p5,p6⟩:=vfacts go;have hso:=go.lt)|(refine BlockIs.thru (b:=w.heap.size+1+1+1+1) (c:=#[.int .u64 0,.int .i64 0,.bool false,.int .i64 0,.int .i64 0,.int .i64 0,.int .i64 0]) (t:=48) ?_ hu ?_ (fun go=>?_);(focus (repeat (first|(with_reducible refine BlockIs.drew ?_)|((with_reducible refine BlockIs.new' ?_);(simp<;>omega))|(with_reducible refine BlockIs.alloc ?_ _)));done);(focus (simp<;>omega));obtain ⟨o0,o1,o2,o3,o4,o5,o6,p0,p1,p2,p3,p4,p5,p6⟩:=vfacts go;have hso:=go.lt)|(refine BlockIs.thru (b:=w.heap.size+1+1+1+1+1) (c:=#[.int .u64 0,.int .i64 0,.bool false,.int .i64 0,.int .i64 0,.int .i64 0,.int .i64 0]) (t:=48) ?_ hu ?_ (fun go=>?_);(focus (repeat (first|(with_reducible refine BlockIs.drew ?_)|((with_reducible refine BlockIs.new' ?_);(simp<;>omega))|(with_reducible refine BlockIs.alloc ?_ _)));done);(focus (simp<;>omega));obtain ⟨o0,o1,o2,o3,o4,o5,o6,p0,p1,p2,p3,p4,p5,p6⟩:=vfacts go;have hso:=go.lt)|skip);obtain ⟨v0,v1,v2,v3,v4,v5,v6,_,_,_,_,_,_,_⟩:=vfacts gv;have hsz:=gz.lt;have hsv:=gv.lt;have hbw:Below w.heap.size w w1:=Below.trans (by(repeat (with_reducible first|exact Below.refl _ _|refine Below.drew ?_|refine Below.alloc ?_ (by first|omega|(simp<;>omega)) _))) (hu.below (by first|omega|(simp<;>omega)) (by first|(simp<;>omega))))))
  all_goals(go_wp2_with fail;go_meet;refine⟨_,rfl,rfl,?_,?_,?_,?_,?_⟩;(focus omega);(focus ((repeat (with_reducible first|exact go|refine BlockIs.drew ?_|exact set7 go|exact BlockIs.new _ _ _));done));(focus ((repeat (with_reducible first|exact gv|exact gz|refine BlockIs.drew ?_|refine BlockIs.other' (by omega) ?_ _ _|refine BlockIs.alloc ?_ _));done));(focus ((repeat (with_reducible first|exact gv|exact gz|refine BlockIs.drew ?_|refine BlockIs.other' (by omega) ?_ _ _|refine BlockIs.alloc ?_ _));done));(focus ((repeat (with_reducible first|exact hbw|refine Below.drew ?_|refine Below.setCell ?_ (by first|omega|(simp<;>omega)) _|refine Below.alloc ?_ (by first|omega|(simp<;>omega)) _));done)))
 case rest =>
  obtain ⟨o,rfl,rfl,ho,hbo,hbz,hbv,hbel⟩:=hcut
  obtain ⟨o0,o1,o2,o3,o4,o5,o6,_,_,_,_,_,_,_⟩:=vfacts hbo
  obtain ⟨v0,v1,v2,v3,v4,v5,v6,_,_,_,_,_,_,_⟩:=vfacts hbv
  obtain ⟨z0,z1,z2,z3,z4,z5,z6,f0,f1,f2,f3,f4,f5,f6⟩:=vfacts hbz
  clear HAA
  by_cases h0:code=0
  ·subst h0
   go_wp2
   go_region
   all_goals(go_wp2;refine bodyPost_ret (v:=.tuple #[.agg #[.int .u64 bal',.int .i64 st',.bool sl',.int .i64 rq',.int .i64 ex',.int .i64 wd',.int .i64 dl'],.int .u64 bal,.int .i64 0]) (by simp[results,Tryz.results205,go_sem, *]) rfl ⟨rfl,?_⟩;(focus ((repeat (with_reducible first|exact hbel|refine Below.drew ?_|refine Below.setCell ?_ (by first|omega|(simp<;>omega)) _|refine Below.alloc ?_ (by first|omega|(simp<;>omega)) _));done)))
  ·have hd:decide (code=0)=false:=by simpa using h0
   go_wp2
   refine bodyPost_ret (v:=.tuple #[.agg #[.int .u64 bal',.int .i64 st',.bool sl',.int .i64 rq',.int .i64 ex',.int .i64 wd',.int .i64 dl'],.int .u64 0,.int .i64 code]) (by simp[results,Tryz.results205,go_sem, *]) rfl ⟨by simp[h0],?_⟩
   (focus ((repeat (with_reducible first|exact hbel|refine Below.drew ?_|refine Below.setCell ?_ (by first|omega|(simp<;>omega)) _|refine Below.alloc ?_ (by first|omega|(simp<;>omega)) _));done))
end
section
open Go.RowKit
def accR (v:Val) (ep:Int):Int × Val × Int:=foldG [gRequest ep,gEvent 2] v 0
theorem acc_apply (W:World) (v:Val) (hv:v.wf) (ep:Int) (hep:(Lit.int .i64 ep).wf=true) (bs c he:Nat) (k1:W.cell? ⟨bs,0,none⟩=some (.func (.func 285) #[] #[.pointer (some ⟨he,0,none⟩)])) (k2:W.cell? ⟨bs,1,none⟩=some (.func (.func 291) #[] #[.pointer (some ⟨c,0,none⟩)]))
  (k3:W.cell? ⟨c,0,none⟩=some (.int .i64 2)) (k4:W.cell? ⟨he,0,none⟩=some (.int .i64 ep)) :
  Calls Tryz.prog 217 #[.agg v.cells,.slice (some ⟨bs,0,none⟩) 2 2] W fun r w'=>r=.returned (.tuple #[.agg (accR v ep).2.1.cells,.int .i64 (accR v ep).1])∧Upd [bs,c,he] W w':=by
 have h:=apply_IF [(bs,0,.func (.func 285) #[] #[.pointer (some ⟨he,0,none⟩)]),(bs,1,.func (.func 291) #[] #[.pointer (some ⟨c,0,none⟩)]),(c,0,.int .i64 2),(he,0,.int .i64 ep)] none
  [(285,#[.pointer (some ⟨he,0,none⟩)]),(291,#[.pointer (some ⟨c,0,none⟩)])] [gRequest ep,gEvent 2] ⟨chg_request hep (by simp),chg_event (wf_small _ (by omega) (by omega)) (by simp),trivial⟩ v 0 bs 2 W hv
  ⟨by simp[k1,k2,k3,k4],by simp⟩ (fun j hj=>by
   have:j=0∨j=1:=by simp at hj;omega
   rcases this with rfl|rfl<;>simp) (by simp)
 exact h.mono fun r w' ⟨h1,h2,_⟩=>⟨h1,h2.mono fun k hk _=>by simp at hk⟩
set_option maxHeartbeats 4000000 in
theorem accept_any (v:Val) (hv:v.wf) (ep:Int) (hep:(Lit.int .i64 ep).wf=true) (w:World) :
  Calls Tryz.prog 210 #[.agg v.cells,.int .i64 ep] w fun r w'=>r=.returned (.tuple #[.agg (accR v ep).2.1.cells,.int .i64 (accR v ep).1])∧Below w.heap.size w w':=by
 have HA:=fun W bs c he k1 k2 k3 k4=>acc_apply W v hv ep hep bs c he k1 k2 k3 k4
 obtain ⟨bal,st,sl,rq,ex,wd,dl⟩:=v
 generalize accR ⟨bal,st,sl,rq,ex,wd,dl⟩ ep=R at *
 obtain ⟨code,⟨bal',st',sl',rq',ex',wd',dl'⟩,s'⟩:=R
 simp only[Val.cells] at HA
 have HAA:=Lib.hid HA
 clear HA hv hep
 unfold Val.cells
 simp only[]
 go_enter Tryz.func210,Tryz.ntmps210
 go_upto_region 2 with fail
 go_cut [5] (fun c wx=>c=.int .i64 code∧BlockIs wx (w.heap.size+1+1) #[.int .u64 bal',.int .i64 st',.bool sl',.int .i64 rq',.int .i64 ex',.int .i64 wd',.int .i64 dl'] 48∧Below w.heap.size w wx)
 case first =>
  go_region_held3 (fun w'=>w'.cell? ⟨w.heap.size,0,none⟩=some (.int .u64 bal)∧w'.cell? ⟨w.heap.size,1,none⟩=some (.int .i64 st)∧w'.cell? ⟨w.heap.size,2,none⟩=some (.bool sl)∧w'.cell? ⟨w.heap.size,3,none⟩=some (.int .i64 rq)∧w'.cell? ⟨w.heap.size,4,none⟩=some (.int .i64 ex)∧w'.cell? ⟨w.heap.size,5,none⟩=some (.int .i64 wd)∧w'.cell? ⟨w.heap.size,6,none⟩=some (.int .i64 dl)) (((try dsimp only);(repeat' apply And.intro)<;>go_simp)) (first
   | (go_at_call 218;refine(event_any _ _).mono ?_;rintro r w1 ⟨rfl,rfl⟩)
   | (go_at_call 217;(refine(HAA.out _ _ (w.heap.size+3) (w.heap.size+1) ?_ ?_ ?_ ?_).mono ?_;(focus (go_simp;done));(focus (go_simp;done));(focus (go_simp;done));(focus (go_simp;done));rintro r w1 ⟨rfl,hu⟩;refine BlockIs.thru (b:=w.heap.size+1+1) (c:=#[.int .u64 0,.int .i64 0,.bool false,.int .i64 0,.int .i64 0,.int .i64 0,.int .i64 0]) (t:=48) ?_ hu ?_ (fun gz=>?_);(focus (repeat (first|(with_reducible refine BlockIs.drew ?_)|((with_reducible refine BlockIs.new' ?_);(simp<;>omega))|(with_reducible refine BlockIs.alloc ?_ _)));done);(focus (simp<;>omega));obtain ⟨o0,o1,o2,o3,o4,o5,o6,p0,p1,p2,p3,p4,p5,p6⟩:=vfacts gz;refine BlockIs.thru (b:=w.heap.size) (c:=#[.int .u64 bal,.int .i64 st,.bool sl,.int .i64 rq,.int .i64 ex,.int .i64 wd,.int .i64 dl]) (t:=48) ?_ hu ?_ (fun gv=>?_);(focus (repeat (first|(with_reducible refine BlockIs.drew ?_)|((with_reducible refine BlockIs.new' ?_);(simp<;>omega))|(with_reducible refine BlockIs.alloc ?_ _)));done);(focus (simp<;>omega));obtain ⟨v0,v1,v2,v3,v4,v5,v6,_,_,_,_,_,_,_⟩:=vfacts gv;have hsz:=gz.lt;have hsv:=gv.lt;have hbw:Below w.heap.size w w1:=Below.trans (by(repeat (with_reducible first|exact Below.refl _ _|refine Below.drew ?_|refine Below.alloc ?_ (by first|omega|(simp<;>omega)) _))) (hu.below (by first|omega|(simp<;>omega)) (by first|(simp<;>omega))))))
  all_goals(go_wp2_with fail;go_meet;refine⟨rfl,?_,?_⟩;(focus ((repeat (with_reducible first|exact gz|refine BlockIs.drew ?_|exact set7 gz));done));(focus ((repeat (with_reducible first|exact hbw|refine Below.drew ?_|refine Below.setCell ?_ (by first|omega|(simp<;>omega)) _|refine Below.alloc ?_ (by first|omega|(simp<;>omega)) _));done)))
 case rest =>
  obtain ⟨rfl,hbz,hbel⟩:=hcut
  obtain ⟨z0,z1,z2,z3,z4,z5,z6,f0,f1,f2,f3,f4,f5,f6⟩:=vfacts hbz
  clear HAA
  go_wp2
  refine bodyPost_ret (v:=.tuple #[.agg #[.int .u64 bal',.int .i64 st',.bool sl',.int .i64 rq',.int .i64 ex',.int .i64 wd',.int .i64 dl'],.int .i64 code]) (by simp[results,Tryz.results210,go_sem, *]) rfl ⟨rfl,?_⟩
  (focus ((repeat (with_reducible first|exact hbel|refine Below.drew ?_|refine Below.setCell ?_ (by first|omega|(simp<;>omega)) _|refine Below.alloc ?_ (by first|omega|(simp<;>omega)) _));done))
def asgR (v:Val) (xt dy:Int):Int × Val × Int:=foldG [gFresh xt,gDelay xt dy] v 0
theorem asg_apply (W:World) (v:Val) (hv:v.wf) (xt dy:Int) (hxt:(Lit.int .i64 xt).wf=true) (hdy:(Lit.int .i64 dy).wf=true) (bs c d he:Nat) (k1:W.cell? ⟨bs,0,none⟩=some (.func (.func 313) #[] #[.pointer (some ⟨he,0,none⟩)])) (k2:W.cell? ⟨bs,1,none⟩=some (.func (.func 292) #[] #[.pointer (some ⟨c,0,none⟩),.pointer (some ⟨d,0,none⟩)]))
  (k3:W.cell? ⟨c,0,none⟩=some (.int .i64 xt)) (k4:W.cell? ⟨d,0,none⟩=some (.int .i64 dy)) (k5:W.cell? ⟨he,0,none⟩=some (.int .i64 xt)) :
  Calls Tryz.prog 217 #[.agg v.cells,.slice (some ⟨bs,0,none⟩) 2 2] W fun r w'=>r=.returned (.tuple #[.agg (asgR v xt dy).2.1.cells,.int .i64 (asgR v xt dy).1])∧Upd [] W w':=by
 have h:=apply_IF [(bs,0,.func (.func 313) #[] #[.pointer (some ⟨he,0,none⟩)]),(bs,1,.func (.func 292) #[] #[.pointer (some ⟨c,0,none⟩),.pointer (some ⟨d,0,none⟩)]),(c,0,.int .i64 xt),(d,0,.int .i64 dy),(he,0,.int .i64 xt)] none
  [(313,#[.pointer (some ⟨he,0,none⟩)]),(292,#[.pointer (some ⟨c,0,none⟩),.pointer (some ⟨d,0,none⟩)])] [gFresh xt,gDelay xt dy] ⟨chg_fresh hxt (by simp),chg_delay hxt hdy (c:=c) (d:=d) (by simp) (by simp),trivial⟩ v 0 bs 2 W hv
  ⟨by simp[k1,k2,k3,k4,k5],by simp⟩ (fun j hj=>by
   have:j=0∨j=1:=by simp at hj;omega
   rcases this with rfl|rfl<;>simp) (by simp)
 exact h.mono fun r w' ⟨h1,h2,_⟩=>⟨h1,h2.mono fun k hk _=>by simp at hk⟩
set_option maxHeartbeats 4000000 in
theorem assign_any (v:Val) (hv:v.wf) (xt:Int) (hxt:(Lit.int .i64 xt).wf=true) (cf:Cfg) (hdy:(Lit.int .i64 cf.unbonding).wf=true) (w:World) :
  Calls Tryz.prog 274 #[.agg v.cells,.int .i64 xt,.agg cf.cells] w fun r w'=>r=.returned (.tuple #[.agg (asgR v xt cf.unbonding).2.1.cells,.int .i64 (asgR v xt cf.unbonding).1])∧Below w.heap.size w w':=by
 obtain ⟨k0,k1,k2,k3,k4,k5,k6,k7,k8,k9,dy,k11,k12,k13,k14,k15,k16,k17,k18,k19⟩:=cf
 simp only[] at hdy
 have HA:=fun W bs c d he k1 k2 k3 k4 k5=>asg_apply W v hv xt dy hxt hdy bs c d he k1 k2 k3 k4 k5
 obtain ⟨bal,st,sl,rq,ex,wd,dl⟩:=v
 simp only[]
 generalize asgR ⟨bal,st,sl,rq,ex,wd,dl⟩ xt dy=R at *
 obtain ⟨code,⟨bal',st',sl',rq',ex',wd',dl'⟩,s'⟩:=R
 simp only[Val.cells] at HA
 have HAA:=Lib.hid HA
 clear HA hv hxt hdy
 unfold Val.cells Cfg.cells
 simp only[]
 go_enter Tryz.func274,Tryz.ntmps274
 go_upto_region 2 with fail
 go_cut [7] (fun c wx=>c=.int .i64 code∧BlockIs wx (w.heap.size+1+1+1) #[.int .u64 bal',.int .i64 st',.bool sl',.int .i64 rq',.int .i64 ex',.int .i64 wd',.int .i64 dl'] 48∧Below w.heap.size w wx)
 case first =>
  go_region_held3 (fun w'=>w'.cell? ⟨w.heap.size,0,none⟩=some (.int .u64 bal)∧w'.cell? ⟨w.heap.size,1,none⟩=some (.int .i64 st)∧w'.cell? ⟨w.heap.size,2,none⟩=some (.bool sl)∧w'.cell? ⟨w.heap.size,3,none⟩=some (.int .i64 rq)∧w'.cell? ⟨w.heap.size,4,none⟩=some (.int .i64 ex)∧w'.cell? ⟨w.heap.size,5,none⟩=some (.int .i64 wd)∧w'.cell? ⟨w.heap.size,6,none⟩=some (.int .i64 dl)∧w'.cell? ⟨w.heap.size+1,0,none⟩=some (.int .i64 xt)∧w'.cell? ⟨w.heap.size+2,10,none⟩=some (.int .i64 dy)) (((try dsimp only);(repeat' apply And.intro)<;>go_simp)) (first
   | (go_at_call 219;refine(delay_any _ _ _).mono ?_;rintro r w1 ⟨rfl,rfl⟩)
   | (go_at_call 217;(refine(HAA.out _ _ (w.heap.size+4) (w.heap.size+5) (w.heap.size+1) ?_ ?_ ?_ ?_ ?_).mono ?_;(focus (go_simp;done));(focus (go_simp;done));(focus (go_simp;done));(focus (go_simp;done));(focus (go_simp;done));rintro r w1 ⟨rfl,hu⟩;refine Upd.thruC (b:=w.heap.size+1) (i:=0) (v:=.int .i64 xt) ?_ hu ?_ (fun q1=>?_);(focus (go_simp;done));(focus (simp<;>omega));refine Upd.thruC (b:=w.heap.size+2) (i:=10) (v:=.int .i64 dy) ?_ hu ?_ (fun q2=>?_);(focus (go_simp;done));(focus (simp<;>omega));refine BlockIs.thru (b:=w.heap.size+1+1+1) (c:=#[.int .u64 0,.int .i64 0,.bool false,.int .i64 0,.int .i64 0,.int .i64 0,.int .i64 0]) (t:=48) ?_ hu ?_ (fun gz=>?_);(focus (repeat (first|(with_reducible refine BlockIs.drew ?_)|((with_reducible refine BlockIs.new' ?_);(simp<;>omega))|(with_reducible refine BlockIs.alloc ?_ _)));done);(focus (simp<;>omega));obtain ⟨o0,o1,o2,o3,o4,o5,o6,p0,p1,p2,p3,p4,p5,p6⟩:=vfacts gz;refine BlockIs.thru (b:=w.heap.size) (c:=#[.int .u64 bal,.int .i64 st,.bool sl,.int .i64 rq,.int .i64 ex,.int .i64 wd,.int .i64 dl]) (t:=48) ?_ hu ?_ (fun gv=>?_);(focus (repeat (first|(with_reducible refine BlockIs.drew ?_)|((with_reducible refine BlockIs.new' ?_);(simp<;>omega))|(with_reducible refine BlockIs.alloc ?_ _)));done);(focus (simp<;>omega));obtain ⟨v0,v1,v2,v3,v4,v5,v6,_,_,_,_,_,_,_⟩:=vfacts gv;have hsz:=gz.lt;have hsv:=gv.lt;have hbw:Below w.heap.size w w1:=Below.trans (by(repeat (with_reducible first|exact Below.refl _ _|refine Below.drew ?_|refine Below.alloc ?_ (by first|omega|(simp<;>omega)) _))) (hu.below (by first|omega|(simp<;>omega)) (by first|(simp<;>omega))))))
  all_goals(go_wp2_with fail;go_meet;refine⟨rfl,?_,?_⟩;(focus ((repeat (with_reducible first|exact gz|refine BlockIs.drew ?_|exact set7 gz));done));(focus ((repeat (with_reducible first|exact hbw|refine Below.drew ?_|refine Below.setCell ?_ (by first|omega|(simp<;>omega)) _|refine Below.alloc ?_ (by first|omega|(simp<;>omega)) _));done)))
 case rest =>
  obtain ⟨rfl,hbz,hbel⟩:=hcut
  obtain ⟨z0,z1,z2,z3,z4,z5,z6,f0,f1,f2,f3,f4,f5,f6⟩:=vfacts hbz
  clear HAA
  go_wp2
  refine bodyPost_ret (v:=.tuple #[.agg #[.int .u64 bal',.int .i64 st',.bool sl',.int .i64 rq',.int .i64 ex',.int .i64 wd',.int .i64 dl'],.int .i64 code]) (by simp[results,Tryz.results274,go_sem, *]) rfl ⟨rfl,?_⟩
  (focus ((repeat (with_reducible first|exact hbel|refine Below.drew ?_|refine Below.setCell ?_ (by first|omega|(simp<;>omega)) _|refine Below.alloc ?_ (by first|omega|(simp<;>omega)) _));done))
end
end Go.Proofs.YtopbohbkhljjgaaGreat
