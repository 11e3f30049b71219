import Derived.Test.YtjbfcacmdahnhaaGreatZrx
set_option linter.unusedVariables false
set_option linter.unusedSimpArgs false
set_option linter.unusedSectionVars false
set_option maxRecDepth 100000
set_option maxHeartbeats 8000000
namespace Go.Proofs.YtjbfcacmdahnhaaGreat
section
open Go.RowKit
structure Fit (c:Cfg) (n:Nat):Prop where
 ck:checkF c=0
 ca:c.capacity≤100
 vi:c.visits≤200
 py:c.payments≤200
 me:c.merges≤200
 qs:c.queueSize≤200
 n:n≤400
section
variable (c:Cfg) (v:Value) (l:List Opn) (R:List Asn) (hg:GS R 4 v l.length (l.flatMap opL))
include hg
theorem fits_yes (h:Fit c l.length):Spec 8 [cfgV c,v] R fun u L'=>u=.int .i64 1∧L'=R:=by
 obtain ⟨h1,h2,h3,h4,h5,h6,h7⟩:=h
 have hck:=fun R=>rcheck_spec c R
 rw[h1] at hck
 refine zGo Tryz.func8 ?_;intro G w M a F
 have hG:GS (R++G) 4 v l.length (l.flatMap opL):=Gives.app hg
 (try refine zI zk8 F M ?_;clear F M a;try clear w);(repeat'(first|refine zA ?_;repeat intro nb|refine zC ?_;refine kpW (k:=34) (hck _) ?_|refine zB ?_ ?_<;>intro hc<;>try exact no hc|refine zH ?_ ?_<;>(intro hg;rw[hg];try exact no hg)));all_goals try refine zO fun a w F M=>?_
 all_goals refine zE F M ?_
 exact⟨_,_,rfl,⟨rfl,rfl⟩,M.perms permsA⟩
theorem fits_no (h:¬Fit c l.length):Spec 8 [cfgV c,v] R fun u L'=>u=.int .i64 0∧L'=R:=by
 have hck:=fun R=>rcheck_spec c R
 obtain ⟨x,hx⟩:∃ x:Int,(checkF c:Int)=x:=⟨_,rfl⟩
 simp only[hx] at hck
 refine zGo Tryz.func8 ?_;intro G w M a F
 have hG:GS (R++G) 4 v l.length (l.flatMap opL):=Gives.app hg
 (try refine zI zk8 F M ?_;clear F M a;try clear w);(repeat'(first|refine zA ?_;repeat intro nb|refine zC ?_;refine kpW (k:=34) (hck _) ?_|refine zB ?_ ?_<;>intro hc<;>try exact no hc|refine zH ?_ ?_<;>(intro hg;rw[hg];try exact no hg)));all_goals try refine zO fun a w F M=>?_
 all_goals first
  | (refine zE F M ?_;exact⟨_,_,rfl,⟨rfl,rfl⟩,M.perms permsA⟩)
  | (exfalso;apply h;simp only[decide_eq_false_iff_not] at *;exact⟨by omega,by omega,by omega,by omega,by omega,by omega,by omega⟩)
  | trace_state
end
end
section
open Go.RowKit
theorem parV_len (c:Cfg) (Z:List Val × List Pm) (r:Nat × Int):(parV c Z r).1.length=Z.1.length:=by
 unfold parV
 split
 ·rfl
 ·simp
theorem pars_fl (c:Cfg):∀ (q:List (Nat × Int)) (Z:List Val × List Pm),(∀ p∈Z.2,p.fl=false∧∃ i:Nat,p.ix=i∧i<Z.1.length)→∀ p∈(q.foldl (parV c) Z).2,p.fl=false∧∃ i:Nat,p.ix=i∧i<(q.foldl (parV c) Z).1.length
 | [],Z,h=>h
 | r::q,Z,h=>by
  rw[List.foldl_cons]
  apply pars_fl c q
  rw[parV_len]
  intro p hp
  unfold parV at hp
  cases hv:Z.1[r.1]? with
  | none=>rw[hv] at hp;exact h p hp
  | some v =>
   rw[hv] at hp
   simp only at hp
   split at hp
   ·rcases List.mem_append.1 hp with hp|hp
    ·exact h p hp
    ·simp only[List.mem_cons,List.not_mem_nil,or_false] at hp
     subst hp
     exact⟨rfl,r.1,rfl,(List.getElem?_eq_some_iff.1 hv).1⟩
   ·exact h p hp
structure BgOk (c:Cfg) (s2:St) (r:Rc):Prop where
 vi:0≤r.vi∧r.vi≤c.visits
 np:(r.pms.length:Int)≤c.payments
 pm:∀ p∈r.pms,∃ (i:Nat) (v:Val),p.ix=i∧s2.V[i]? = some v∧(p.fl=true→v.st=6∧v.bal=0)∧(p.fl=false→v.st=2→c.minBalance≤v.bal)
theorem pay_bg {c:Cfg} (hc:CfOk c) {s:St} (h:Inv c s):((payM c s).vi:Int)≤c.visits∧((payM c s).pm.length:Int)≤c.payments∧∀ p∈(payM c s).pm,∃ (i:Nat) (v:Val),p.ix=i∧(payM c s).s.V[i]? = some v∧(p.fl=true→v.st=6∧v.bal=0)∧(p.fl=false→v.st=2→c.minBalance≤v.bal):=by
 obtain ⟨hI,l,hP⟩:=payM_inv hc h
 have hv1:=hP.vi;have hv2:=hP.np
 have hvi:=hc.vi;have hpy:=hc.py
 refine⟨by omega,by omega,fun p hp=>?_⟩
 rw[hP.pm] at hp
 rcases List.mem_append.1 hp with hp|hp
 ·obtain ⟨h1,i,h2,h3⟩:=pars_fl c _ (s.V,[]) (by simp) p hp
  have hl:i<(payM c s).s.V.length:=by rw[hP.V,mods_len];exact h3
  refine⟨i,(payM c s).s.V[i],h2,by rw[List.getElem?_eq_getElem hl],fun ht=>(Bool.noConfusion (h1.symm.trans ht)),fun _ h2=>(hI.val i _ (List.getElem?_eq_getElem hl)).mb (.inr h2)⟩
 ·obtain ⟨i,hi,rfl⟩:=List.mem_map.1 hp
  obtain ⟨v,hv,hs⟩:=hP.st i hi
  exact⟨i,payV v,rfl,by rw[hP.V,mods_get _ _ _ _ hP.nd,if_pos hi,hv];rfl,fun _=>⟨rfl,rfl⟩,fun hf=>(Bool.noConfusion hf)⟩
theorem step_bg {c:Cfg} (hc:CfOk c) {s:St} (h:Inv c s) (hb:s.bk<1000000000) (o:Opn):BgOk c (stepM c s o).2 (stepM c s o).1∧(o.k≠7→(stepM c s o).1.vi=0∧(stepM c s o).1.asg=[]∧(stepM c s o).1.pms=[]):=by
 have hvi:=hc.vi;have hpy:=hc.py
 unfold stepM
 by_cases h7:o.k=7
 ·rw[if_pos h7]
  refine⟨?_,fun h=>absurd h7 h⟩
  have key:∀ B:Bd,Inv c B.s→BgOk c (payM c B.s).s ⟨7,0,-1,s.bk+1,epo c {s with bk:=s.bk+1},-1,(payM c B.s).vi,B.ag,(payM c B.s).pm⟩:=fun B hB=>by
   obtain ⟨k1,k2,k3⟩:=pay_bg hc hB
   exact⟨⟨by simp only;omega,k1⟩,k2,k3⟩
  unfold tickM
  by_cases hz:((s.bk+1:Nat):Int) % c.epochLen=0
  ·simp only[if_pos hz]
   exact key _ (boundM_inv hc h hb hz)
  ·simp only[if_neg hz]
   exact key ⟨[],{s with bk:=s.bk+1}⟩ (Inv.same hc h hb hz)
 ·rw[if_neg h7]
  exact⟨⟨⟨by simp only;omega,by simp only;omega⟩,by simp only[List.length_nil];omega,fun p hp=>by simp at hp⟩,fun _=>⟨rfl,rfl,rfl⟩⟩
end
section
open Go.RowKit
instance eqfP:EQF prL [.int,.int]:=⟨fun x y=>by
 obtain ⟨a,b⟩:=x;obtain ⟨d,e⟩:=y
 simp only[prL,cellsEq,scEq,if_true,Bool.and_true,Prod.mk.injEq,Option.some.injEq]
 rw[Bool.eq_iff_iff];simp;try omega⟩
theorem eqs_nat (u v:Value) (xs ys:List Nat) {L:List Asn} (hu:GS L 1 u xs.length (xs.flatMap natL)) (hv:GS L 1 v ys.length (ys.flatMap natL)) :
  Reads 63 [u,v] (.bool (decide (xs=ys))) L:=by
 (intro K hK w M;refine sx_enter Tryz.func63 (n:=26) rfl rfl rfl rfl ?_;intro a F)
 replace hu:=hu.imp hK
 replace hv:=hv.imp hK
 have hlu:=hu.len_le M
 have hlv:=hv.len_le M
 by_cases hl:xs.length=ys.length
 ·have hR:decide (xs=ys)=decide (xs.drop 0=ys.drop 0):=by simp
  generalize decide (xs=ys)=R at *
  (try refine zI zk63 F M ?_;clear F M a;try clear w);(repeat'(first|refine zV (h:=⟨_,by(apply(rt_neqT (f:=natL));(exact rfl);(exact rfl);(exact rfl);(exact inferInstance);(exact inferInstance)),?_⟩)|refine zA1 ?_;repeat intro(b:Nat)|refine zB ?_ ?_<;>intro hc<;>try exact no hc|refine zH ?_ ?_<;>(intro hg;rw[hg];try exact no hg)));all_goals try refine zO fun a w F M=>?_
  refine sv_loop (σ:=Nat) (fun s=>[(0,u),(1,v),(12,.int .i64 xs.length),(13,.int .i64 s)]) (fun _=>K) (fun s=>s≤xs.length∧R=decide (xs.drop s=ys.drop s)) (fun s=>xs.length - s) F M 0 kpA permsA ⟨by omega,hR⟩ ?_
  rintro k ⟨h1,h2⟩ a w F M
  try simp only at h1 h2 F ⊢
  by_cases hlt:k<xs.length
  ·obtain ⟨x,hx⟩:∃ x,xs[k]? = some x:=⟨xs[k],by simp[hlt]⟩
   obtain ⟨y,hy⟩:∃ y,ys[k]? = some y:=⟨ys[k]'(by omega),by rw[List.getElem?_eq_getElem (by omega)]⟩
   rw[drop_cons hx,drop_cons hy] at h2
   by_cases he:x=y
   ·subst he
    (try refine zI zk63 F M ?_;clear F M a;try clear w);(repeat'(first|refine zV (h:=⟨_,by(apply(rt_neqT (f:=natL));(exact rfl);(exact rfl);(exact rfl);(exact inferInstance);(exact inferInstance)),?_⟩)|refine zA1 ?_;repeat intro(b:Nat)|refine zB ?_ ?_<;>intro hc<;>try exact no hc|refine zH ?_ ?_<;>(intro hg;rw[hg];try exact no hg)));all_goals try refine zO fun a w F M=>?_
    (refine sv_again F M (k+1) kpA permsA ?_ ?_)
    ·exact⟨by omega,by rw[h2];simp⟩
    ·omega
   ·(try refine zI zk63 F M ?_;clear F M a;try clear w);(repeat'(first|refine zV (h:=⟨_,by(apply(rt_neqT (f:=natL));(exact rfl);(exact rfl);(exact rfl);(exact inferInstance);(exact inferInstance)),?_⟩)|refine zA1 ?_;repeat intro(b:Nat)|refine zB ?_ ?_<;>intro hc<;>try exact no hc|refine zH ?_ ?_<;>(intro hg;rw[hg];try exact no hg)));all_goals try refine zO fun a w F M=>?_
    (all_goals((first|(refine svEnd F M ?_)|(refine svRet F M ?_));refine⟨?_,M.perms permsA⟩))
    rw[h2];simp[tupOf,he]
  ·(try refine zI zk63 F M ?_;clear F M a;try clear w);(repeat'(first|refine zV (h:=⟨_,by(apply(rt_neqT (f:=natL));(exact rfl);(exact rfl);(exact rfl);(exact inferInstance);(exact inferInstance)),?_⟩)|refine zA1 ?_;repeat intro(b:Nat)|refine zB ?_ ?_<;>intro hc<;>try exact no hc|refine zH ?_ ?_<;>(intro hg;rw[hg];try exact no hg)));all_goals try refine zO fun a w F M=>?_
   (all_goals((first|(refine svEnd F M ?_)|(refine svRet F M ?_));refine⟨?_,M.perms permsA⟩))
   rw[h2,List.drop_of_length_le (by omega),List.drop_of_length_le (by omega)];rfl
 ·have hne:xs≠ys:=fun e=>hl (by rw[e])
  have hl':¬((xs.length:Int)=(ys.length:Int)):=by omega
  (try refine zI zk63 F M ?_;clear F M a;try clear w);(repeat'(first|refine zV (h:=⟨_,by(apply(rt_neqT (f:=natL));(exact rfl);(exact rfl);(exact rfl);(exact inferInstance);(exact inferInstance)),?_⟩)|refine zA1 ?_;repeat intro(b:Nat)|refine zB ?_ ?_<;>intro hc<;>try exact no hc|refine zH ?_ ?_<;>(intro hg;rw[hg];try exact no hg)));all_goals try refine zO fun a w F M=>?_
  (all_goals((first|(refine svEnd F M ?_)|(refine svRet F M ?_));refine⟨?_,M.perms permsA⟩))
  simp[tupOf,hne]
theorem eqs_pr (u v:Value) (xs ys:List (Nat × Nat)) {L:List Asn} (hu:GS L 2 u xs.length (xs.flatMap prL)) (hv:GS L 2 v ys.length (ys.flatMap prL)) :
  Reads 64 [u,v] (.bool (decide (xs=ys))) L:=by
 (intro K hK w M;refine sx_enter Tryz.func64 (n:=26) rfl rfl rfl rfl ?_;intro a F)
 replace hu:=hu.imp hK
 replace hv:=hv.imp hK
 have hlu:=hu.len_le M
 have hlv:=hv.len_le M
 by_cases hl:xs.length=ys.length
 ·have hR:decide (xs=ys)=decide (xs.drop 0=ys.drop 0):=by simp
  generalize decide (xs=ys)=R at *
  (try refine zI zk64 F M ?_;clear F M a;try clear w);(repeat'(first|refine zV (h:=⟨_,by(apply(rt_neqT (f:=prL));(exact rfl);(exact rfl);(exact rfl);(exact inferInstance);(exact inferInstance)),?_⟩)|refine zA1 ?_;repeat intro(b:Nat)|refine zB ?_ ?_<;>intro hc<;>try exact no hc|refine zH ?_ ?_<;>(intro hg;rw[hg];try exact no hg)));all_goals try refine zO fun a w F M=>?_
  refine sv_loop (σ:=Nat) (fun s=>[(0,u),(1,v),(12,.int .i64 xs.length),(13,.int .i64 s)]) (fun _=>K) (fun s=>s≤xs.length∧R=decide (xs.drop s=ys.drop s)) (fun s=>xs.length - s) F M 0 kpA permsA ⟨by omega,hR⟩ ?_
  rintro k ⟨h1,h2⟩ a w F M
  try simp only at h1 h2 F ⊢
  by_cases hlt:k<xs.length
  ·obtain ⟨x,hx⟩:∃ x,xs[k]? = some x:=⟨xs[k],by simp[hlt]⟩
   obtain ⟨y,hy⟩:∃ y,ys[k]? = some y:=⟨ys[k]'(by omega),by rw[List.getElem?_eq_getElem (by omega)]⟩
   rw[drop_cons hx,drop_cons hy] at h2
   by_cases he:x=y
   ·subst he
    (try refine zI zk64 F M ?_;clear F M a;try clear w);(repeat'(first|refine zV (h:=⟨_,by(apply(rt_neqT (f:=prL));(exact rfl);(exact rfl);(exact rfl);(exact inferInstance);(exact inferInstance)),?_⟩)|refine zA1 ?_;repeat intro(b:Nat)|refine zB ?_ ?_<;>intro hc<;>try exact no hc|refine zH ?_ ?_<;>(intro hg;rw[hg];try exact no hg)));all_goals try refine zO fun a w F M=>?_
    (refine sv_again F M (k+1) kpA permsA ?_ ?_)
    ·exact⟨by omega,by rw[h2];simp⟩
    ·omega
   ·(try refine zI zk64 F M ?_;clear F M a;try clear w);(repeat'(first|refine zV (h:=⟨_,by(apply(rt_neqT (f:=prL));(exact rfl);(exact rfl);(exact rfl);(exact inferInstance);(exact inferInstance)),?_⟩)|refine zA1 ?_;repeat intro(b:Nat)|refine zB ?_ ?_<;>intro hc<;>try exact no hc|refine zH ?_ ?_<;>(intro hg;rw[hg];try exact no hg)));all_goals try refine zO fun a w F M=>?_
    (all_goals((first|(refine svEnd F M ?_)|(refine svRet F M ?_));refine⟨?_,M.perms permsA⟩))
    rw[h2];simp[tupOf,he]
  ·(try refine zI zk64 F M ?_;clear F M a;try clear w);(repeat'(first|refine zV (h:=⟨_,by(apply(rt_neqT (f:=prL));(exact rfl);(exact rfl);(exact rfl);(exact inferInstance);(exact inferInstance)),?_⟩)|refine zA1 ?_;repeat intro(b:Nat)|refine zB ?_ ?_<;>intro hc<;>try exact no hc|refine zH ?_ ?_<;>(intro hg;rw[hg];try exact no hg)));all_goals try refine zO fun a w F M=>?_
   (all_goals((first|(refine svEnd F M ?_)|(refine svRet F M ?_));refine⟨?_,M.perms permsA⟩))
   rw[h2,List.drop_of_length_le (by omega),List.drop_of_length_le (by omega)];rfl
 ·have hne:xs≠ys:=fun e=>hl (by rw[e])
  have hl':¬((xs.length:Int)=(ys.length:Int)):=by omega
  (try refine zI zk64 F M ?_;clear F M a;try clear w);(repeat'(first|refine zV (h:=⟨_,by(apply(rt_neqT (f:=prL));(exact rfl);(exact rfl);(exact rfl);(exact inferInstance);(exact inferInstance)),?_⟩)|refine zA1 ?_;repeat intro(b:Nat)|refine zB ?_ ?_<;>intro hc<;>try exact no hc|refine zH ?_ ?_<;>(intro hg;rw[hg];try exact no hg)));all_goals try refine zO fun a w F M=>?_
  (all_goals((first|(refine svEnd F M ?_)|(refine svRet F M ?_));refine⟨?_,M.perms permsA⟩))
  simp[tupOf,hne]
end
section
open Go.RowKit
theorem opM_rej (c:Cfg) (s:St) (o:Opn) (h:(opM c s o).c≠0):(opM c s o).s=s:=by
 revert h
 unfold opM opDep opLeave opSlash opMerge opPart no'
 repeat'(first|(intro h;rfl)|(intro h;exact absurd rfl h)|split|dsimp only)
theorem step_rej {c:Cfg} {s:St} {o:Opn} (h:(stepM c s o).1.c≠0):(stepM c s o).2=s∧(stepM c s o).1.ix = -1∧(stepM c s o).1.dl = -1∧(stepM c s o).1.asg=[]∧(stepM c s o).1.pms=[]:=by
 unfold stepM at h ⊢
 by_cases h7:o.k=7
 ·rw[if_pos h7] at h;exact absurd rfl h
 ·rw[if_neg h7] at h ⊢
  obtain ⟨h1,h2⟩:=opM_no c s o h
  exact⟨opM_rej c s o h,h1,h2,rfl,rfl⟩
end
section
open Go.RowKit
def engB (b:Nat) (c:Cfg) (s:St):Asn:=exA fun H:EH=>engL b H c s []
def snA (s:St) (h1 h2 h3 h4 h5 h6:SlH):Asn:=exA fun _:Unit=>[ownT 62 valL 7 (sl h1) s.V,ownT 3 natL 1 (sl h2) s.pe,ownT 3 natL 1 (sl h3) s.fo,ownT 3 natL 1 (sl h4) s.vo,ownT 77 prL 2 (sl h5) s.me,ownT 79 rqL 2 (sl h6) s.pa]
theorem Spec.conv {α:Type} {k:FuncId} {us:List Value} {L:List Asn} {C:Value→List Asn→Prop} {L1:α→List Asn} {D:α→Value→List Asn→Prop} (hs:∀ x,Spec k us (L1 x) (D x)) (hp:∀ G w,Mem w (L++G)→∃ x,Mem w (L1 x++G)) (hc:∀ x v L',D x v L'→∃ L2,C v L2∧∀ G w,Mem w (L'++G)→Mem w (L2++G)):Spec k us L C:=fun G w M=>by
 obtain ⟨x,M1⟩:=hp G w M
 exact(hs x G w M1).mono fun e w' ⟨v,L',he,hd,hm⟩=>by
  obtain ⟨L2,h1,h2⟩:=hc x v L' hd
  exact⟨v,L2,he,h1,h2 G w' hm⟩
section
variable (b:Nat) (c:Cfg) (s:St) (R:List Asn)
theorem newB (hc:CfOk c) (hk:checkF c=0):Spec 24 [cfgV c] R fun u L'=>∃ b,u=.tuple [ptr b,.int .i64 0].toArray∧L'=engB b c St.ini::R :=
 Spec.conv (α:=Unit) (fun _=>eng_new c hc hk R) (fun G w M=>⟨(),M⟩) fun _ v L' ⟨b,H,e,e2⟩=>⟨_,⟨b,e,rfl⟩,fun G w M=>by subst e2;exact Mem.exc (f:=fun H:EH=>engL b H c St.ini []) H M⟩
theorem snapB (hc:CfOk c) (hi:Inv c s):Spec 13 [ptr b] (engB b c s::R) fun u L'=>∃ h1 h2 h3 h4 h5 h6,u=snV (snOf c s h1 h2 h3 h4 h5 h6)∧L'=snA s h1 h2 h3 h4 h5 h6::engB b c s::R :=
 Spec.conv (fun H=>snap_spec b H c s hc hi R) (fun G w M=>Mem.exo (f:=fun H:EH=>engL b H c s []) M) fun H v L' ⟨h1,h2,h3,h4,h5,h6,e,e2⟩=>⟨_,⟨h1,h2,h3,h4,h5,h6,e,rfl⟩,fun G w M=>by
  subst e2
  have M2:Mem w (engL b H c s []++(ownT 62 valL 7 (sl h1) s.V::ownT 3 natL 1 (sl h2) s.pe::ownT 3 natL 1 (sl h3) s.fo::ownT 3 natL 1 (sl h4) s.vo::ownT 77 prL 2 (sl h5) s.me::ownT 79 rqL 2 (sl h6) s.pa::(R++G))):=M.perms permsA
  have M3:=(Mem.exc (f:=fun H:EH=>engL b H c s []) H M2).perms (permsA:Perms _ ([ownT 62 valL 7 (sl h1) s.V,ownT 3 natL 1 (sl h2) s.pe,ownT 3 natL 1 (sl h3) s.fo,ownT 3 natL 1 (sl h4) s.vo,ownT 77 prL 2 (sl h5) s.me,ownT 79 rqL 2 (sl h6) s.pa]++(engB b c s::(R++G))))
  exact Mem.exc (f:=fun _:Unit=>[ownT 62 valL 7 (sl h1) s.V,ownT 3 natL 1 (sl h2) s.pe,ownT 3 natL 1 (sl h3) s.fo,ownT 3 natL 1 (sl h4) s.vo,ownT 77 prL 2 (sl h5) s.me,ownT 79 rqL 2 (sl h6) s.pa]) () M3⟩
end
end
section
open Go.RowKit
section
variable (b:Nat) (z:RH) (c:Cfg) (s:St) (hc:CfOk c) (hi:Inv c s) (R:List Asn)
def rapQ (b:Nat) (c:Cfg) (R:List Asn) (x:Rc × St) (u:Value) (L':List Asn):Prop:=∃ ha hp z',u=rcV x.1 ha hp∧L'=ownT 75 asgL 3 (sl ha) x.1.asg::ownT 57 pmL 3 (sl hp) x.1.pms::refL b z' c x.2 R
include hc hi
theorem rap_tick (hb:s.bk<1000000000) (ix tg am:Int):Spec 27 [ptr b,opV ⟨7,ix,tg,am⟩] (refL b z c s R) fun u L'=>rapQ b c R (tickM c s) u L':=by
 have ht:=fun R=>rtick_spec b z c s R hc hi hb
 unfold rapQ
 generalize tickM c s=X at *
 obtain ⟨⟨x1,x2,x3,x4,x5,x6,x7,x8,x9⟩,s2⟩:=X
 simp only at ht ⊢
 refine zGz zk27 Tryz.func27 ?_;intro G;(repeat'(first|refine zA ?_;repeat intro nb|refine zC ?_;refine acK (L1:=refL b z c s _) (k:=92) (ht _) ?_;rintro u L' ⟨ha,hp,z2,rfl,rfl⟩|refine zB ?_ ?_<;>intro hc<;>try exact no hc|refine zH ?_ ?_<;>(intro hg;rw[hg];try exact no hg)));all_goals try refine zO fun a w F M=>?_
 all_goals refine zE F M ?_
 all_goals exact⟨_,_,rfl,⟨ha,hp,z2,rfl,rfl⟩,M.perms permsA⟩
theorem rap_op (r:Rs) (k ix tg am:Int) (f:FuncId) [FK f] (av:List Value) (hin:(k=1∧f=88∧av=[])∨(k=2∧f=89∧av=[.int .i64 1])∨(k=3∧f=89∧av=[.int .i64 0])∨(k=4∧f=90∧av=[])∨(k=5∧f=91∧av=[])∨(k=6∧f=91∧av=[]))
  (h:∀ R,Spec f (ptr b::opV ⟨k,ix,tg,am⟩::av) (refL b z c s R) fun u L'=>∃ z',u=rcV (rcR c s k r) nilH nilH∧L'=refL b z' c r.s R):Spec 27 [ptr b,opV ⟨k,ix,tg,am⟩] (refL b z c s R) fun u L'=>rapQ b c R (rcR c s k r,r.s) u L':=by
 unfold rapQ
 obtain ⟨x,hx⟩:∃ x,rcR c s k r=x:=⟨_,rfl⟩
 have hx8:x.asg=[]:=by rw[← hx];rfl
 have hx9:x.pms=[]:=by rw[← hx];rfl
 rw[hx] at h ⊢
 obtain ⟨x1,x2,x3,x4,x5,x6,x7,x8,x9⟩:=x
 simp only at hx8 hx9
 subst hx8;subst hx9
 simp only
 rcases hin with⟨rfl,rfl,rfl⟩|⟨rfl,rfl,rfl⟩|⟨rfl,rfl,rfl⟩|⟨rfl,rfl,rfl⟩|⟨rfl,rfl,rfl⟩|⟨rfl,rfl,rfl⟩
 ·((refine zGo Tryz.func27 ?_;intro G w M a F);((try refine zI zk27 F M ?_;clear F M a;try clear w);(repeat'(first|refine zA ?_;repeat intro nb|refine zC ?_;refine acK (L1:=refL b z c s _) (h _) ?_;rintro u L' ⟨z2,rfl,rfl⟩|refine zB ?_ ?_<;>intro hc<;>try exact no hc|refine zH ?_ ?_<;>(intro hg;rw[hg];try exact no hg)));all_goals try refine zO fun a w F M=>?_);(all_goals refine zE F M ?_);(have M2:=(M.own_nil 57 3).own_nil 75 3);exact⟨_,_,rfl,⟨nilH,nilH,z2,rfl,rfl⟩,M2.perms permsA⟩)
 ·((refine zGo Tryz.func27 ?_;intro G w M a F);((try refine zI zk27 F M ?_;clear F M a;try clear w);(repeat'(first|refine zA ?_;repeat intro nb|refine zC ?_;refine acK (L1:=refL b z c s _) (h _) ?_;rintro u L' ⟨z2,rfl,rfl⟩|refine zB ?_ ?_<;>intro hc<;>try exact no hc|refine zH ?_ ?_<;>(intro hg;rw[hg];try exact no hg)));all_goals try refine zO fun a w F M=>?_);(all_goals refine zE F M ?_);(have M2:=(M.own_nil 57 3).own_nil 75 3);exact⟨_,_,rfl,⟨nilH,nilH,z2,rfl,rfl⟩,M2.perms permsA⟩)
 ·((refine zGo Tryz.func27 ?_;intro G w M a F);((try refine zI zk27 F M ?_;clear F M a;try clear w);(repeat'(first|refine zA ?_;repeat intro nb|refine zC ?_;refine acK (L1:=refL b z c s _) (h _) ?_;rintro u L' ⟨z2,rfl,rfl⟩|refine zB ?_ ?_<;>intro hc<;>try exact no hc|refine zH ?_ ?_<;>(intro hg;rw[hg];try exact no hg)));all_goals try refine zO fun a w F M=>?_);(all_goals refine zE F M ?_);(have M2:=(M.own_nil 57 3).own_nil 75 3);exact⟨_,_,rfl,⟨nilH,nilH,z2,rfl,rfl⟩,M2.perms permsA⟩)
 ·((refine zGo Tryz.func27 ?_;intro G w M a F);((try refine zI zk27 F M ?_;clear F M a;try clear w);(repeat'(first|refine zA ?_;repeat intro nb|refine zC ?_;refine acK (L1:=refL b z c s _) (h _) ?_;rintro u L' ⟨z2,rfl,rfl⟩|refine zB ?_ ?_<;>intro hc<;>try exact no hc|refine zH ?_ ?_<;>(intro hg;rw[hg];try exact no hg)));all_goals try refine zO fun a w F M=>?_);(all_goals refine zE F M ?_);(have M2:=(M.own_nil 57 3).own_nil 75 3);exact⟨_,_,rfl,⟨nilH,nilH,z2,rfl,rfl⟩,M2.perms permsA⟩)
 ·((refine zGo Tryz.func27 ?_;intro G w M a F);((try refine zI zk27 F M ?_;clear F M a;try clear w);(repeat'(first|refine zA ?_;repeat intro nb|refine zC ?_;refine acK (L1:=refL b z c s _) (h _) ?_;rintro u L' ⟨z2,rfl,rfl⟩|refine zB ?_ ?_<;>intro hc<;>try exact no hc|refine zH ?_ ?_<;>(intro hg;rw[hg];try exact no hg)));all_goals try refine zO fun a w F M=>?_);(all_goals refine zE F M ?_);(have M2:=(M.own_nil 57 3).own_nil 75 3);exact⟨_,_,rfl,⟨nilH,nilH,z2,rfl,rfl⟩,M2.perms permsA⟩)
 ·((refine zGo Tryz.func27 ?_;intro G w M a F);((try refine zI zk27 F M ?_;clear F M a;try clear w);(repeat'(first|refine zA ?_;repeat intro nb|refine zC ?_;refine acK (L1:=refL b z c s _) (h _) ?_;rintro u L' ⟨z2,rfl,rfl⟩|refine zB ?_ ?_<;>intro hc<;>try exact no hc|refine zH ?_ ?_<;>(intro hg;rw[hg];try exact no hg)));all_goals try refine zO fun a w F M=>?_);(all_goals refine zE F M ?_);(have M2:=(M.own_nil 57 3).own_nil 75 3);exact⟨_,_,rfl,⟨nilH,nilH,z2,rfl,rfl⟩,M2.perms permsA⟩)
theorem rap_miss (o:Opn) (h1:o.k<1∨7<o.k):Spec 27 [ptr b,opV o] (refL b z c s R) fun u L'=>rapQ b c R (⟨o.k,11,-1,s.bk,epo c s,-1,0,[],[]⟩,s) u L':=by
 obtain ⟨k,ix,tg,am⟩:=o
 simp only at h1
 unfold rapQ
 refine zGz zk27 Tryz.func27 ?_;intro G;(repeat'(first|refine zA ?_;repeat intro nb|refine zC ?_;refine kp (k:=93) (rrej_spec b z c _ _ _ _ _ _) ?_|refine zB ?_ ?_<;>intro hc<;>try exact no hc|refine zH ?_ ?_<;>(intro hg;rw[hg];try exact no hg)));all_goals try refine zO fun a w F M=>?_
 all_goals first|(exfalso;omega)|skip
 all_goals refine zE F M ?_
 have M2:=(M.own_nil 57 3).own_nil 75 3
 exact⟨_,_,rfl,⟨nilH,nilH,z,rfl,rfl⟩,M2.perms permsA⟩
theorem rapply_spec (hb:s.bk<1000000000) (o:Opn) (ho:U64 o.am):Spec 27 [ptr b,opV o] (refL b z c s R) fun u L'=>rapQ b c R (stepM c s o) u L':=by
 obtain ⟨k,ix,tg,am⟩:=o
 simp only at ho
 by_cases h7:k=7
 ·subst h7
  exact rap_tick b z c s hc hi R hb ix tg am
 have e:stepM c s ⟨k,ix,tg,am⟩=(rcR c s k (opM c s ⟨k,ix,tg,am⟩),(opM c s ⟨k,ix,tg,am⟩).s):=by unfold stepM;rw[if_neg h7];rfl
 rw[e]
 by_cases h1:k=1
 ·subst h1
  exact rap_op b z c s hc hi R _ 1 ix tg am 88 [] (.inl ⟨rfl,rfl,rfl⟩) fun R=>rdep_spec b z c s hc hi R ⟨1,ix,tg,am⟩ ho
 by_cases h2:k=2
 ·subst h2
  exact rap_op b z c s hc hi R _ 2 ix tg am 89 [.int .i64 1] (.inr (.inl ⟨rfl,rfl,rfl⟩)) fun R=>rexit_spec b z c s hc hi R ⟨2,ix,tg,am⟩ 1 (by omega)
 by_cases h3:k=3
 ·subst h3
  exact rap_op b z c s hc hi R _ 3 ix tg am 89 [.int .i64 0] (.inr (.inr (.inl ⟨rfl,rfl,rfl⟩))) fun R=>rexit_spec b z c s hc hi R ⟨3,ix,tg,am⟩ 0 (by omega)
 by_cases h4:k=4
 ·subst h4
  exact rap_op b z c s hc hi R _ 4 ix tg am 90 [] (.inr (.inr (.inr (.inl ⟨rfl,rfl,rfl⟩)))) fun R=>rslash_spec b z c s hc hi R ⟨4,ix,tg,am⟩
 by_cases h5:k=5
 ·subst h5
  exact rap_op b z c s hc hi R _ 5 ix tg am 91 [] (.inr (.inr (.inr (.inr (.inl ⟨rfl,rfl,rfl⟩))))) fun R=>rcons_spec b z c s hc hi R ix tg am ho
 by_cases h6:k=6
 ·subst h6
  exact rap_op b z c s hc hi R _ 6 ix tg am 91 [] (.inr (.inr (.inr (.inr (.inr ⟨rfl,rfl,rfl⟩))))) fun R=>rpart_spec b z c s hc hi R ix tg am ho
 have hm:opM c s ⟨k,ix,tg,am⟩=no' s 11:=by unfold opM;rw[if_neg h1,if_neg h2,if_neg h3,if_neg h4,if_neg h5,if_neg h6]
 rw[hm]
 exact rap_miss b z c s hc hi R ⟨k,ix,tg,am⟩ (by simp only;omega)
end
def refB (b:Nat) (c:Cfg) (s:St):Asn:=exA fun z:RH=>refL b z c s []
section
variable (b:Nat) (c:Cfg) (s:St) (hc:CfOk c) (R:List Asn)
include hc
theorem rnewB:Spec 21 [cfgV c] R fun u L'=>∃ b,u=ptr b∧L'=refB b c St.ini::R :=
 Spec.conv (α:=Unit) (fun _=>rnew_spec c hc R) (fun G w M=>⟨(),M⟩) fun _ v L' ⟨b,z,e,e2⟩=>⟨_,⟨b,e,rfl⟩,fun G w M=>by subst e2;exact Mem.exc (f:=fun z:RH=>refL b z c St.ini []) z M⟩
theorem rapplyB (hi:Inv c s) (hb:s.bk<1000000000) (o:Opn) (ho:U64 o.am):Spec 27 [ptr b,opV o] (refB b c s::R) fun u L'=>∃ ha hp,u=rcV (stepM c s o).1 ha hp∧L'=ownT 75 asgL 3 (sl ha) (stepM c s o).1.asg::ownT 57 pmL 3 (sl hp) (stepM c s o).1.pms::refB b c (stepM c s o).2::R :=
 Spec.conv (fun z=>rapply_spec b z c s hc hi R hb o ho) (fun G w M=>Mem.exo (f:=fun z:RH=>refL b z c s []) M) fun z v L' ⟨ha,hp,z',e,e2⟩=>⟨_,⟨ha,hp,e,rfl⟩,fun G w M=>by
  subst e2
  have M2:Mem w (refL b z' c (stepM c s o).2 []++(ownT 75 asgL 3 (sl ha) (stepM c s o).1.asg::ownT 57 pmL 3 (sl hp) (stepM c s o).1.pms::(R++G))):=M.perms permsA
  exact(Mem.exc (f:=fun z:RH=>refL b z c (stepM c s o).2 []) z' M2).perms permsA⟩
theorem applyB (hi:Inv c s) (hb:s.bk<1000000000) (o:Opn) (hk:I64 o.k) (ho:U64 o.am):Spec 26 [ptr b,opV o] (engB b c s::R) fun u L'=>∃ ha hp,u=rcV (stepM c s o).1 ha hp∧L'=ownT 75 asgL 3 (sl ha) (stepM c s o).1.asg::ownT 57 pmL 3 (sl hp) (stepM c s o).1.pms::engB b c (stepM c s o).2::R :=
 Spec.conv (fun H=>apply_spec b H c s R hc hi hb o hk ho) (fun G w M=>Mem.exo (f:=fun H:EH=>engL b H c s []) M) fun H v L' ⟨ha,hp,H',e,e2⟩=>⟨_,⟨ha,hp,e,rfl⟩,fun G w M=>by
  subst e2
  have M2:Mem w (engL b H' c (stepM c s o).2 []++(ownT 75 asgL 3 (sl ha) (stepM c s o).1.asg::ownT 57 pmL 3 (sl hp) (stepM c s o).1.pms::(R++G))):=M.perms permsA
  exact(Mem.exc (f:=fun H:EH=>engL b H c (stepM c s o).2 []) H' M2).perms permsA⟩
end
end
section
open Go.RowKit
abbrev runV (eb lb:Nat):Value:=.agg [ptr eb,ptr lb].toArray
def hs0:HS:=⟨[],[],0,0,[]⟩
section
variable (c:Cfg) (hc:CfOk c) (R:List Asn)
include hc in
theorem tbegin_spec (hk:checkF c=0):Spec 10 [cfgV c] R fun u L'=>∃ eb lb,u=.tuple [runV eb lb,.bool true].toArray∧L'=engB eb c St.ini::logA lb hs0::R:=by
 have hnw:=fun R=>newB c R hc hk
 have hnl:∀ R,Spec 39 [] R fun u L'=>∃ lb,u=ptr lb∧L'=logA lb hs0::R:=fun R G w M=>by
  refine(new_spec (R++G) w M).mono ?_
  rintro e w' ⟨v,L',rfl,⟨lb,rfl,rfl⟩,M2⟩
  exact⟨_,_,rfl,⟨lb,rfl,rfl⟩,M2⟩
 refine zGz zk10 Tryz.func10 ?_;intro G;(repeat'(first|refine zA ?_;repeat intro nb|refine zC ?_;(first|refine acW (k:=24) (hnw _) ?_;rintro u L' ⟨eb,rfl,rfl⟩|refine acW (k:=39) (hnl _) ?_;rintro u L' ⟨lb,rfl,rfl⟩)|refine zB ?_ ?_<;>intro hc<;>try exact no hc|refine zH ?_ ?_<;>(intro hg;rw[hg];try exact no hg)));all_goals try refine zO fun a w F M=>?_
 all_goals refine zE F M ?_
 all_goals exact⟨_,_,rfl,⟨eb,lb,rfl,rfl⟩,M.perms permsA⟩
include hc in
theorem tdo_spec (eb lb:Nat) (s:St) (q:HS) (hi:Inv c s) (hb:s.bk<1000000000) (o:Opn) (hk:I64 o.k) (ho:U64 o.am) (hw:(stepM c s o).1.wf) (hn:0≤q.n∧q.n≤1000000) (hl:q.le 4000000) (h60:(stepM c s o).1.asg.length≤4096∧(stepM c s o).1.pms.length≤4096) :
  Spec 12 [runV eb lb,opV o] (engB eb c s::logA lb q::R) fun u L'=>∃ ha hp,u=rcV (stepM c s o).1 ha hp∧L'=ownT 75 asgL 3 (sl ha) (stepM c s o).1.asg::ownT 57 pmL 3 (sl hp) (stepM c s o).1.pms::engB eb c (stepM c s o).2::logA lb (hAdd o.k (stepM c s o).1 q)::R:=by
 have hap:=fun R=>applyB eb c s hc R hi hb o hk ho
 have had:=fun (sa pa:SlH) R hg=>add_spec lb q o (stepM c s o).1 sa pa R hw hg hn hl h60
 clear hw h60
 generalize stepM c s o=Y at *
 obtain ⟨⟨y1,y2,y3,y4,y5,y6,y7,y8,y9⟩,s2⟩:=Y
 obtain ⟨ok,oi,ot,oa⟩:=o
 simp only at hap had
 refine zGz zk12 Tryz.func12 ?_;intro G;(repeat'(first|refine zA ?_;repeat intro nb|refine zC ?_;(first|refine acK (L1:=engB eb c s::_) (k:=26) (hap _) ?_;rintro u L' ⟨ha,hp,rfl,rfl⟩|refine acK (L1:=logA lb q::_) (k:=40) (had ha hp _ ?_) ?_;exact⟨gsA,gsA⟩;rintro u L' ⟨rfl,rfl⟩)|refine zB ?_ ?_<;>intro hc<;>try exact no hc|refine zH ?_ ?_<;>(intro hg;rw[hg];try exact no hg)));all_goals try refine zO fun a w F M=>?_
 all_goals refine zE F M ?_
 all_goals exact⟨_,_,rfl,⟨ha,hp,rfl,rfl⟩,M.perms permsA⟩
end
end
section
open Go.RowKit
theorem parsV_u64 (c:Cfg) (hcf:CfOk c):∀ (q:List (Nat × Int)) (Z:List Val × List Pm),(∀ v∈Z.1,U64 v.bal)→(∀ p∈Z.2,0≤p.am)→(∀ r∈q,0≤r.2)→(∀ v∈(q.foldl (parV c) Z).1,U64 v.bal)∧∀ p∈(q.foldl (parV c) Z).2,0≤p.am
 | [],Z,h,hp,_=>⟨h,hp⟩
 | r::q,Z,h,hp,hr=>by
  rw[List.foldl_cons]
  refine parsV_u64 c hcf q _ (parV_u64 c hcf Z h r (hr r (by simp))) ?_ fun x hx=>hr x (by simp[hx])
  unfold parV
  cases hv:Z.1[r.1]? with
  | none=>exact hp
  | some v =>
   simp only
   split
   ·intro p hp2
    rcases List.mem_append.1 hp2 with hp2|hp2
    ·exact hp p hp2
    ·simp only[List.mem_cons,List.not_mem_nil,or_false] at hp2
     subst hp2
     simp only;omega
   ·exact hp
theorem opM_pd (c:Cfg) (s:St) (o:Opn):(opM c s o).s.pd=s.pd∧(opM c s o).s.dep=s.dep+(if o.k=1∧(opM c s o).c=0 then o.am else 0):=by
 unfold opM
 by_cases h1:o.k=1
 ·simp only[h1,if_true,true_and]
  unfold opDep no'
  repeat' split
  all_goals first|exact⟨rfl,rfl⟩|(refine⟨rfl,?_⟩;simp;done)|(simp_all;done)|skip
 ·simp only[h1,if_false,false_and,Int.add_zero]
  unfold opLeave opSlash opMerge opPart no'
  repeat'(first|exact⟨rfl,rfl⟩|split|dsimp only)
structure CsOk (s:St) (o:Opn) (s2:St) (r:Rc):Prop where
 pd:s2.pd=s.pd+(r.pms.map (·.am)).sum
 am:∀ p∈r.pms,0≤p.am
 dep:s2.dep=s.dep+(if o.k=1∧r.c=0 then o.am else 0)
 np:r.pms.length≤4096
theorem step_cs {c:Cfg} (hcf:CfOk c) {s:St} (h:Inv c s) (hb:s.bk<1000000000) (o:Opn):CsOk s o (stepM c s o).2 (stepM c s o).1:=by
 have hpy:=hcf.py
 unfold stepM
 by_cases h7:o.k=7
 ·rw[if_pos h7]
  have key:∀ B:Bd,Inv c B.s→B.s.pd=s.pd→B.s.dep=s.dep→CsOk s o (payM c B.s).s ⟨7,0,-1,s.bk+1,epo c {s with bk:=s.bk+1},-1,(payM c B.s).vi,B.ag,(payM c B.s).pm⟩:=fun B hB e1 e2=>by
   obtain ⟨hI,l,hP⟩:=payM_inv hcf hB
   have hnp:=hP.np
   have hU:∀ v∈B.s.V,U64 v.bal:=fun v hv=>by
    have hm:v.bal∈bals B.s.V:=List.mem_map.2 ⟨v,hv,rfl⟩
    have h1:=sum_mem_le _ hB.bal0 _ hm
    have h2:=hB.sup;have h3:=hcf.sc
    exact⟨hB.bal0 _ hm,by omega⟩
   obtain ⟨z1,z2⟩:=parsV_u64 c hcf (B.s.pa.take c.partials.toNat) (B.s.V,[]) hU (by simp) fun r hr=>by have:=hB.pa r (List.mem_of_mem_take hr);omega
   refine⟨?_,?_,?_,by simp only;omega⟩
   ·show(payM c B.s).s.pd=s.pd+((payM c B.s).pm.map (·.am)).sum
    rw[← e1];rfl
   ·simp only
    intro p hp
    rw[hP.pm] at hp
    rcases List.mem_append.1 hp with hp|hp
    ·exact z2 p hp
    ·obtain ⟨i,hi,rfl⟩:=List.mem_map.1 hp
     obtain ⟨v,hv,_⟩:=hP.st i hi
     simp only
     rw[getD_some hv]
     exact(z1 v (List.mem_of_getElem? hv)).1
   ·rw[if_neg (by rintro⟨h1,_⟩;omega),Int.add_zero]
    show(payM c B.s).s.dep=s.dep
    rw[← e2];rfl
  unfold tickM
  by_cases hz:((s.bk+1:Nat):Int) % c.epochLen=0
  ·simp only[if_pos hz]
   exact key _ (boundM_inv hcf h hb hz) rfl rfl
  ·simp only[if_neg hz]
   exact key ⟨[],{s with bk:=s.bk+1}⟩ (Inv.same hcf h hb hz) rfl rfl
 ·rw[if_neg h7]
  obtain ⟨h1,h2⟩:=opM_pd c s o
  exact⟨by simp only[List.map_nil,List.sum_nil,Int.add_zero];exact h1,by simp,h2,by simp⟩
end
section
open Go.RowKit
theorem set_get {V:List Val} {i:Nat} {v v':Val} (hv:V[i]? = some v) (j:Nat):(V.set i v')[j]? = if j=i then some v' else V[j]?:=by
 obtain ⟨hl,_⟩:=List.getElem?_eq_some_iff.1 hv
 rw[List.getElem?_set]
 by_cases h:i=j
 ·subst h;simp[hl]
 ·rw[if_neg h,if_neg (Ne.symm h)]
theorem asgs_ix (e:Int) (fo vo:List Nat) (k:Nat):(asgs e fo vo k).map (·.ix)=((fo++vo).take k).map (fun i:Nat=>(i:Int)):=by
 rw[List.take_append,List.map_append,asgs,List.map_append,List.map_map,List.map_map];rfl
theorem asgs_ep (e:Int) (fo vo:List Nat) (k:Nat):∀ y∈asgs e fo vo k,y.ep=e:=fun y hy=>by
 rcases List.mem_append.1 hy with hy|hy<;>(obtain ⟨i,_,rfl⟩:=List.mem_map.1 hy;rfl)
theorem merV_still (c:Cfg) (V:List Val) (p:Nat × Nat):(merV c V p).length=V.length∧∀ (i:Nat) v,V[i]? = some v→∃ v',(merV c V p)[i]? = some v'∧v'.ex=v.ex∧v'.sl=v.sl∧v'.rq=v.rq∧v'.wd=v.wd∧((3≤v'.st∧v'.st≤6)↔(3≤v.st∧v.st≤6))∧(v'.st=6↔v.st=6):=by
 unfold merV
 split
 rotate_left
 ·exact⟨rfl,fun i v hv=>⟨v,hv,rfl,rfl,rfl,rfl,Iff.rfl,Iff.rfl⟩⟩
 rename_i h0
 obtain ⟨a,b,_,_,hij,ha,hb,sa,sb,_⟩:=merR_zero h0
 simp only[Int.toNat_natCast] at ha hb
 refine⟨by simp,fun i v hv=>?_⟩
 rw[List.getElem?_modify,List.getElem?_modify,hv]
 by_cases h1:p.1=i
 ·subst h1
  rw[ha] at hv
  obtain rfl:=Option.some.inj hv
  have h2:¬p.2=p.1:=fun e=>hij (by rw[e])
  simp only[h2,if_false,if_true,Option.map_some,Option.map_id_fun,id]
  exact⟨_,rfl,rfl,rfl,rfl,rfl,by simp only;omega,by simp only;omega⟩
 ·by_cases h2:p.2=i
  ·simp only[h1,h2,if_false,if_true,Option.map_some,Option.map_id_fun,id]
   exact⟨_,rfl,rfl,rfl,rfl,rfl,Iff.rfl,Iff.rfl⟩
  ·simp only[h1,h2,if_false,Option.map_some,Option.map_id_fun,id]
   exact⟨_,rfl,rfl,rfl,rfl,rfl,Iff.rfl,Iff.rfl⟩
theorem mers_ex (c:Cfg):∀ (l:List (Nat × Nat)) (V:List Val) (i:Nat) (v:Val),V[i]? = some v→∃ v',(l.foldl (merV c) V)[i]? = some v'∧v'.ex=v.ex
 | [],V,i,v,h=>⟨v,h,rfl⟩
 | p::l,V,i,v,h=>by
  obtain ⟨v1,h1,e1,_⟩:=(merV_still c V p).2 i v h
  obtain ⟨v2,h2,e2⟩:=mers_ex c l _ i v1 h1
  exact⟨v2,h2,e2.trans e1⟩
theorem bound_parts {c:Cfg} (hc:CfOk c) {s:St} (h:Inv c s) (hb:s.bk<1000000000) (hz:((s.bk+1:Nat):Int) % c.epochLen=0):∃ (e:Int) (V2 V3 V4:List Val) (t n:Nat),e=epo c {s with bk:=s.bk+1}∧1≤e∧V2=s.V.map (gV e)∧V3=mods (setAsg c (e+1)) V2 ((s.fo++s.vo).take t)∧V4=mods actV V3 (s.pe.take n)∧(boundM c {s with bk:=s.bk+1}).s.V=(s.me.take c.merges.toNat).foldl (merV c) V4∧(boundM c {s with bk:=s.bk+1}).ag=asgs (e+1) s.fo s.vo t∧(boundM c {s with bk:=s.bk+1}).s.fo=s.fo.drop t∧(boundM c {s with bk:=s.bk+1}).s.vo=s.vo.drop (t - s.fo.length)∧(∀ (i:Nat) v,s.V[i]? = some v→VOk c (e - 1) v)∧(∀ i∈(s.fo++s.vo).take t,∃ v,V2[i]? = some v∧wait' v)∧(∀ i∈s.pe.take n,∃ v,V3[i]? = some v∧v.st=1)∧t=(takeW (bals s.V) (granted s.ca (churn c V2)) (s.fo++s.vo)).1∧(boundM c {s with bk:=s.bk+1}).s.ca=(if t=(s.fo++s.vo).length then 0 else (takeW (bals s.V) (granted s.ca (churn c V2)) (s.fo++s.vo)).2):=by
 have hep:=epo_next hc hz
 have he0:=epo_range hc (s:=s) (by have:=h.bk;omega)
 have hval:=h.val
 obtain ⟨e,he⟩:∃ e,epo c {s with bk:=s.bk+1} = e:=⟨_,rfl⟩
 have he1:epo c s=e - 1:=by omega
 rw[he1] at hval
 have hg:(s.V.map (leaveV e)).map (ripeV e)=s.V.map (gV e):=by rw[List.map_map];rfl
 obtain ⟨V2,hV2⟩:∃ V2,s.V.map (gV e)=V2:=⟨_,rfl⟩
 have ex2:Ix V2 wait' (s.fo++s.vo):=hV2 ▸ h.ex.map _ fun i v hv=>by
  have:=gV_cases hc (by omega) (hval i v hv);have:=gV_wd e v;unfold wait';omega
 have pe2:Ix V2 pend' s.pe:=hV2 ▸ h.pe.map _ fun i v hv=>by
  have:=gV_cases hc (by omega) (hval i v hv);unfold pend';omega
 have hb2:bals V2=bals s.V:=by rw[← hV2];exact bals_map (gV_bal e) _
 obtain ⟨t,ht⟩:∃ t,takeW (bals V2) (granted s.ca (churn c V2)) (s.fo++s.vo)=t:=⟨_,rfl⟩
 have hnd:((s.fo++s.vo).take t.1).Nodup:=h.ex.nd.sublist (List.take_sublist _ _)
 have hw2:∀ i∈(s.fo++s.vo).take t.1,∃ v,V2[i]? = some v∧wait' v:=fun i hi=>(ex2.mem i).1 (List.mem_of_mem_take hi)
 obtain ⟨V3,hV3⟩:∃ V3,mods (setAsg c (e+1)) V2 ((s.fo++s.vo).take t.1)=V3:=⟨_,rfl⟩
 have pe3:Ix V3 pend' s.pe:=hV3 ▸ pe2.mods_same _ hnd fun i hi v hv=>by simp[pend',setAsg]
 obtain ⟨n,hn⟩:∃ n,actN (bals V3) (churn c V2) s.pe=n:=⟨_,rfl⟩
 refine⟨e,V2,V3,mods actV V3 (s.pe.take n),t.1,n,he.symm,by omega,hV2.symm,hV3.symm,rfl,?_,?_,?_,?_,hval,hw2,fun i hi=>(pe3.mem i).1 (List.mem_of_mem_take hi),by rw[← hb2,ht],?_⟩
 all_goals simp only[boundM,he,hg,hV2,ht,hV3,hn,← hb2]
end
section
open Go.RowKit
theorem opDep_ok {c:Cfg} {s:St} {x:Int} (h:(opDep c s x).c=0):opDep c s x=⟨0,s.V.length,-1,{s with V:=s.V++[newV x],pe:=s.pe++[s.V.length],dep:=s.dep+x}⟩:=by
 unfold opDep no' at h ⊢
 split at h
 ·simp at h
 split at h
 ·simp at h
 split at h
 ·simp at h
 split at h
 ·simp at h
 split at h
 ·simp at h
 rename_i h1 h2 h3 h4 h5
 rw[if_neg h1,if_neg h2,if_neg h3,if_neg h4,if_neg h5]
def exV (v:Val) (e t:Int):Val:={v with rq:=e,st:=3,dl:=t}
theorem opLeave_ok {c:Cfg} {s:St} {cl ix:Int} (h:(opLeave c s cl ix).c=0):∃ v t,0≤ix∧s.V[ix.toNat]? = some v∧v.st=2∧payD c (epo c s) (aheadW s cl) v.bal=some t∧opLeave c s cl ix=⟨0,ix,t,if cl=0 then {s with V:=s.V.set ix.toNat (exV v (epo c s) t),fo:=s.fo++[ix.toNat]} else {s with V:=s.V.set ix.toNat (exV v (epo c s) t),vo:=s.vo++[ix.toNat]}⟩:=by
 unfold opLeave no' at h ⊢
 by_cases h0:ix<0
 ·rw[if_pos h0] at h;simp at h
 rw[if_neg h0] at h ⊢
 cases hv:s.V[ix.toNat]? with
 | none=>rw[hv] at h;simp at h
 | some v =>
  rw[hv] at h
  simp only[accR] at h ⊢
  by_cases h2:v.st=2
  rotate_left
  ·simp[h2] at h
  simp only[h2,if_true,ne_eq,not_true_eq_false,if_false] at h ⊢
  by_cases h3:c.queueSize≤(((if cl=0 then s.fo else s.vo).length:Nat):Int)
  ·rw[if_pos h3] at h;simp at h
  rw[if_neg h3] at h ⊢
  cases ht:payD c (epo c s) (aheadW s cl) v.bal with
  | none=>rw[ht] at h;simp at h
  | some t=>exact⟨v,t,by omega,rfl,h2,ht,rfl⟩
def slV (c:Cfg) (v:Val) (e:Int):Val:=⟨v.bal - penF v.bal c.penNum c.penDen,slaS v.st,true,if v.st=2 then e else v.rq,v.ex,max v.wd (e+c.slashDelay),-1⟩
theorem opSlash_ok {c:Cfg} {s:St} {ix:Int} (h:(opSlash c s ix).c=0):∃ v,0≤ix∧s.V[ix.toNat]? = some v∧v.sl=false∧(v.st=2∨v.st=3∨v.st=4∨v.st=5)∧opSlash c s ix=⟨0,ix,-1,{s with V:=s.V.set ix.toNat (slV c v (epo c s)),bu:=s.bu+penF v.bal c.penNum c.penDen,fo:=if v.st=2 then s.fo++[ix.toNat] else s.fo,bo:=if v.st=5 then s.bo++[((slV c v (epo c s)).wd,ix.toNat)] else s.bo}⟩:=by
 unfold opSlash no' at h ⊢
 by_cases h0:ix<0
 ·rw[if_pos h0] at h;simp at h
 rw[if_neg h0] at h ⊢
 cases hv:s.V[ix.toNat]? with
 | none=>rw[hv] at h;simp at h
 | some v =>
  rw[hv] at h
  simp only[slaR] at h ⊢
  by_cases hs:v.sl=true
  ·simp[hs] at h
  simp only[hs,if_false,Bool.false_eq_true] at h ⊢
  by_cases h4:v.st=2∨v.st=3∨v.st=4∨v.st=5
  rotate_left
  ·simp[h4] at h
  simp only[h4,if_true,ne_eq,not_true_eq_false,if_false] at h ⊢
  split at h
  ·simp at h
  rename_i h5
  rw[if_neg h5]
  exact⟨v,by omega,rfl,by simpa using hs,h4,rfl⟩
end
section
open Go.RowKit
theorem bound_ex {c:Cfg} (hc:CfOk c) {s:St} (h:Inv c s) (hb:s.bk<1000000000) (hz:((s.bk+1:Nat):Int) % c.epochLen=0):∃ (e:Int) (t:Nat),e=epo c {s with bk:=s.bk+1}∧1≤e∧epo c s=e - 1∧(boundM c {s with bk:=s.bk+1}).ag=asgs (e+1) s.fo s.vo t∧(boundM c {s with bk:=s.bk+1}).s.fo=s.fo.drop t∧(boundM c {s with bk:=s.bk+1}).s.vo=s.vo.drop (t - s.fo.length)∧(∀ i∈(s.fo++s.vo).take t,∃ v,s.V[i]? = some v∧v.st=3∧v.ex = -1)∧∀ (i:Nat) v,s.V[i]? = some v→∃ v',(boundM c {s with bk:=s.bk+1}).s.V[i]? = some v'∧v'.ex=if i∈(s.fo++s.vo).take t then e+1 else v.ex:=by
 obtain ⟨e,V2,V3,V4,t,n,he,he1,hV2,hV3,hV4,k1,k2,k3,k4,hval,hw,hp,_⟩:=bound_parts hc h hb hz
 have hnd:((s.fo++s.vo).take t).Nodup:=h.ex.nd.sublist (List.take_sublist _ _)
 have hep:=epo_next hc hz
 refine⟨e,t,he,he1,by omega,k2,k3,k4,fun i hi=>(h.ex.mem i).1 (List.mem_of_mem_take hi),fun i v hv=>?_⟩
 rw[k1]
 have g2:V2[i]? = some (gV e v):=by rw[hV2,List.getElem?_map,hv];rfl
 have g3:∃ u,V3[i]? = some u∧u.ex=if i∈(s.fo++s.vo).take t then e+1 else v.ex:=by
  rw[hV3,mods_get _ _ _ _ hnd,g2]
  split
  ·exact⟨_,rfl,rfl⟩
  ·exact⟨_,rfl,(gV_wd e v).2.1⟩
 obtain ⟨u,hu,hue⟩:=g3
 have g4:∃ u',V4[i]? = some u'∧u'.ex=u.ex:=by
  rw[hV4,mods_get _ _ _ _ (h.pe.nd.sublist (List.take_sublist _ _)),hu]
  split
  ·exact⟨_,rfl,rfl⟩
  ·exact⟨_,rfl,rfl⟩
 obtain ⟨u',hu',hue'⟩:=g4
 obtain ⟨u2,hu2,hue2⟩:=mers_ex c (s.me.take c.merges.toNat) V4 i u' hu'
 exact⟨u2,hu2,by rw[hue2,hue',hue]⟩
end
section
open Go.RowKit
theorem merR_rng (c:Cfg) (V:List Val) (i j:Int):0≤merR c V i j∧merR c V i j≤20:=by
 unfold merR merC
 repeat' split
 all_goals omega
theorem parC_rng (V:List Val) (i x:Int):0≤parC V i x∧parC V i x≤20:=by
 unfold parC
 repeat' split
 all_goals omega
theorem opLeave_c (c:Cfg) (s:St) (cl ix:Int):0≤(opLeave c s cl ix).c∧(opLeave c s cl ix).c≤20:=by
 have ha:∀ v e,0≤(accR v e).1∧(accR v e).1≤20:=fun v e=>by unfold accR;split<;>simp
 unfold opLeave no'
 split
 ·simp
 ·split
  ·simp
  ·rename_i v _
   have:=ha v (epo c s)
   split
   ·exact this
   ·by_cases h3:c.queueSize≤(((if cl=0 then s.fo else s.vo).length:Nat):Int)
    ·rw[if_pos h3];simp
    ·rw[if_neg h3];split<;>simp
theorem opSlash_c (c:Cfg) (s:St) (ix:Int):0≤(opSlash c s ix).c∧(opSlash c s ix).c≤20:=by
 have ha:∀ v e,0≤(slaR v e c.slashDelay c.penNum c.penDen).1∧(slaR v e c.slashDelay c.penNum c.penDen).1≤20:=fun v e=>by
  unfold slaR;split
  ·simp
  ·split<;>simp
 unfold opSlash no'
 split
 ·simp
 ·split
  ·simp
  ·rename_i v _
   have:=ha v (epo c s)
   simp only
   split
   ·exact this
   ·split<;>simp
theorem opM_c (c:Cfg) (s:St) (o:Opn):0≤(opM c s o).c∧(opM c s o).c≤20:=by
 unfold opM
 split
 ·unfold opDep no'
  repeat' split
  all_goals simp
 split
 ·exact opLeave_c c s _ _
 split
 ·exact opLeave_c c s _ _
 split
 ·exact opSlash_c c s _
 split
 ·unfold opMerge no'
  split
  ·exact merR_rng c s.V _ _
  ·split<;>simp
 split
 ·unfold opPart no'
  split
  ·exact parC_rng s.V _ _
  ·split<;>simp
 ·simp[no']
theorem opM_rng {c:Cfg} (hc:CfOk c) {s:St} (h:Inv c s) (o:Opn) (ho:U64 o.am):(-1≤(opM c s o).ix∧(opM c s o).ix≤4096)∧(-1≤(opM c s o).dl∧(opM c s o).dl≤1099511627776):=by
 have hcap:=h.cap;have hca:=hc.ca
 by_cases hr:(opM c s o).c=0
 rotate_left
 ·obtain ⟨e1,e2⟩:=opM_no c s o hr
  rw[e1,e2];omega
 have lv:∀ cl:Int,(opLeave c s cl o.ix).c=0→Inv c (opLeave c s cl o.ix).s→(-1≤(opLeave c s cl o.ix).ix∧(opLeave c s cl o.ix).ix≤4096)∧(-1≤(opLeave c s cl o.ix).dl∧(opLeave c s cl o.ix).dl≤1099511627776):=fun cl hr hI=>by
  obtain ⟨v,t,k0,k1,_,_,k3⟩:=opLeave_ok hr
  have hl:=(List.getElem?_eq_some_iff.1 k1).1
  have hv:=hI.val o.ix.toNat (exV v (epo c s) t) (by
   rw[k3]
   simp only
   split<;>(simp only;rw[set_get k1,if_pos rfl]))
  have hd:=hv.dl
  rw[k3]
  simp only[exV] at hd ⊢
  omega
 have hI:=opM_inv hc h o ho
 unfold opM at hr hI ⊢
 by_cases h1:o.k=1
 ·simp only[h1,if_true] at hr ⊢
  rw[opDep_ok hr];simp only;omega
 by_cases h2:o.k=2
 ·simp only[h2,if_true,Int.reduceEq,if_false] at hr hI ⊢
  exact lv 1 hr hI
 by_cases h3:o.k=3
 ·simp only[h3,if_true,Int.reduceEq,if_false] at hr hI ⊢
  exact lv 0 hr hI
 by_cases h4:o.k=4
 ·simp only[h4,if_true,Int.reduceEq,if_false] at hr ⊢
  obtain ⟨v,k0,k1,_,_,k4⟩:=opSlash_ok hr
  have hl:=(List.getElem?_eq_some_iff.1 k1).1
  rw[k4];simp only;omega
 by_cases h5:o.k=5
 ·simp only[h5,if_true,Int.reduceEq,if_false] at hr ⊢
  unfold opMerge no' at hr ⊢
  split at hr
  ·rename_i hm;simp only at hr;exact absurd hr hm
  ·rename_i hm
   split at hr
   ·simp at hr
   ·rename_i hq
    rw[if_neg hm,if_neg hq]
    simp only[ne_eq,Decidable.not_not] at hm
    obtain ⟨a,b,hi,hj,hij,ha,hb,_⟩:=merR_zero hm
    have hl:=(List.getElem?_eq_some_iff.1 ha).1
    simp only;omega
 by_cases h6:o.k=6
 ·simp only[h6,if_true,Int.reduceEq,if_false] at hr ⊢
  unfold opPart no' at hr ⊢
  split at hr
  ·rename_i hm;simp only at hr;exact absurd hr hm
  ·rename_i hm
   split at hr
   ·simp at hr
   ·rename_i hq
    rw[if_neg hm,if_neg hq]
    simp only[ne_eq,Decidable.not_not] at hm
    unfold parC at hm
    split at hm
    ·simp at hm
    ·rename_i hi
     split at hm
     ·simp at hm
     ·rename_i v hv
      have hl:=(List.getElem?_eq_some_iff.1 hv).1
      simp only;omega
 simp only[h1,h2,h3,h4,h5,h6,if_false,no'] at hr
 simp at hr
theorem step_wf {c:Cfg} (hc:CfOk c) {s:St} (h:Inv c s) (hb:s.bk<1000000000) (o:Opn) (hk:I64 o.k) (ho:U64 o.am):(stepM c s o).1.wf∧((stepM c s o).1.asg.length:Int)≤c.capacity∧((stepM c s o).1.pms.length:Int)≤c.payments:=by
 obtain ⟨hI2,_⟩:=stepM_inv hc h hb o ho
 obtain ⟨hB,_⟩:=step_bg hc h hb o
 have hC:=step_cs hc h hb o
 have hvi:=hB.vi;have hnp:=hB.np
 have hv2:=hc.vi;have hca:=hc.ca
 have hpd:(stepM c s o).2.pd≤18446744073709551615:=by
  have h1:=sum_nonneg _ hI2.bal0
  have h2:=hI2.sum;have h3:=hI2.tot
  omega
 have hp0:=h.tot
 have hpm:∀ p∈(stepM c s o).1.pms,I64 p.ix∧U64 p.am:=fun p hp=>by
  obtain ⟨i,v,e1,e2,_⟩:=hB.pm p hp
  have hl:=(List.getElem?_eq_some_iff.1 e2).1
  have hcap:=hI2.cap
  have hs:=hC.pd
  have hle:p.am≤((stepM c s o).1.pms.map (·.am)).sum:=sum_mem_le _ (fun x hx=>by
   obtain ⟨y,hy,rfl⟩:=List.mem_map.1 hx
   exact hC.am y hy) p.am (List.mem_map.2 ⟨p,hp,rfl⟩)
  have h0:=hC.am p hp
  exact⟨⟨by omega,by omega⟩,⟨h0,by omega⟩⟩
 by_cases h7:o.k=7
 ·have he:=epo_range hc (s:={s with bk:=s.bk+1}) (by simp only;omega)
  unfold stepM at hpm hvi hnp ⊢
  rw[if_pos h7] at hpm hvi hnp ⊢
  have hag:∀ y∈(tickM c s).1.asg,I64 y.ix∧I64 y.cl∧I64 y.ep:=by
   unfold tickM
   by_cases hz:((s.bk+1:Nat):Int) % c.epochLen=0
   ·simp only[if_pos hz]
    obtain ⟨e,t,e0,e1,_,k2,_,_,hw,_⟩:=bound_ex hc h hb hz
    rw[k2]
    intro y hy
    have hix:y.ix∈(asgs (e+1) s.fo s.vo t).map (·.ix):=List.mem_map.2 ⟨y,hy,rfl⟩
    rw[asgs_ix] at hix
    obtain ⟨i,hi,hiy⟩:=List.mem_map.1 hix
    obtain ⟨v,hv,_⟩:=hw i hi
    have hl:=(List.getElem?_eq_some_iff.1 hv).1
    have hcap:=h.cap
    have hep:=asgs_ep _ _ _ _ y hy
    have hcl:y.cl=0∨y.cl=1:=by
     rcases List.mem_append.1 hy with hy|hy<;>(obtain ⟨j,_,rfl⟩:=List.mem_map.1 hy;simp)
    refine⟨⟨by omega,by omega⟩,⟨by omega,by omega⟩,⟨by omega,by omega⟩⟩
   ·simp only[if_neg hz]
    intro y hy;simp at hy
  have hal:((tickM c s).1.asg.length:Int)≤c.capacity:=by
   have hx:=h.ex.len;have hcap:=h.cap
   unfold tickM
   by_cases hz:((s.bk+1:Nat):Int) % c.epochLen=0
   ·simp only[if_pos hz]
    obtain ⟨e,t,_,_,_,k2,_⟩:=bound_ex hc h hb hz
    rw[k2]
    have e1:(asgs (e+1) s.fo s.vo t).length=((asgs (e+1) s.fo s.vo t).map (·.ix)).length:=by simp
    rw[e1,asgs_ix,List.length_map,List.length_take];omega
   ·simp only[if_neg hz,List.length_nil];omega
  refine⟨⟨(show I64 (7:Int) from ⟨by decide,by decide⟩),(show I64 (0:Int) from ⟨by decide,by decide⟩),(show I64 (-1:Int) from ⟨by decide,by decide⟩),?_,?_,(show I64 (-1:Int) from ⟨by decide,by decide⟩),⟨by omega,by omega⟩,hag,hpm⟩,hal,hnp⟩
  ·show I64 ((s.bk+1:Nat):Int)
   exact⟨by omega,by omega⟩
  ·show I64 (epo c {s with bk:=s.bk+1})
   exact⟨by omega,by omega⟩
 ·have he:=epo_range hc (s:=s) (by omega)
  obtain ⟨r1,r2⟩:=opM_rng hc h o ho
  have r3:=opM_c c s o
  unfold stepM
  rw[if_neg h7]
  have hpy:=hc.py
  refine⟨⟨hk,⟨by simp only;omega,by simp only;omega⟩,⟨by simp only;omega,by simp only;omega⟩,⟨by simp only;omega,by simp only;omega⟩,⟨by simp only;omega,by simp only;omega⟩,⟨by simp only;omega,by simp only;omega⟩,⟨by simp only;omega,by simp only;omega⟩,fun y hy=>by simp at hy,fun y hy=>by simp at hy⟩,by simp only[List.length_nil];omega,by simp only[List.length_nil];omega⟩
structure LK0 (c:Cfg) (s:St) (q:HS) (k:Nat):Prop where
 inv:Inv c s
 bk:s.bk≤k
 n:q.n=k
 le:q.le (301*k)
 ol:q.ord.length≤k
theorem hAdd_n (k:Int) (x:Rc) (q:HS):(hAdd k x q).n=q.n+1:=by
 have h:=(foldP_keep x.ep x.pms (x.asg.foldl addA {q with n:=q.n+1,ep:=x.ep})).2.1
 rw[(foldA_keep x.asg {q with n:=q.n+1,ep:=x.ep}).2.1] at h
 unfold hAdd
 split
 ·rfl
 ·simp only
  repeat' split
  all_goals exact h
theorem hAdd_ord (k:Int) (x:Rc) (q:HS):(hAdd k x q).ord.length≤q.ord.length+1:=by
 have h:=(foldP_keep x.ep x.pms (x.asg.foldl addA {q with n:=q.n+1,ep:=x.ep})).1
 rw[(foldA_keep x.asg {q with n:=q.n+1,ep:=x.ep}).1] at h
 have hb:∀ (cl:Int) (q2:HS),q2.ord=q.ord→(addB cl x q2).ord.length≤q.ord.length+1:=fun cl q2 e=>by
  simp only[addB,beginO,e]
  split
  ·omega
  ·simp
 unfold hAdd
 split
 ·exact Nat.le_succ _
 ·simp only
  split
  ·exact hb 1 _ h
  ·split
   ·exact hb 0 _ h
   ·split
    ·exact hb 0 _ h
    ·rw[h];exact Nat.le_succ _
theorem lk0_ini {c:Cfg} (hc:CfOk c):LK0 c St.ini ⟨[],[],0,0,[]⟩ 0:=⟨Inv.ini hc,Nat.le_refl _,rfl,⟨by simp,by simp,fun i=>by simp[getR,r0]⟩,Nat.le_refl _⟩
theorem lk0_step {c:Cfg} (hc:CfOk c) (hs:c.capacity≤100∧c.payments≤200) {s:St} {q:HS} {k:Nat} (h:LK0 c s q k) (hk:k<100000) (o:Opn) (ho1:I64 o.k) (ho2:U64 o.am):LK0 c (stepM c s o).2 (hAdd o.k (stepM c s o).1 q) (k+1):=by
 have hb:=h.bk
 obtain ⟨_,w1,w2⟩:=step_wf hc h.inv (by omega) o ho1 ho2
 obtain ⟨i1,i2⟩:=stepM_inv hc h.inv (by omega) o ho2
 exact⟨i1,by omega,by rw[hAdd_n,h.n];omega,(le_hAdd h.le).mono (by omega),by have:=h.ol;have:=hAdd_ord o.k (stepM c s o).1 q;omega⟩
end
section
open Go.RowKit
section
variable (c:Cfg) (hcf:CfOk c) (hsm:c.capacity≤100∧c.payments≤200) (eb lb:Nat) {s:St} {q:HS} {k:Nat} (hL:LK0 c s q k)
include hcf hsm hL
theorem tdo2 (hk:k≤10000) (o:Opn) (ho1:I64 o.k) (ho2:U64 o.am) (R:List Asn):Spec 12 [runV eb lb,opV o] (engB eb c s::logA lb q::R) fun u L'=>∃ ha hp,u=rcV (stepM c s o).1 ha hp∧L'=ownT 75 asgL 3 (sl ha) (stepM c s o).1.asg::ownT 57 pmL 3 (sl hp) (stepM c s o).1.pms::engB eb c (stepM c s o).2::logA lb (hAdd o.k (stepM c s o).1 q)::R:=by
 have hb:=hL.bk
 obtain ⟨w0,w1,w2⟩:=step_wf hcf hL.inv (by omega) o ho1 ho2
 exact tdo_spec c hcf R eb lb s q hL.inv (by omega) o ho1 ho2 w0 ⟨by rw[hL.n];omega,by rw[hL.n];omega⟩ (hL.le.mono (by omega)) ⟨by omega,by omega⟩
end
end
section
open Go.RowKit
section
variable {o:Oper} {n:Nat} {l:List (Nat × Value)} {L:List Asn}
theorem rt_neS {t ty:TypeId} {x y:Operand} (ho:o.op=.binOp .neq t x y ty) {k:IntKind} {m:Int} (hx:evl l x=some (.int k m)) (hy:evl l y=some (.int k m)):RT o l L n (.bool false):=fun a w F M=>by
 unfold execOp
 rw[ho]
 simp[F.eval hx,F.eval hy,eqGuard,binOp,Op.intCmp]
end
theorem same1_spec (i x:Int) (R:List Asn):Spec 60 [rqW i x,rqW i x] R fun u L'=>u=.bool true∧L'=R:=by
 refine zGz zk60 Tryz.func60 ?_;intro G;(repeat'(first|refine zA ?_;repeat intro nb|refine zB ?_ ?_<;>intro hc<;>try exact no hc|refine zH ?_ ?_<;>(intro hg;rw[hg];try exact no hg)));all_goals try refine zO fun a w F M=>?_
 all_goals refine zE F M ?_
 refine⟨_,_,rfl,⟨?_,rfl⟩,M.perms permsA⟩
 simp[tupOf]
theorem eqf_spec (v1 v2:Value) (q:List (Nat × Int)) (R:List Asn) (g1:GS R 2 v1 q.length (q.flatMap rqL)) (g2:GS R 2 v2 q.length (q.flatMap rqL)):Spec 59 [v1,v2,.func (.func 60) #[] #[]] R fun u L'=>u=.bool true∧L'=R:=by
 refine zGo Tryz.func59 ?_;intro G w M a F
 have hG:GS (R++G) 2 v1 q.length (q.flatMap rqL):=Gives.app g1
 have hH:GS (R++G) 2 v2 q.length (q.flatMap rqL):=Gives.app g2
 have hlv:=hG.len_le M
 (try refine zI zk59 F M ?_;clear F M a;try clear w);(repeat'(first|refine zA ?_;repeat intro nb|refine zB ?_ ?_<;>intro hc<;>try exact no hc|refine zH ?_ ?_<;>(intro hg;rw[hg];try exact no hg)));all_goals try refine zO fun a w F M=>?_
 refine svLoop F M (0:Nat) (fun k=>[(17,.int .i64 k)]) (fun _=>[]) (fun k=>k≤q.length) (fun k=>q.length - k) [] (Nat.zero_le _) ?_
 (rintro k q1 a w F M;(try simp only[zc,zn] at F M q1 ⊢))
 by_cases hk:k<q.length
 ·obtain ⟨⟨i,x⟩,hp⟩:∃ p,q[k]? = some p:=⟨q[k],by simp[hk]⟩
  (try refine zI zk59 F M ?_;clear F M a;try clear w);(repeat'(first|refine zA ?_;repeat intro nb|refine zC ?_;refine acF (k:=60) (same1_spec i x _) ?_;rintro u L' ⟨rfl,rfl⟩|refine zB ?_ ?_<;>intro hc<;>try exact no hc|refine zH ?_ ?_<;>(intro hg;rw[hg];try exact no hg)));all_goals try refine zO fun a w F M=>?_
  exact sv_again F M (k+1) kpA permsA (by omega) (by omega)
 obtain rfl:k=q.length:=by omega
 (try refine zI zk59 F M ?_;clear F M a;try clear w);(repeat'(first|refine zA ?_;repeat intro nb|refine zB ?_ ?_<;>intro hc<;>try exact no hc|refine zH ?_ ?_<;>(intro hg;rw[hg];try exact no hg)));all_goals exact zXz
theorem runb_spec (b:Nat) (z:RH) (c:Cfg) (bk ep at':Int) (V:List Val) (hl:V.length≤4096) (R:List Asn) (hg:GS R 7 (sl z.hV) V.length (V.flatMap valL)):Spec 65 [ptr b] (pt b (rfC z c bk ep at') 85::R) fun u L'=>u=.int .i64 ((V.filter pBond).length:Int)∧L'=pt b (rfC z c bk ep at') 85::R:=by
 refine zGo Tryz.func65 ?_;intro G w M a F
 have hG:GS (R++G) 7 (sl z.hV) V.length (V.flatMap valL):=Gives.app hg
 (try refine zI zk65 F M ?_;clear F M a;try clear w);(repeat'(first|refine zA ?_;repeat intro nb|refine zB ?_ ?_<;>intro hc<;>try exact no hc|refine zH ?_ ?_<;>(intro hg;rw[hg];try exact no hg)));all_goals try refine zO fun a w F M=>?_
 refine svLoop F M ((0,0):Nat × Nat) (fun y=>[(4,.int .i64 y.1),(3,.int .i64 y.2)]) (fun _=>[]) (fun y=>y.1≤V.length∧y.2=((V.take y.1).filter pBond).length) (fun y=>V.length - y.1) [] ⟨Nat.zero_le _,by simp⟩ ?_
 (rintro⟨k,m⟩ ⟨q1,q2⟩ a w F M;(try simp only[zc,zn] at F M q1 q2 ⊢))
 by_cases hk:k<V.length
 ·obtain ⟨v,hv⟩:∃ v,V[k]? = some v:=⟨V[k],by simp[hk]⟩
  have hm:m≤4096:=by have:=List.length_filter_le pBond (V.take k);rw[List.length_take] at this;omega
  have e:((V.take (k+1)).filter pBond).length=m+(if pBond v=true then 1 else 0):=by
   rw[List.take_add_one,hv,List.filter_append,List.length_append,← q2]
   simp only[Option.toList_some,List.filter_cons,List.filter_nil]
   split<;>simp
  obtain ⟨bal,st,slz,rq,ex,wd,dl⟩:=v
  by_cases h4:st=4
  ·subst h4
   (try refine zI zk65 F M ?_;clear F M a;try clear w);(repeat'(first|refine zA ?_;repeat intro nb|refine zB ?_ ?_<;>intro hc<;>try exact no hc|refine zH ?_ ?_<;>(intro hg;rw[hg];try exact no hg)));all_goals try refine zO fun a w F M=>?_
   exact sv_again F M (k+1,m+1) kpA permsA ⟨by simp only;omega,by simp only;rw[e];simp[pBond]⟩ (by simp only;omega)
  by_cases h3:st=3
  ·subst h3
   by_cases hx:ex = -1
   ·subst hx
    (try refine zI zk65 F M ?_;clear F M a;try clear w);(repeat'(first|refine zA ?_;repeat intro nb|refine zB ?_ ?_<;>intro hc<;>try exact no hc|refine zH ?_ ?_<;>(intro hg;rw[hg];try exact no hg)));all_goals try refine zO fun a w F M=>?_
    exact sv_again F M (k+1,m) kpA permsA ⟨by simp only;omega,by simp only;rw[e];simp[pBond]⟩ (by simp only;omega)
   ·(try refine zI zk65 F M ?_;clear F M a;try clear w);(repeat'(first|refine zA ?_;repeat intro nb|refine zB ?_ ?_<;>intro hc<;>try exact no hc|refine zH ?_ ?_<;>(intro hg;rw[hg];try exact no hg)));all_goals try refine zO fun a w F M=>?_
    all_goals first|(exfalso;simp_all;done)|exact sv_again F M (k+1,m+1) kpA permsA ⟨by simp only;omega,by simp only;rw[e];simp[pBond,hx]⟩ (by simp only;omega)
  ·(try refine zI zk65 F M ?_;clear F M a;try clear w);(repeat'(first|refine zA ?_;repeat intro nb|refine zB ?_ ?_<;>intro hc<;>try exact no hc|refine zH ?_ ?_<;>(intro hg;rw[hg];try exact no hg)));all_goals try refine zO fun a w F M=>?_
   all_goals first|(exfalso;simp_all;done)|exact sv_again F M (k+1,m) kpA permsA ⟨by simp only;omega,by simp only;rw[e];simp[pBond,h4,h3]⟩ (by simp only;omega)
 obtain rfl:k=V.length:=by omega
 rw[List.take_of_length_le (by omega)] at q2
 subst q2
 (try refine zI zk65 F M ?_;clear F M a;try clear w);(repeat'(first|refine zA ?_;repeat intro nb|refine zB ?_ ?_<;>intro hc<;>try exact no hc|refine zH ?_ ?_<;>(intro hg;rw[hg];try exact no hg)));all_goals exact zXz
section
variable (b:Nat) (z:RH) (c:Cfg) (s:St) (hc:CfOk c) (hi:Inv c s) (h1 h2 h3 h4 h5 h6:SlH) (R:List Asn)
include hc hi
theorem same22_spec (g1:GS R 7 (sl h1) s.V.length (s.V.flatMap valL)) (g2:GS R 1 (sl h2) s.pe.length (s.pe.flatMap natL)) (g3:GS R 1 (sl h3) s.fo.length (s.fo.flatMap natL)) (g4:GS R 1 (sl h4) s.vo.length (s.vo.flatMap natL)) (g5:GS R 2 (sl h5) s.me.length (s.me.flatMap prL)) (g6:GS R 2 (sl h6) s.pa.length (s.pa.flatMap rqL)) :
  Spec 23 [snV (snOf c s h1 h2 h3 h4 h5 h6),ptr b] (refL b z c s R) fun u L'=>u=.int .i64 1∧L'=refL b z c s R:=by
 have hcap:=hi.cap;have hca:=hc.ca
 have hl:s.V.length≤4096:=by omega
 have hb0:=hi.bal0
 have hac:=actv_le s.V hb0
 have hsum:=hi.sum
 have htot:=hi.tot
 have hsm:=fun (R:List Asn) hg hg2=>rsame7_spec s.V (sl h1) R hg (by omega) (sl z.hV) hg2
 have hav:=fun (R:List Asn) hg=>ractive_spec s.V (sl z.hV) R hg (by omega) hb0 (by omega)
 have hub:=fun (R:List Asn) hg=>runb_spec b z c s.bk (epo c s) s.at' s.V hl R hg
 have e0:=ix_count hi.bo pBond_iff
 rw[List.length_map] at e0
 rw[e0] at hub
 have en:∀ (x y:SlH) (l:List Nat) {L:List Asn},GS L 1 (sl x) l.length (l.flatMap natL)→GS L 1 (sl y) l.length (l.flatMap natL)→Reads 63 [sl x,sl y] (.bool true) L:=fun x y l _ g1 g2=>by simpa using eqs_nat (sl x) (sl y) l l g1 g2
 have e5:∀ {L:List Asn},GS L 2 (sl h5) s.me.length (s.me.flatMap prL)→GS L 2 (sl z.hM) s.me.length (s.me.flatMap prL)→Reads 64 [sl h5,sl z.hM] (.bool true) L:=fun g1 g2=>by simpa using eqs_pr (sl h5) (sl z.hM) s.me s.me g1 g2
 intro G w M
 obtain ⟨f1,f2,M2,fe1,fe2⟩:=rln_open z.ln M
 obtain ⟨z1,z2,z3,z4,M3⟩:=rmt_open z.mt (M2.pull pullA)
 clear M M2
 have M:=M3
 clear M3
 replace g1:GS (R++G) 7 (sl h1) s.V.length (s.V.flatMap valL):=Gives.app g1
 replace g2:GS (R++G) 1 (sl h2) s.pe.length (s.pe.flatMap natL):=Gives.app g2
 replace g3:GS (R++G) 1 (sl h3) s.fo.length (s.fo.flatMap natL):=Gives.app g3
 replace g4:GS (R++G) 1 (sl h4) s.vo.length (s.vo.flatMap natL):=Gives.app g4
 replace g5:GS (R++G) 2 (sl h5) s.me.length (s.me.flatMap prL):=Gives.app g5
 replace g6:GS (R++G) 2 (sl h6) s.pa.length (s.pa.flatMap rqL):=Gives.app g6
 (refine zGe Tryz.func23 ?_;intro a F;(try simp only[zc,zn] at M))
 (try refine zI zk23 F M ?_;clear F M a;try clear w);(repeat'(first|refine zV (h:=⟨_,by((apply rt_neS;(exact rfl);(exact rfl);(exact rfl))),?_⟩)|refine zA1 ?_;repeat intro(nb:Nat)|refine zC ?_;(first|refine acW (k:=59) (eqf_spec _ _ s.pa _ ?_ ?_) ?_;exact gsA;exact gsA;rintro u L' ⟨rfl,rfl⟩|refine acW (k:=61) (hsm _ ?_ ?_) ?_;exact gsA;exact gsA;rintro u L' ⟨rfl,rfl⟩|refine acW (k:=62) (hav _ ?_) ?_;exact gsA;rintro u L' ⟨rfl,rfl⟩|refine acCall (k:=63) ?_;(first|refine Spec.of_reads (en h2 z.hP s.pe gsA gsA) rfl ?_|refine Spec.of_reads (en h3 f1 s.fo gsA gsA) rfl ?_|refine Spec.of_reads (en h4 f2 s.vo gsA gsA) rfl ?_)|refine acCall (k:=64) ?_;refine Spec.of_reads (e5 gsA gsA) rfl ?_|refine acK (L1:=pt b (rfC z c s.bk (epo c s) s.at') 85::_) (k:=65) (hub _ ?_) ?_;exact gsA;rintro u L' ⟨rfl,rfl⟩)|refine zB ?_ ?_<;>intro hc<;>try exact no hc|refine zH ?_ ?_<;>(intro hg;rw[hg];try exact no hg)));all_goals try refine zO fun a w F M=>?_
 all_goals refine zE F M ?_
 have M2:Mem _ (rmtA z.mt s.ca::(rlnL z.ln f1 f2 (qS c) s.fo s.vo (pt b (rfC z c s.bk (epo c s) s.at') 85::rldC z.ld c.supplyCap s.dep s.pd s.bu::roT valL 7 (sl z.hV) s.V::roT natL 1 (sl z.hP) s.pe::roT prL 2 (sl z.hM) s.me::roT rqL 2 (sl z.hQ) s.pa::(R++G)))):=rmt_close z.mt (M.perms permsA)
 exact⟨_,_,rfl,⟨rfl,rfl⟩,rln_close z.ln (h1:=f1) (h2:=f2) (M2.perms permsA)⟩
theorem same22B:Spec 23 [snV (snOf c s h1 h2 h3 h4 h5 h6),ptr b] (snA s h1 h2 h3 h4 h5 h6::refB b c s::R) fun u L'=>u=.int .i64 1∧L'=refB b c s::R :=
 Spec.conv (fun z:RH=>same22_spec b z c s hc hi h1 h2 h3 h4 h5 h6 (ownT 62 valL 7 (sl h1) s.V::ownT 3 natL 1 (sl h2) s.pe::ownT 3 natL 1 (sl h3) s.fo::ownT 3 natL 1 (sl h4) s.vo::ownT 77 prL 2 (sl h5) s.me::ownT 79 rqL 2 (sl h6) s.pa::R) gsA gsA gsA gsA gsA gsA) (fun G w M=>by
  obtain ⟨_,M1⟩:=Mem.exo M
  have M2:Mem w (refB b c s::(ownT 62 valL 7 (sl h1) s.V::ownT 3 natL 1 (sl h2) s.pe::ownT 3 natL 1 (sl h3) s.fo::ownT 3 natL 1 (sl h4) s.vo::ownT 77 prL 2 (sl h5) s.me::ownT 79 rqL 2 (sl h6) s.pa::(R++G))):=M1.perms permsA
  obtain ⟨z,M3⟩:=Mem.exo (f:=fun z:RH=>refL b z c s []) M2
  exact⟨z,M3⟩) fun z v L' ⟨e,e2⟩=>⟨_,⟨e,rfl⟩,fun G w M=>by
  subst e2
  have M2:Mem w (refL b z c s []++(R++G)):=M.perms permsA
  exact Mem.exc (f:=fun z:RH=>refL b z c s []) z M2⟩
end
end
section
open Go.RowKit
section
variable {x y:Rc} {sx px sy py:SlH} {L:List Asn}
theorem rsame_reads (hx:RcG L x sx px) (hy:RcG L y sy py):Reads 20 [rcV x sx px,rcV y sy py] (.bool (decide (x=y))) L:=by
 generalize hR:decide (x=y)=R
 (intro K hK w M;refine sx_enter (vs:=[rcV x sx px,rcV y sy py]) Tryz.func20 (n:=108) rfl rfl rfl rfl ?_;intro a F)
 have h1:=hx.a.imp hK
 have h2:=hx.p.imp hK
 have h3:=hy.a.imp hK
 have h4:=hy.p.imp hK
 have hl1:=h1.len_le M
 have hl2:=h2.len_le M
 have hl3:=h3.len_le M
 have hl4:=h4.len_le M
 (try refine zI zk20 F M ?_;clear F M a;try clear w);(repeat'(first|refine zV (h:=⟨_,by(first|(apply(rt_neqT (f:=asgL));(exact rfl);(exact rfl);(exact rfl);(exact inferInstance);(exact inferInstance))|(apply(rt_neqT (f:=pmL));(exact rfl);(exact rfl);(exact rfl);(exact inferInstance);(exact inferInstance))),?_⟩)|refine zA1 ?_;repeat intro(b:Nat)|refine zB ?_ ?_<;>intro hc<;>try exact no hc|refine zH ?_ ?_<;>(intro hg;rw[hg];try exact no hg)));all_goals try refine zO fun a w F M=>?_
 all_goals try((first|(refine svEnd F M ?_)|(refine svRet F M ?_));refine⟨?_,M.perms permsA⟩;(have hne:R=false:=by(rw[← hR];simp only[decide_eq_false_iff_not];intro he;subst he;simp at *));(rw[hne];rfl);done)
 have hla:x.asg.length=y.asg.length:=by simp_all;omega
 have hlp:x.pms.length=y.pms.length:=by omega
 have hR':R=(decide (x.asg.drop 0=y.asg.drop 0) && decide (x.pms=y.pms)):=by rw[← hR,rc_eq];simp_all
 refine svLoop F M (0:Nat) (fun i=>[(5,.int .i64 i)]) (fun _=>[]) (fun i=>i≤x.asg.length∧R=(decide (x.asg.drop i=y.asg.drop i) && decide (x.pms=y.pms))) (fun i=>x.asg.length - i) [] ⟨by omega,hR'⟩ ?_
 (rintro k ⟨q1,q2⟩ a w F M;(try simp only[zc,zn] at F M q1 q2 ⊢))
 by_cases hlt:k<x.asg.length
 ·obtain ⟨u,hu⟩:∃ u,x.asg[k]? = some u:=⟨x.asg[k],by simp[hlt]⟩
  obtain ⟨v,hv⟩:∃ v,y.asg[k]? = some v:=⟨y.asg[k]'(by omega),by rw[List.getElem?_eq_getElem (by omega)]⟩
  rw[drop_cons hu,drop_cons hv] at q2
  by_cases he:u=v
  ·subst he
   (try refine zI zk20 F M ?_;clear F M a;try clear w);(repeat'(first|refine zV (h:=⟨_,by(first|(apply(rt_neqT (f:=asgL));(exact rfl);(exact rfl);(exact rfl);(exact inferInstance);(exact inferInstance))|(apply(rt_neqT (f:=pmL));(exact rfl);(exact rfl);(exact rfl);(exact inferInstance);(exact inferInstance))),?_⟩)|refine zA1 ?_;repeat intro(b:Nat)|refine zB ?_ ?_<;>intro hc<;>try exact no hc|refine zH ?_ ?_<;>(intro hg;rw[hg];try exact no hg)));all_goals try refine zO fun a w F M=>?_
   (refine sv_again F M (k+1) kpA permsA ?_ ?_)
   ·exact⟨by omega,by rw[q2];simp⟩
   ·omega
  ·(try refine zI zk20 F M ?_;clear F M a;try clear w);(repeat'(first|refine zV (h:=⟨_,by(first|(apply(rt_neqT (f:=asgL));(exact rfl);(exact rfl);(exact rfl);(exact inferInstance);(exact inferInstance))|(apply(rt_neqT (f:=pmL));(exact rfl);(exact rfl);(exact rfl);(exact inferInstance);(exact inferInstance))),?_⟩)|refine zA1 ?_;repeat intro(b:Nat)|refine zB ?_ ?_<;>intro hc<;>try exact no hc|refine zH ?_ ?_<;>(intro hg;rw[hg];try exact no hg)));all_goals try refine zO fun a w F M=>?_
   (all_goals((first|(refine svEnd F M ?_)|(refine svRet F M ?_));refine⟨?_,M.perms permsA⟩))
   rw[q2];simp[tupOf,he]
 ·rw[List.drop_of_length_le (by omega),List.drop_of_length_le (by omega)] at q2
  have q3:R=decide (x.pms.drop 0=y.pms.drop 0):=by rw[q2];simp
  (try refine zI zk20 F M ?_;clear F M a;try clear w);(repeat'(first|refine zV (h:=⟨_,by(first|(apply(rt_neqT (f:=asgL));(exact rfl);(exact rfl);(exact rfl);(exact inferInstance);(exact inferInstance))|(apply(rt_neqT (f:=pmL));(exact rfl);(exact rfl);(exact rfl);(exact inferInstance);(exact inferInstance))),?_⟩)|refine zA1 ?_;repeat intro(b:Nat)|refine zB ?_ ?_<;>intro hc<;>try exact no hc|refine zH ?_ ?_<;>(intro hg;rw[hg];try exact no hg)));all_goals try refine zO fun a w F M=>?_
  refine svLoop F M (0:Nat) (fun i=>[(6,.int .i64 i)]) (fun _=>[]) (fun i=>i≤x.pms.length∧R=decide (x.pms.drop i=y.pms.drop i)) (fun i=>x.pms.length - i) [] ⟨by omega,q3⟩ ?_
  (rintro k ⟨q1,q2⟩ a w F M;(try simp only[zc,zn] at F M q1 q2 ⊢))
  by_cases hlt:k<x.pms.length
  ·obtain ⟨u,hu⟩:∃ u,x.pms[k]? = some u:=⟨x.pms[k],by simp[hlt]⟩
   obtain ⟨v,hv⟩:∃ v,y.pms[k]? = some v:=⟨y.pms[k]'(by omega),by rw[List.getElem?_eq_getElem (by omega)]⟩
   rw[drop_cons hu,drop_cons hv] at q2
   by_cases he:u=v
   ·subst he
    (try refine zI zk20 F M ?_;clear F M a;try clear w);(repeat'(first|refine zV (h:=⟨_,by(first|(apply(rt_neqT (f:=asgL));(exact rfl);(exact rfl);(exact rfl);(exact inferInstance);(exact inferInstance))|(apply(rt_neqT (f:=pmL));(exact rfl);(exact rfl);(exact rfl);(exact inferInstance);(exact inferInstance))),?_⟩)|refine zA1 ?_;repeat intro(b:Nat)|refine zB ?_ ?_<;>intro hc<;>try exact no hc|refine zH ?_ ?_<;>(intro hg;rw[hg];try exact no hg)));all_goals try refine zO fun a w F M=>?_
    (refine sv_again F M (k+1) kpA permsA ?_ ?_)
    ·exact⟨by omega,by rw[q2];simp⟩
    ·omega
   ·(try refine zI zk20 F M ?_;clear F M a;try clear w);(repeat'(first|refine zV (h:=⟨_,by(first|(apply(rt_neqT (f:=asgL));(exact rfl);(exact rfl);(exact rfl);(exact inferInstance);(exact inferInstance))|(apply(rt_neqT (f:=pmL));(exact rfl);(exact rfl);(exact rfl);(exact inferInstance);(exact inferInstance))),?_⟩)|refine zA1 ?_;repeat intro(b:Nat)|refine zB ?_ ?_<;>intro hc<;>try exact no hc|refine zH ?_ ?_<;>(intro hg;rw[hg];try exact no hg)));all_goals try refine zO fun a w F M=>?_
    (all_goals((first|(refine svEnd F M ?_)|(refine svRet F M ?_));refine⟨?_,M.perms permsA⟩))
    rw[q2];simp[tupOf,he]
  ·(try refine zI zk20 F M ?_;clear F M a;try clear w);(repeat'(first|refine zV (h:=⟨_,by(first|(apply(rt_neqT (f:=asgL));(exact rfl);(exact rfl);(exact rfl);(exact inferInstance);(exact inferInstance))|(apply(rt_neqT (f:=pmL));(exact rfl);(exact rfl);(exact rfl);(exact inferInstance);(exact inferInstance))),?_⟩)|refine zA1 ?_;repeat intro(b:Nat)|refine zB ?_ ?_<;>intro hc<;>try exact no hc|refine zH ?_ ?_<;>(intro hg;rw[hg];try exact no hg)));all_goals try refine zO fun a w F M=>?_
   (all_goals((first|(refine svEnd F M ?_)|(refine svRet F M ?_));refine⟨?_,M.perms permsA⟩))
   rw[q2,List.drop_of_length_le (by omega),List.drop_of_length_le (by omega)];rfl
end
end
section
open Go.RowKit
theorem rsame_self {L:List Asn} {x:Rc} {sx px sy py:SlH} (hx:RcG L x sx px) (hy:RcG L x sy py):Reads 20 [rcV x sx px,rcV x sy py] (.bool true) L:=by
 have:=rsame_reads hx hy
 simpa using this
end
end Go.Proofs.YtjbfcacmdahnhaaGreat
