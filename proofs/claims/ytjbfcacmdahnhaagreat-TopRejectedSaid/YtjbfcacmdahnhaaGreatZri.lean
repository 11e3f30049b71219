import Derived.Test.YtjbfcacmdahnhaaGreatZrh
set_option linter.unusedVariables false
set_option linter.unusedSimpArgs false
set_option linter.unusedSectionVars false
set_option maxRecDepth 100000
set_option maxHeartbeats 8000000
namespace Go.Proofs.YtjbfcacmdahnhaaGreat
section
open Go.RowKit
theorem mods_get (f:Val→Val):∀ (l:List Nat) (V:List Val) (i:Nat),l.Nodup→(mods f V l)[i]? = if i∈l then (V[i]?).map f else V[i]?
 | [],V,i,_=>by simp[mods]
 | j::r,V,i,h=>by
  have hj:j∉r:=(List.nodup_cons.1 h).1
  have ih:=mods_get f r (V.modify j f) i (List.nodup_cons.1 h).2
  simp only[mods,List.foldl_cons] at ih ⊢
  rw[ih,List.getElem?_modify]
  by_cases h1:i∈r
  ·have:j≠i:=fun e=>hj (e ▸ h1)
   simp[h1,this]
  ·by_cases h2:j=i
   ·subst h2;simp[h1]
   ·simp[h1,h2,Ne.symm h2]
theorem mods_len (f:Val→Val):∀ (l:List Nat) (V:List Val),(mods f V l).length=V.length
 | [],V=>rfl
 | j::r,V=>by
  have:=mods_len f r (V.modify j f)
  simp only[mods,List.foldl_cons] at this ⊢
  rw[this,List.length_modify]
theorem mods_cons (f:Val→Val) (V:List Val) (i:Nat) (r:List Nat):mods f V (i::r)=mods f (V.modify i f) r:=rfl
theorem mods_append (f:Val→Val) (V:List Val) (a b:List Nat):mods f V (a++b)=mods f (mods f V a) b:=by simp[mods]
theorem bals_modify {f:Val→Val} (hf:∀ v,(f v).bal=v.bal):∀ (V:List Val) (i:Nat),bals (V.modify i f)=bals V
 | [],i=>by cases i<;>rfl
 | v::V,0=>by simp[bals,List.modify,hf]
 | v::V,i+1=>by
  have:=bals_modify hf V i
  simp only[bals] at this ⊢
  simp[List.modify_succ_cons,this]
theorem bals_mods {f:Val→Val} (hf:∀ v,(f v).bal=v.bal):∀ (l:List Nat) (V:List Val),bals (mods f V l)=bals V
 | [],V=>rfl
 | j::r,V=>by rw[mods_cons,bals_mods hf r,bals_modify hf]
theorem bals_map {f:Val→Val} (hf:∀ v,(f v).bal=v.bal) (V:List Val):bals (V.map f)=bals V:=by simp[bals,Function.comp_def,hf]
theorem sum_app (a b:List Int):(a++b).sum=a.sum+b.sum:=by simp
theorem sum_set:∀ (l:List Int) (i:Nat) (x y:Int),l[i]? = some x→(l.set i y).sum=l.sum - x+y
 | [],i,x,y,h=>by simp at h
 | a::l,0,x,y,h=>by
  simp at h;subst h
  simp only[List.set_cons_zero,List.sum_cons];omega
 | a::l,i+1,x,y,h=>by
  have:=sum_set l i x y (by simpa using h)
  simp only[List.set_cons_succ,List.sum_cons,this];omega
theorem bals_set (V:List Val) (i:Nat) (v:Val):bals (V.set i v)=(bals V).set i v.bal:=by simp[bals,List.map_set]
theorem bals_get {V:List Val} {i:Nat} {v:Val} (h:V[i]? = some v):(bals V)[i]? = some v.bal:=by simp[bals,h]
theorem sum_nonneg:∀ (l:List Int),(∀ x∈l,0≤x)→0≤l.sum
 | [],_=>by simp
 | a::l,h=>by
  have:=sum_nonneg l fun x hx=>h x (by simp[hx])
  have:=h a (by simp)
  simp only[List.sum_cons];omega
theorem sum_mem_le:∀ (l:List Int),(∀ x∈l,0≤x)→∀ x∈l,x≤l.sum
 | [],_,x,h=>by simp at h
 | a::l,h,x,hx=>by
  have h1:=sum_nonneg l fun x hx=>h x (by simp[hx])
  have h2:=h a (by simp)
  rcases List.mem_cons.1 hx with rfl|hx
  ·simp only[List.sum_cons];omega
  ·have:=sum_mem_le l (fun x hx=>h x (by simp[hx])) x hx
   simp only[List.sum_cons];omega
theorem modify_eq_set {V:List Val} {i:Nat} {v:Val} (f:Val→Val) (h:V[i]? = some v):V.modify i f=V.set i (f v):=by
 apply List.ext_getElem?
 intro j
 rw[List.getElem?_modify,List.getElem?_set]
 by_cases hij:i=j
 ·subst hij
  obtain ⟨hl,he⟩:=List.getElem?_eq_some_iff.1 h
  simp[hl,he]
 ·simp[hij]
theorem sum_sub:∀ (l:List Nat) (W:List Int),l.Nodup→(∀ x∈W,0≤x)→(l.map (wAt W)).sum≤W.sum
 | [],W,_,h=>by simpa using sum_nonneg W h
 | i::r,W,hn,h=>by
  have hi:i∉r:=(List.nodup_cons.1 hn).1
  have hr:=(List.nodup_cons.1 hn).2
  cases hW:W[i]? with
  | none =>
   have:=sum_sub r W hr h
   have h0:wAt W i=0:=by simp[wAt,List.getD_eq_getElem?_getD,hW]
   simp only[List.map_cons,List.sum_cons,h0];omega
  | some x =>
   have hx:0≤x:=h x (List.mem_of_getElem? hW)
   have h1:∀ y∈W.set i 0,0≤y:=fun y hy=>by
    rcases List.mem_or_eq_of_mem_set hy with hy|rfl
    ·exact h y hy
    ·omega
   have:=sum_sub r (W.set i 0) hr h1
   rw[sum_set W i x 0 hW] at this
   have e:r.map (wAt (W.set i 0))=r.map (wAt W):=by
    apply List.map_congr_left
    intro j hj
    have hij:i≠j:=fun e=>hi (e ▸ hj)
    simp[wAt,List.getD_eq_getElem?_getD,List.getElem?_set,hij]
   rw[e] at this
   have h0:wAt W i=x:=by simp[wAt,List.getD_eq_getElem?_getD,hW]
   simp only[List.map_cons,List.sum_cons,h0];omega
theorem penF_range {b n d:Int} (hb:0≤b) (hn:0≤n) (hnd:n≤d) (hd:1≤d):0≤penF b n d∧penF b n d≤b:=by
 unfold penF mulF
 rw[if_neg (by omega)]
 split
 ·constructor
  ·exact Int.ediv_nonneg (Int.mul_nonneg hb hn) (by omega)
  ·have h1:b*n≤b*d:=Int.mul_le_mul_of_nonneg_left hnd hb
   have h2:b*n / d≤b*d / d:=Int.ediv_le_ediv (by omega) h1
   rw[Int.mul_ediv_cancel b (by omega)] at h2
   exact h2
 ·omega
end
section
open Go.RowKit
structure CfOk (c:Cfg):Prop where
 ca:1≤c.capacity∧c.capacity≤4096
 qs:1≤c.queueSize∧c.queueSize≤4096
 md:1≤c.minDeposit∧c.minDeposit≤c.maxDeposit
 sc:c.maxDeposit≤c.supplyCap∧c.supplyCap≤1152921504606846976
 mb:1≤c.minBalance∧c.minBalance≤c.minDeposit
 xb:c.maxDeposit≤c.maxBalance∧c.maxBalance≤c.supplyCap
 mc:1≤c.minChurn∧c.minChurn≤1152921504606846976
 qu:1≤c.quotient
 fc:0≤c.forcedCap∧c.forcedCap≤1152921504606846976
 un:1≤c.unbonding∧c.unbonding≤1048576
 sd:c.unbonding<c.slashDelay∧c.slashDelay≤1048576
 rl:1≤c.ringLen∧c.ringLen≤4096
 el:1≤c.epochLen∧c.epochLen≤4096
 vi:1≤c.visits∧c.visits≤4096
 py:1≤c.payments∧c.payments≤4096
 pa:0≤c.partials∧c.partials<c.visits∧c.partials<c.payments
 me:0≤c.merges∧c.merges≤4096
 pn:0≤c.penNum∧c.penNum≤c.penDen
 pd:1≤c.penDen∧c.penDen≤4294967296
theorem cfOk_of {c:Cfg} (h:checkF c=0) (h1:0≤c.forcedCap) (h2:0≤c.penNum):CfOk c:=by
 have k:=checkF_zero h
 have k1:=k 1 (by omega) (by omega)
 have k2:=k 2 (by omega) (by omega)
 have k3:=k 3 (by omega) (by omega)
 have k4:=k 4 (by omega) (by omega)
 have k5:=k 5 (by omega) (by omega)
 have k6:=k 6 (by omega) (by omega)
 have k7:=k 7 (by omega) (by omega)
 have k8:=k 8 (by omega) (by omega)
 have k9:=k 9 (by omega) (by omega)
 have k10:=k 10 (by omega) (by omega)
 have k11:=k 11 (by omega) (by omega)
 have k12:=k 12 (by omega) (by omega)
 have k13:=k 13 (by omega) (by omega)
 have k14:=k 14 (by omega) (by omega)
 have k15:=k 15 (by omega) (by omega)
 have k16:=k 16 (by omega) (by omega)
 have k17:=k 17 (by omega) (by omega)
 have k18:=k 18 (by omega) (by omega)
 have k19:=k 19 (by omega) (by omega)
 have k20:=k 20 (by omega) (by omega)
 simp[fieldB,bt] at k1 k2 k3 k4 k5 k6 k7 k8 k9 k10 k11 k12 k13 k14 k15 k16 k17 k18 k19 k20
 constructor<;>omega
structure VOk (c:Cfg) (e:Int) (v:Val):Prop where
 b:0≤v.bal
 st:1≤v.st∧v.st≤7
 fin:v.st=6∨v.st=7→v.bal=0
 mb:v.st=1∨v.st=2→c.minBalance≤v.bal
 ex:v.ex = -1∨0≤v.ex∧v.ex≤e+1∧3≤v.st∧v.st≤6∧v.rq<v.ex∧v.ex+c.unbonding≤v.wd
 e3:v.st=3→v.ex = -1∨v.ex=e+1
 e4:v.st=4∨v.st=5∨v.st=6→0≤v.ex∧v.ex≤e
 w4:v.st=4→e<v.wd
 w5:v.st=5→v.wd≤e
 rq:-1≤v.rq∧v.rq≤e
 wd:-1≤v.wd∧v.wd≤e+2097152
 w1:v.st≤2∨v.st=7→v.wd = -1∧v.ex = -1∧v.rq = -1∧v.dl = -1
 sl:v.sl=true→3≤v.st∧v.st≤6∧v.dl = -1
 dl:-1≤v.dl∧v.dl≤1099511627776
def pend' (v:Val):Prop:=v.st=1
def wait' (v:Val):Prop:=v.st=3∧v.ex = -1
def leave' (v:Val):Prop:=v.st=3∧v.ex≠-1
def bond' (v:Val):Prop:=v.st=4∨v.st=3∧v.ex≠-1
structure Ix (V:List Val) (p:Val→Prop) (l:List Nat):Prop where
 nd:l.Nodup
 mem:∀ i,i∈l↔∃ v,V[i]? = some v∧p v
structure Inv (c:Cfg) (s:St):Prop where
 cap:(s.V.length:Int)≤c.capacity
 val:∀ (i:Nat) v,s.V[i]? = some v→VOk c (epo c s) v
 sum:(bals s.V).sum=s.dep - s.pd - s.bu
 sup:(bals s.V).sum≤c.supplyCap
 tot:0≤s.pd∧0≤s.bu∧s.dep≤18446744073709551615
 pe:Ix s.V pend' s.pe
 ex:Ix s.V wait' (s.fo++s.vo)
 lv:Ix s.V leave' s.lv
 bo:Ix s.V bond' (s.bo.map (·.2))
 bw:∀ x∈s.bo,epo c s<x.1∧∀ v,s.V[x.2]? = some v→x.1≤v.wd
 ql:(s.pe.length:Int)≤c.queueSize∧(s.fo.length:Int)≤c.queueSize∧(s.vo.length:Int)≤c.queueSize∧(s.me.length:Int)≤c.queueSize∧(s.pa.length:Int)≤c.queueSize
 me:∀ p∈s.me,p.1<s.V.length∧p.2<s.V.length∧p.1≠p.2
 pa:∀ p∈s.pa,p.1<s.V.length∧1≤p.2∧p.2≤18446744073709551615
 at':s.at'<s.V.length∨s.at'=0
 ca:0≤s.ca∧s.ca≤18446744073709551615
 bk:s.bk≤1000000000
theorem epo_range {c:Cfg} (hc:CfOk c) {s:St} (hb:s.bk≤1000000001):0≤epo c s∧epo c s≤1000000001:=by
 have:=hc.el
 have h1:(s.bk:Int) / c.epochLen≤s.bk:=by
  have:=Int.ediv_le_self (a:=(s.bk:Int)) c.epochLen (by omega)
  omega
 exact⟨Int.ediv_nonneg (by omega) (by omega),by unfold epo;omega⟩
theorem Inv.ini {c:Cfg} (hc:CfOk c):Inv c St.ini:=by
 have:=hc.ca;have:=hc.qs;have:=hc.sc;have:=hc.md
 refine⟨by simp[St.ini];omega,by simp[St.ini],by simp[St.ini,bals],by simp[St.ini,bals];omega,by simp[St.ini],⟨by simp[St.ini],by simp[St.ini]⟩,⟨by simp[St.ini],by simp[St.ini]⟩,⟨by simp[St.ini],by simp[St.ini]⟩,⟨by simp[St.ini],by simp[St.ini]⟩,by simp[St.ini],by simp[St.ini];omega,by simp[St.ini],by simp[St.ini],by simp[St.ini],by simp[St.ini],by simp[St.ini]⟩
theorem Inv.bal0 {c:Cfg} {s:St} (h:Inv c s):∀ x∈bals s.V,0≤x:=fun x hx=>by
 obtain ⟨v,hv,rfl⟩:=List.mem_map.1 hx
 obtain ⟨i,hi,he⟩:=List.getElem_of_mem hv
 exact(h.val i v (by rw[List.getElem?_eq_getElem hi,he])).b
theorem Ix.set_same {V:List Val} {p:Val→Prop} {l:List Nat} (h:Ix V p l) {i:Nat} {v v':Val} (hv:V[i]? = some v) (hp:p v'↔p v):Ix (V.set i v') p l:=by
 obtain ⟨hl,he⟩:=List.getElem?_eq_some_iff.1 hv
 refine⟨h.nd,fun j=>?_⟩
 rw[h.mem,List.getElem?_set]
 by_cases hij:i=j
 ·subst hij
  rw[if_pos rfl,if_pos hl,hv]
  constructor
  ·rintro⟨u,hu,hpu⟩
   cases hu;exact⟨_,rfl,hp.2 hpu⟩
  ·rintro⟨u,hu,hpu⟩
   cases hu;exact⟨_,rfl,hp.1 hpu⟩
 ·simp[hij]
theorem Ix.set_add {V:List Val} {p:Val→Prop} {l l':List Nat} (h:Ix V p l) {i:Nat} {v v':Val} (hv:V[i]? = some v) (hp:¬p v) (hp':p v') (hl:l'.Perm (i::l)):Ix (V.set i v') p l':=by
 obtain ⟨hlt,he⟩:=List.getElem?_eq_some_iff.1 hv
 have hi:i∉l:=fun hm=>by
  obtain ⟨u,hu,hpu⟩:=(h.mem i).1 hm
  rw[hv] at hu;cases hu;exact hp hpu
 refine⟨hl.nodup_iff.2 (List.nodup_cons.2 ⟨hi,h.nd⟩),fun j=>?_⟩
 rw[hl.mem_iff,List.mem_cons,h.mem,List.getElem?_set]
 by_cases hij:i=j
 ·subst hij;simp[hlt,hp']
 ·simp[hij,Ne.symm hij]
theorem Ix.app_same {V:List Val} {p:Val→Prop} {l:List Nat} (h:Ix V p l) {v:Val} (hp:¬p v):Ix (V++[v]) p l:=by
 refine⟨h.nd,fun j=>?_⟩
 rw[h.mem]
 constructor
 ·rintro⟨u,hu,hpu⟩
  have:=(List.getElem?_eq_some_iff.1 hu).1
  exact⟨u,by rw[List.getElem?_append_left this];exact hu,hpu⟩
 ·rintro⟨u,hu,hpu⟩
  by_cases hj:j<V.length
  ·exact⟨u,by rw[List.getElem?_append_left hj] at hu;exact hu,hpu⟩
  ·rw[List.getElem?_append_right (by omega)] at hu
   have:u=v:=by
    cases hk:j - V.length with
    | zero=>rw[hk] at hu;simpa using hu.symm
    | succ n=>rw[hk] at hu;simp at hu
   subst this;exact absurd hpu hp
theorem Ix.app_add {V:List Val} {p:Val→Prop} {l:List Nat} (h:Ix V p l) {v:Val} (hp:p v):Ix (V++[v]) p (l++[V.length]):=by
 have hV:∀ j∈l,j<V.length:=fun j hj=>by
  obtain ⟨u,hu,_⟩:=(h.mem j).1 hj
  exact(List.getElem?_eq_some_iff.1 hu).1
 refine⟨?_,fun j=>?_⟩
 ·rw[List.nodup_append]
  refine⟨h.nd,by simp,fun a ha b hb=>?_⟩
  have:=hV a ha
  simp at hb;omega
 ·rw[List.mem_append,h.mem,List.mem_singleton]
  constructor
  ·rintro(⟨u,hu,hpu⟩|rfl)
   ·have:=(List.getElem?_eq_some_iff.1 hu).1
    exact⟨u,by rw[List.getElem?_append_left this];exact hu,hpu⟩
   ·exact⟨v,by simp,hp⟩
  ·rintro⟨u,hu,hpu⟩
   by_cases hj:j<V.length
   ·exact .inl ⟨u,by rw[List.getElem?_append_left hj] at hu;exact hu,hpu⟩
   ·have:=(List.getElem?_eq_some_iff.1 hu).1
    simp at this
    exact .inr (by omega)
theorem Ix.len {V:List Val} {p:Val→Prop} {l:List Nat} (h:Ix V p l):l.length≤V.length:=by
 have hs:l ⊆ List.range V.length:=fun j hj=>by
  obtain ⟨u,hu,_⟩:=(h.mem j).1 hj
  exact List.mem_range.2 (List.getElem?_eq_some_iff.1 hu).1
 have:=h.nd.length_le_of_subset hs
 simpa using this
theorem getE_app {V:List Val} {v u:Val} {j:Nat} (h:(V++[v])[j]? = some u):V[j]? = some u∨j=V.length∧u=v:=by
 by_cases hj:j<V.length
 ·rw[List.getElem?_append_left hj] at h;exact .inl h
 ·have:=(List.getElem?_eq_some_iff.1 h).1
  simp at this
  obtain rfl:j=V.length:=by omega
  simp at h;exact .inr ⟨rfl,h.symm⟩
theorem getE_set {V:List Val} {v u:Val} {i j:Nat} (h:(V.set i v)[j]? = some u):(i=j∧u=v)∨(i≠j∧V[j]? = some u):=by
 rw[List.getElem?_set] at h
 by_cases hij:i=j
 ·rw[if_pos hij] at h
  split at h
  ·exact .inl ⟨hij,(Option.some.inj h).symm⟩
  ·cases h
 ·rw[if_neg hij] at h;exact .inr ⟨hij,h⟩
end
section
open Go.RowKit
theorem opDep_inv {c:Cfg} (hc:CfOk c) {s:St} (h:Inv c s) (x:Int):Inv c (opDep c s x).s:=by
 unfold opDep no'
 split
 ·exact h
 split
 ·exact h
 split
 ·exact h
 split
 ·exact h
 split
 ·exact h
 rename_i h1 h2 h3 h4 h5
 have:=hc.md;have:=hc.mb;have:=hc.sc;have:=hc.un
 have he:=epo_range hc (s:=s) (by have:=h.bk;omega)
 have hsum:(bals (s.V++[newV x])).sum=(bals s.V).sum+x:=by simp[bals,newV]
 refine⟨?_,fun i v hv=>?_,?_,?_,?_,h.pe.app_add rfl,h.ex.app_same (by simp[wait',newV]),h.lv.app_same (by simp[leave',newV]),h.bo.app_same (by simp[bond',newV]),fun y hy=>⟨(h.bw y hy).1,fun v hv=>?_⟩,?_,fun p hp=>?_,fun p hp=>?_,?_,h.ca,h.bk⟩
 ·simp;omega
 ·rcases getE_app hv with hv|⟨_,rfl⟩
  ·exact h.val i v hv
  ·constructor<;>simp[newV]<;>first|omega|(have e:epo c {s with V:=s.V++[newV x],pe:=s.pe++[s.V.length],dep:=s.dep+x} = epo c s:=rfl;simp only[newV] at e;rw[e];omega)
 ·simp only[hsum,h.sum];omega
 ·simp only[hsum,h.sum];omega
 ·have:=h.tot;simp only;omega
 ·rcases getE_app hv with hv|⟨h6,rfl⟩
  ·exact(h.bw y hy).2 v hv
  ·exfalso
   obtain ⟨u,hu,_⟩:=(h.bo.mem y.2).1 (List.mem_map.2 ⟨y,hy,rfl⟩)
   have:=(List.getElem?_eq_some_iff.1 hu).1
   omega
 ·have:=h.ql;simp;omega
 ·have:=h.me p hp;simp;omega
 ·have:=h.pa p hp;simp;omega
 ·have:=h.at';simp;omega
theorem perm_end {l:List Nat} {i:Nat}:(l++[i]).Perm (i::l):=by
 have h:=List.perm_append_comm (l₁:=l) (l₂:=[i])
 exact h
theorem perm_mid {a b:List Nat} {i:Nat}:(a++[i]++b).Perm (i::(a++b)):=by
 have h:=List.perm_middle (a:=i) (l₁:=a) (l₂:=b)
 rw[List.append_assoc]
 exact h
theorem payD_range {c:Cfg} (hc:CfOk c) {e a b t:Int} (h:payD c e a b=some t) (h0:0≤e) (ha:0≤a) (hb:0≤b):0≤t∧t≤1099511627776:=by
 have:=hc.un;have:=hc.el;have:=hc.ca;have:=hc.pa
 unfold payD at h
 split at h
 ·cases h
 split at h
 ·cases h
 simp only at h
 split at h
 ·cases h
 have hw:0≤swpB c:=Int.ediv_nonneg (Int.ediv_nonneg (by omega) (by omega)) (by omega)
 have:=Option.some.inj h
 have h1:=Int.le_max_right (ceilD (a+b+c.forcedCap) c.minChurn) 1
 omega
theorem opLeave_inv {c:Cfg} (hc:CfOk c) {s:St} (h:Inv c s) (cl ix:Int):Inv c (opLeave c s cl ix).s:=by
 unfold opLeave no'
 split
 ·exact h
 split
 ·exact h
 rename_i h0 v hv
 have he:=epo_range hc (s:=s) (by have:=h.bk;omega)
 rw[accR_eq v he.1 (by omega)]
 have hvo:=h.val _ v hv
 by_cases h3:v.st=2
 rotate_left
 ·simp[h3];exact h
 simp only[h3,if_true,ne_eq,not_true_eq_false,if_false]
 by_cases h2:c.queueSize≤(((if cl=0 then s.fo else s.vo).length:Nat):Int)
 ·rw[if_pos h2];exact h
 rw[if_neg h2]
 cases ht:payD c (epo c s) (aheadW s cl) v.bal with
 | none=>exact h
 | some t =>
 simp only
 have hah:0≤aheadW s cl:=sum_nonneg _ fun x hx=>by
  obtain ⟨i,_,rfl⟩:=List.mem_map.1 hx
  unfold wAt
  rw[List.getD_eq_getElem?_getD]
  cases hb:(bals s.V)[i]? with
  | none=>simp
  | some y=>simpa using h.bal0 y (List.mem_of_getElem? hb)
 have htr:=payD_range hc ht he.1 hah hvo.b
 obtain ⟨v',hv'⟩:∃ v':Val,v'={v with rq:=epo c s,st:=3,dl:=t}:=⟨_,rfl⟩
 have hw:=hvo.w1 (by omega)
 have hsl:v.sl=false:=by
  cases hs:v.sl with
  | false=>rfl
  | true=>have:=(hvo.sl hs).1;omega
 have hvo':VOk c (epo c s) v':=by
  subst hv'
  constructor<;>simp[hsl]<;>first|exact hvo.b|omega|(have:=hw;omega)
 have hbal:v'.bal=v.bal:=by rw[hv']
 have hsum:(bals (s.V.set ix.toNat v')).sum=(bals s.V).sum:=by
  rw[bals_set,sum_set _ _ _ _ (bals_get hv),hbal];omega
 have hval:∀ (i:Nat) u,(s.V.set ix.toNat v')[i]? = some u→VOk c (epo c s) u:=fun i u hu=>by
  rcases getE_set hu with⟨_,rfl⟩|⟨_,hu⟩
  ·exact hvo'
  ·exact h.val i u hu
 have hbw:∀ y∈s.bo,epo c s<y.1∧∀ u,(s.V.set ix.toNat v')[y.2]? = some u→y.1≤u.wd:=fun y hy=>⟨(h.bw y hy).1,fun u hu=>by
  rcases getE_set hu with⟨hi,rfl⟩|⟨_,hu⟩
  ·have:=(h.bw y hy).2 v (hi ▸ hv)
   rw[hv'];exact this
  ·exact(h.bw y hy).2 u hu⟩
 have p1:Ix (s.V.set ix.toNat v') pend' s.pe:=h.pe.set_same hv (by rw[hv'];simp[pend',h3])
 have p3:Ix (s.V.set ix.toNat v') leave' s.lv:=h.lv.set_same hv (by rw[hv'];simp[leave',h3,hw])
 have p4:Ix (s.V.set ix.toNat v') bond' (s.bo.map (·.2)):=h.bo.set_same hv (by rw[hv'];simp[bond',h3,hw])
 have hme:∀ p∈s.me,p.1<(s.V.set ix.toNat v').length∧p.2<(s.V.set ix.toNat v').length∧p.1≠p.2:=by simpa using h.me
 have hpa:∀ p∈s.pa,p.1<(s.V.set ix.toNat v').length∧1≤p.2∧p.2≤18446744073709551615:=by simpa using h.pa
 have hn:¬wait' v:=by simp[wait',h3]
 have hy:wait' v':=by rw[hv'];simp[wait',hw]
 by_cases hcl:cl=0
 ·rw[if_pos hcl] at h2 ⊢
  rw[← hv']
  refine⟨by simpa using h.cap,hval,by simp only[hsum,h.sum],by simp only[hsum];exact h.sup,h.tot,p1,h.ex.set_add hv hn hy perm_mid,p3,p4,hbw,?_,hme,hpa,by simpa using h.at',h.ca,h.bk⟩
  have:=h.ql;simp;omega
 ·rw[if_neg hcl] at h2 ⊢
  rw[← hv']
  refine⟨by simpa using h.cap,hval,by simp only[hsum,h.sum],by simp only[hsum];exact h.sup,h.tot,p1,h.ex.set_add hv hn hy ?_,p3,p4,hbw,?_,hme,hpa,by simpa using h.at',h.ca,h.bk⟩
  ·show(s.fo++(s.vo++[ix.toNat])).Perm _
   rw[← List.append_assoc];exact perm_end
  ·have:=h.ql;simp;omega
theorem opSlash_inv {c:Cfg} (hc:CfOk c) {s:St} (h:Inv c s) (ix:Int):Inv c (opSlash c s ix).s:=by
 unfold opSlash no'
 split
 ·exact h
 split
 ·exact h
 rename_i h0 v hv
 have he:=epo_range hc (s:=s) (by have:=h.bk;omega)
 have hsd:=hc.sd;have hun:=hc.un
 have hvo:=h.val _ v hv
 have hst:=hvo.st
 have hpn:=hc.pn;have hpd:=hc.pd
 have hpf:=penF_range hvo.b hpn.1 hpn.2 hpd.1
 rw[slaR_eq v he.1 (by omega) (by omega)]
 by_cases hs:v.sl=true
 ·simp[hs];exact h
 by_cases h4:v.st=2∨v.st=3∨v.st=4∨v.st=5
 rotate_left
 ·simp[hs,h4];exact h
 simp only[hs,h4,if_true,if_false,Bool.false_eq_true]
 simp only[ne_eq,not_true_eq_false,if_false]
 split
 ·exact h
 rename_i h5
 obtain ⟨v',hv'⟩:∃ v':Val,v'=⟨v.bal - penF v.bal c.penNum c.penDen,slaS v.st,true,if v.st=2 then epo c s else v.rq,v.ex,max v.wd (epo c s+c.slashDelay),-1⟩:=⟨_,rfl⟩
 have hwv:max v.wd (epo c s+c.slashDelay)=v'.wd:=by rw[hv']
 rw[← hv',hwv]
 have hrq:=hvo.rq;have hwd:=hvo.wd
 have hmx:v.wd≤max v.wd (epo c s+c.slashDelay)∧epo c s+c.slashDelay≤max v.wd (epo c s+c.slashDelay)∧(max v.wd (epo c s+c.slashDelay)=v.wd∨max v.wd (epo c s+c.slashDelay)=epo c s+c.slashDelay):=by omega
 have hss:slaS v.st=3∧(v.st=2∨v.st=3)∨slaS v.st=4∧(v.st=4∨v.st=5):=by unfold slaS;split<;>omega
 have hw1:=hvo.w1
 have hex:=hvo.ex
 have h3:=hvo.e3
 have he4:=hvo.e4
 have hrx:(if v.st=2 then epo c s else v.rq)=epo c s∧v.st=2∨(if v.st=2 then epo c s else v.rq)=v.rq∧v.st≠2:=by split<;>omega
 have hvo':VOk c (epo c s) v':=by
  subst hv'
  constructor<;>simp only<;>first|omega|(intro;omega)|(intro _;exact⟨by omega,by omega,trivial⟩)
 have hbal:v'.bal=v.bal - penF v.bal c.penNum c.penDen:=by rw[hv']
 have hsum:(bals (s.V.set ix.toNat v')).sum=(bals s.V).sum - penF v.bal c.penNum c.penDen:=by
  rw[bals_set,sum_set _ _ _ _ (bals_get hv),hbal];omega
 have hval:∀ (i:Nat) u,(s.V.set ix.toNat v')[i]? = some u→VOk c (epo c s) u:=fun i u hu=>by
  rcases getE_set hu with⟨_,rfl⟩|⟨_,hu⟩
  ·exact hvo'
  ·exact h.val i u hu
 have hwd':v.wd≤v'.wd:=by rw[hv'];exact hmx.1
 have hst':v'.st=slaS v.st:=by rw[hv']
 have hex':v'.ex=v.ex:=by rw[hv']
 have p1:Ix (s.V.set ix.toNat v') pend' s.pe:=h.pe.set_same hv (by unfold pend';rw[hst'];omega)
 have p3:Ix (s.V.set ix.toNat v') leave' s.lv:=h.lv.set_same hv (by unfold leave';rw[hst',hex'];omega)
 have hme:∀ p∈s.me,p.1<(s.V.set ix.toNat v').length∧p.2<(s.V.set ix.toNat v').length∧p.1≠p.2:=by simpa using h.me
 have hpa:∀ p∈s.pa,p.1<(s.V.set ix.toNat v').length∧1≤p.2∧p.2≤18446744073709551615:=by simpa using h.pa
 have htot:=h.tot
 refine⟨by simpa using h.cap,hval,by simp only[hsum,h.sum];omega,by simp only[hsum];have:=h.sup;omega,by simp only;omega,p1,?_,p3,?_,?_,?_,hme,hpa,by simpa using h.at',h.ca,h.bk⟩
 ·by_cases h2:v.st=2
  ·simp only[h2,if_true]
   exact h.ex.set_add hv (by unfold wait';omega) (by unfold wait';rw[hst',hex'];omega) perm_mid
  ·simp only[h2,if_false]
   exact h.ex.set_same hv (by unfold wait';rw[hst',hex'];omega)
 ·by_cases h2:v.st=5
  ·simp only[h2,if_true,List.map_append,List.map_cons,List.map_nil]
   exact h.bo.set_add hv (by unfold bond';omega) (by unfold bond';rw[hst',hex'];omega) perm_end
  ·simp only[h2,if_false]
   exact h.bo.set_same hv (by unfold bond';rw[hst',hex'];omega)
 ·show ∀ y∈(if v.st=5 then s.bo++[(v'.wd,ix.toNat)] else s.bo),epo c s<y.1∧∀ u,(s.V.set ix.toNat v')[y.2]? = some u→y.1≤u.wd
  have key:∀ y∈s.bo,epo c s<y.1∧∀ u,(s.V.set ix.toNat v')[y.2]? = some u→y.1≤u.wd:=fun y hy=>⟨(h.bw y hy).1,fun u hu=>by
   rcases getE_set hu with⟨hi,rfl⟩|⟨_,hu⟩
   ·have:=(h.bw y hy).2 v (hi ▸ hv)
    omega
   ·exact(h.bw y hy).2 u hu⟩
  intro y hy
  by_cases h2:v.st=5
  ·simp only[h2,if_true,List.mem_append,List.mem_singleton] at hy
   rcases hy with hy|rfl
   ·exact key y hy
   ·refine⟨?_,fun u hu=>?_⟩
    ·show epo c s<v'.wd
     rw[hv'];simp only;omega
    ·rcases getE_set hu with⟨_,rfl⟩|⟨hi,_⟩
     ·exact Int.le_refl _
     ·exact absurd rfl hi
  ·simp only[h2,if_false] at hy
   exact key y hy
 ·have:=h.ql
  simp only
  split
  ·rename_i h6
   simp;omega
  ·exact this
theorem merR_zero {c:Cfg} {V:List Val} {i j:Int} (h:merR c V i j=0):∃ a b,0≤i∧0≤j∧i≠j∧V[i.toNat]? = some a∧V[j.toNat]? = some b∧a.st=2∧b.st=2∧a.sl=false∧b.sl=false∧a.bal+b.bal≤c.maxBalance:=by
 unfold merR at h
 split at h
 ·cases h
 rename_i h0
 split at h
 ·rename_i a b ha hb
  split at h
  ·cases h
  rename_i hij
  unfold merC at h
  split at h
  ·cases h
  split at h
  ·cases h
  split at h
  ·cases h
  rename_i h1 h2 h3
  exact⟨a,b,by omega,by omega,hij,ha,hb,by omega,by omega,by cases hs:a.sl<;>simp_all,by cases hs:b.sl<;>simp_all,by omega⟩
 ·cases h
theorem opMerge_inv {c:Cfg} (hc:CfOk c) {s:St} (h:Inv c s) (i j:Int):Inv c (opMerge c s i j).s:=by
 unfold opMerge no'
 split
 ·exact h
 split
 ·exact h
 rename_i h0 h1
 simp only[ne_eq,Decidable.not_not] at h0
 obtain ⟨a,b,hi,hj,hij,ha,hb,_⟩:=merR_zero h0
 have hla:=(List.getElem?_eq_some_iff.1 ha).1
 have hlb:=(List.getElem?_eq_some_iff.1 hb).1
 refine⟨h.cap,h.val,h.sum,h.sup,h.tot,h.pe,h.ex,h.lv,h.bo,h.bw,?_,?_,h.pa,h.at',h.ca,h.bk⟩
 ·have:=h.ql;simp;omega
 ·intro p hp
  simp only[List.mem_append,List.mem_singleton] at hp
  rcases hp with hp|rfl
  ·exact h.me p hp
  ·exact⟨hla,hlb,by simp only;omega⟩
theorem opPart_inv {c:Cfg} (hc:CfOk c) {s:St} (h:Inv c s) (i x:Int) (hx:U64 x):Inv c (opPart c s i x).s:=by
 unfold opPart no'
 split
 ·exact h
 split
 ·exact h
 rename_i h0 h1
 simp only[ne_eq,Decidable.not_not] at h0
 unfold parC at h0
 split at h0
 ·cases h0
 split at h0
 ·cases h0
 rename_i hi v hv
 split at h0
 ·cases h0
 rename_i hx0
 have hl:=(List.getElem?_eq_some_iff.1 hv).1
 have:=hx.1;have:=hx.2
 refine⟨h.cap,h.val,h.sum,h.sup,h.tot,h.pe,h.ex,h.lv,h.bo,h.bw,?_,h.me,?_,h.at',h.ca,h.bk⟩
 ·have:=h.ql;simp;omega
 ·intro p hp
  simp only[List.mem_append,List.mem_singleton] at hp
  rcases hp with hp|rfl
  ·exact h.pa p hp
  ·exact⟨hl,by simp only;omega,by simp only;omega⟩
theorem opM_inv {c:Cfg} (hc:CfOk c) {s:St} (h:Inv c s) (o:Opn) (ho:U64 o.am):Inv c (opM c s o).s:=by
 unfold opM
 split
 ·exact opDep_inv hc h _
 split
 ·exact opLeave_inv hc h _ _
 split
 ·exact opLeave_inv hc h _ _
 split
 ·exact opSlash_inv hc h _
 split
 ·exact opMerge_inv hc h _ _
 split
 ·exact opPart_inv hc h _ _ ho
 ·exact h
end
section
open Go.RowKit
def gV (e:Int) (v:Val):Val:=ripeV e (leaveV e v)
theorem gV_bal (e:Int) (v:Val):(gV e v).bal=v.bal:=by unfold gV ripeV leaveV;split<;>split<;>rfl
theorem gV_wd (e:Int) (v:Val):(gV e v).wd=v.wd∧(gV e v).ex=v.ex∧(gV e v).rq=v.rq∧(gV e v).dl=v.dl∧(gV e v).sl=v.sl:=by unfold gV ripeV leaveV;split<;>split<;>simp
theorem leaveV_wd (e:Int) (v:Val):(leaveV e v).wd=v.wd:=by unfold leaveV;split<;>rfl
theorem gV_st {c:Cfg} (hc:CfOk c) {e:Int} (he:1≤e) {v:Val} (h:VOk c (e - 1) v):(gV e v).st=(if v.st=3∧v.ex=e then 4 else if v.st=4∧v.wd≤e then 5 else v.st):=by
 have hun:=hc.un
 have hx:=h.ex
 unfold gV ripeV leaveV
 by_cases h1:v.st=3∧v.ex=e
 ·obtain ⟨q1,q2⟩:=h1
  simp only[q1,q2,and_self,if_true]
  rw[if_neg (by omega)]
 ·simp only[h1,if_false]
  split<;>rfl
theorem gV_cases {c:Cfg} (hc:CfOk c) {e:Int} (he:1≤e) {v:Val} (h:VOk c (e - 1) v):(gV e v).st=4∧v.st=3∧v.ex=e∨(gV e v).st=5∧v.st=4∧v.wd≤e∨(gV e v).st=v.st∧¬(v.st=3∧v.ex=e)∧¬(v.st=4∧v.wd≤e):=by
 rw[gV_st hc he h];split
 ·rename_i h;exact .inl ⟨rfl,h⟩
 ·split
  ·rename_i h;exact .inr (.inl ⟨rfl,h⟩)
  ·rename_i h h';exact .inr (.inr ⟨rfl,h,h'⟩)
theorem gV_ok {c:Cfg} (hc:CfOk c) {e:Int} (he:1≤e) {v:Val} (h:VOk c (e - 1) v):VOk c e (gV e v):=by
 have hst':=gV_cases hc he h
 obtain ⟨h1,h2,h3,h4,h5⟩:=gV_wd e v
 have hb:=gV_bal e v
 have hun:=hc.un
 have a1:=h.b;have a2:=h.st;have a3:=h.fin;have a4:=h.mb;have a5:=h.ex;have a6:=h.e3;have a7:=h.e4;have a8:=h.w4;have a9:=h.w5;have a10:=h.rq;have a11:=h.wd;have a12:=h.w1;have a13:=h.sl;have a14:=h.dl
 constructor<;>(try simp only[h1,h2,h3,h4,h5,hb])<;>first|omega|(intro;omega)|(intro hs;have:=a13 hs;omega)
structure Vs (c:Cfg) (e:Int) (V:List Val) (pe ex lv bo:List Nat) (m:Nat) (S:Int):Prop where
 len:V.length=m
 val:∀ (i:Nat) v,V[i]? = some v→VOk c e v
 sum:(bals V).sum=S
 pe:Ix V pend' pe
 ex:Ix V wait' ex
 lv:Ix V leave' lv
 bo:Ix V bond' bo
theorem Ix.map {V:List Val} {p q:Val→Prop} {l:List Nat} (h:Ix V p l) (f:Val→Val) (hf:∀ (i:Nat) v,V[i]? = some v→(q (f v)↔p v)):Ix (V.map f) q l:=by
 refine⟨h.nd,fun i=>?_⟩
 rw[h.mem,List.getElem?_map]
 constructor
 ·rintro⟨v,hv,hp⟩;exact⟨f v,by simp[hv],(hf i v hv).2 hp⟩
 ·rintro⟨u,hu,hq⟩
  obtain ⟨v,hv,rfl⟩:=Option.map_eq_some_iff.1 hu
  exact⟨v,hv,(hf i v hv).1 hq⟩
theorem Ix.mods_same {V:List Val} {p:Val→Prop} {l:List Nat} (h:Ix V p l) (f:Val→Val) {r:List Nat} (hr:r.Nodup) (hf:∀ i∈r,∀ v,V[i]? = some v→(p (f v)↔p v)):Ix (mods f V r) p l:=by
 refine⟨h.nd,fun i=>?_⟩
 rw[h.mem,mods_get f r V i hr]
 by_cases hi:i∈r
 ·rw[if_pos hi]
  constructor
  ·rintro⟨v,hv,hp⟩;exact⟨f v,by simp[hv],(hf i hi v hv).2 hp⟩
  ·rintro⟨u,hu,hq⟩
   obtain ⟨v,hv,rfl⟩:=Option.map_eq_some_iff.1 hu
   exact⟨v,hv,(hf i hi v hv).1 hq⟩
 ·rw[if_neg hi]
theorem Ix.mods_drop {V:List Val} {p:Val→Prop} {l:List Nat} (h:Ix V p l) (f:Val→Val) {k:Nat} (hf:∀ i∈l.take k,∀ v,V[i]? = some v→¬p (f v)):Ix (mods f V (l.take k)) p (l.drop k):=by
 have hn:=h.nd
 have hd:∀ i,i∈l.take k→i∉l.drop k:=fun i h1 h2=>by
  have:(l.take k++l.drop k).Nodup:=by rw[List.take_append_drop];exact hn
  exact(List.nodup_append.1 this).2.2 i h1 i h2 rfl
 refine⟨hn.sublist (List.drop_sublist _ _),fun i=>?_⟩
 rw[mods_get f _ V i (hn.sublist (List.take_sublist _ _))]
 by_cases hi:i∈l.take k
 ·rw[if_pos hi]
  constructor
  ·intro h2;exact absurd h2 (hd i hi)
  ·rintro⟨u,hu,hq⟩
   obtain ⟨v,hv,rfl⟩:=Option.map_eq_some_iff.1 hu
   exact absurd hq (hf i hi v hv)
 ·rw[if_neg hi,← h.mem]
  constructor
  ·exact fun h=>List.mem_of_mem_drop h
  ·intro h2
   rw[← List.take_append_drop k l] at h2
   rcases List.mem_append.1 h2 with h2|h2
   ·exact absurd h2 hi
   ·exact h2
theorem Ix.mods_add {V:List Val} {p:Val→Prop} {l:List Nat} (h:Ix V p l) (f:Val→Val) {r:List Nat} (hr:r.Nodup) (hv:∀ i∈r,∃ v,V[i]? = some v∧¬p v∧p (f v)):Ix (mods f V r) p (l++r):=by
 have hd:∀ i,i∈l→i∉r:=fun i h1 h2=>by
  obtain ⟨v,h3,h4,_⟩:=hv i h2
  obtain ⟨u,h5,h6⟩:=(h.mem i).1 h1
  rw[h3] at h5;cases h5;exact h4 h6
 refine⟨List.nodup_append.2 ⟨h.nd,hr,fun a ha b hb e=>hd a ha (e ▸ hb)⟩,fun i=>?_⟩
 rw[mods_get f r V i hr,List.mem_append]
 by_cases hi:i∈r
 ·rw[if_pos hi]
  obtain ⟨v,h3,h4,h5⟩:=hv i hi
  exact⟨fun _=>⟨f v,by simp[h3],h5⟩,fun _=>.inr hi⟩
 ·rw[if_neg hi,← h.mem]
  exact⟨fun h=>h.resolve_right hi,.inl⟩
theorem Vs.merV {c:Cfg} (hc:CfOk c) {e:Int} {V:List Val} {pe ex lv bo:List Nat} {m:Nat} {S:Int} (h:Vs c e V pe ex lv bo m S) (p:Nat × Nat):Vs c e (merV c V p) pe ex lv bo m S∧∀ i:Nat,((merV c V p)[i]?).map (·.wd)=(V[i]?).map (·.wd):=by
 unfold Go.Proofs.YtjbfcacmdahnhaaGreat.merV
 split
 rotate_left
 ·exact⟨h,fun _=>rfl⟩
 rename_i h0
 obtain ⟨a,b,_,_,hij,ha,hb,sa,sb,la,lb,hm⟩:=merR_zero h0
 simp only[Int.toNat_natCast] at ha hb
 have hij:p.1≠p.2:=fun e=>hij (by rw[e])
 have hva:=h.val _ _ ha
 have hvb:=h.val _ _ hb
 obtain ⟨a',ha'⟩:∃ a':Val,a'={a with bal:=0,st:=7}:=⟨_,rfl⟩
 obtain ⟨b',hb'⟩:∃ b':Val,b'={b with bal:=b.bal+a.bal}:=⟨_,rfl⟩
 have e1:V.getD p.1 Val.zero=a:=by rw[List.getD_eq_getElem?_getD,ha];rfl
 have hb1:(V.set p.1 a')[p.2]? = some b:=by rw[List.getElem?_set_ne hij];exact hb
 have e2:(V.modify p.1 fun a=>{a with bal:=0,st:=7}).modify p.2 (fun b=>{b with bal:=b.bal+(V.getD p.1 Val.zero).bal})=(V.set p.1 a').set p.2 b':=by
  rw[e1,modify_eq_set (v:=a) _ ha,← ha',modify_eq_set (v:=b) _ hb1,← hb']
 rw[e2]
 have w1:=hva.w1 (by omega)
 have w2:=hvb.w1 (by omega)
 have oa:VOk c e a':=by
  subst ha'
  have a5:=hva.ex;have a10:=hva.rq;have a11:=hva.wd;have a14:=hva.dl
  constructor<;>(try simp only[la])<;>first|omega|(intros;trivial)|(intro;omega)|(intro hs;cases hs)
 have ob:VOk c e b':=by
  subst hb'
  have a1:=hva.b;have b1:=hvb.b;have b2:=hvb.st;have b4:=hvb.mb;have a5:=hvb.ex;have a6:=hvb.e3;have a10:=hvb.rq;have a11:=hvb.wd;have a14:=hvb.dl
  constructor<;>(try simp only[lb])<;>first|omega|(intros;trivial)|(intro;omega)|(intro hs;cases hs)
 have hs1:∀ {p':Val→Prop} {l:List Nat},Ix V p' l→(∀ v,p' v→v.st≠2∧v.st≠7)→Ix ((V.set p.1 a').set p.2 b') p' l:=fun hx hp=>by
  refine(hx.set_same ha ⟨fun q=>?_,fun q=>?_⟩).set_same hb1 ⟨fun q=>?_,fun q=>?_⟩
  ·exact absurd (by rw[ha']:a'.st=7) (hp _ q).2
  ·exact absurd sa (hp _ q).1
  ·exact absurd (by rw[hb'];exact sb:b'.st=2) (hp _ q).1
  ·exact absurd sb (hp _ q).1
 refine⟨⟨by simpa using h.len,fun i u hu=>?_,?_,hs1 h.pe fun v hv=>by unfold pend' at hv;omega,hs1 h.ex fun v hv=>by unfold wait' at hv;omega,hs1 h.lv fun v hv=>by unfold leave' at hv;omega,hs1 h.bo fun v hv=>by unfold bond' at hv;omega⟩,fun i=>?_⟩
 ·rcases getE_set hu with⟨_,rfl⟩|⟨_,hu⟩
  ·exact ob
  ·rcases getE_set hu with⟨_,rfl⟩|⟨_,hu⟩
   ·exact oa
   ·exact h.val i u hu
 ·rw[bals_set,sum_set _ _ _ _ (bals_get hb1),bals_set,sum_set _ _ _ _ (bals_get ha),h.sum,ha',hb']
  simp only;omega
 ·rw[List.getElem?_set,List.getElem?_set]
  obtain ⟨l1,m1⟩:=List.getElem?_eq_some_iff.1 ha
  obtain ⟨l2,m2⟩:=List.getElem?_eq_some_iff.1 hb
  by_cases q2:p.2=i
  ·subst q2;simp[l2,m2,hb']
  ·by_cases q1:p.1=i
   ·subst q1;simp[l1,m1,q2,ha']
   ·simp[q1,q2]
theorem Vs.mers {c:Cfg} (hc:CfOk c) {e:Int} {pe ex lv bo:List Nat} {m:Nat} {S:Int}:∀ (q:List (Nat × Nat)) {V:List Val},Vs c e V pe ex lv bo m S→Vs c e (q.foldl (Go.Proofs.YtjbfcacmdahnhaaGreat.merV c) V) pe ex lv bo m S∧∀ i:Nat,((q.foldl (Go.Proofs.YtjbfcacmdahnhaaGreat.merV c) V)[i]?).map (·.wd)=(V[i]?).map (·.wd)
 | [],V,h=>⟨h,fun _=>rfl⟩
 | p::q,V,h=>by
  obtain ⟨h1,h2⟩:=h.merV hc p
  obtain ⟨h3,h4⟩:=Vs.mers hc q h1
  exact⟨h3,fun i=>(h4 i).trans (h2 i)⟩
theorem takeW_le (W:List Int):∀ (l:List Nat) (x:Int),(takeW W x l).1≤l.length
 | [],x=>by simp[takeW]
 | i::r,x=>by
  rw[takeW]
  split
  ·have:=takeW_le W r (x - wAt W i);simp;omega
  ·simp
theorem takeW_rest (W:List Int) (hW:∀ y∈W,0≤y):∀ (l:List Nat) (x:Int),0≤x→0≤(takeW W x l).2∧(takeW W x l).2≤x
 | [],x,h=>by simp[takeW];omega
 | i::r,x,h=>by
  have h0:0≤wAt W i:=by
   unfold wAt
   rw[List.getD_eq_getElem?_getD]
   cases hb:W[i]? with
   | none=>simp
   | some y=>simpa using hW y (List.mem_of_getElem? hb)
  rw[takeW]
  split
  ·have:=takeW_rest W hW r (x - wAt W i) (by omega);simp only;omega
  ·simp only;omega
theorem actGo_le (W:List Int) (lim:Int):∀ (l:List Nat) (s:Int),actGo W lim s l≤l.length
 | [],s=>by simp[actGo]
 | i::r,s=>by
  rw[actGo]
  split
  ·simp
  ·have:=actGo_le W lim r (s+wAt W i);simp;omega
theorem actN_le (W:List Int) (lim:Int) (l:List Nat):actN W lim l≤l.length:=by
 cases l with
 | nil=>simp[actN]
 | cons i r=>have:=actGo_le W lim r (wAt W i);simp[actN];omega
theorem getD_some {V:List Val} {i:Nat} {v:Val} (h:V[i]? = some v):V.getD i Val.zero=v:=by rw[List.getD_eq_getElem?_getD,h];rfl
theorem epo_next {c:Cfg} (hc:CfOk c) {s:St} (hz:((s.bk+1:Nat):Int) % c.epochLen=0):epo c {s with bk:=s.bk+1} = epo c s+1:=by
 have hel:=hc.el
 unfold epo
 have h1:=Int.emod_add_mul_ediv ((s.bk+1:Nat):Int) c.epochLen
 show((s.bk+1:Nat):Int) / c.epochLen=(s.bk:Int) / c.epochLen+1
 generalize hq:((s.bk+1:Nat):Int) / c.epochLen=q at *
 have h2:(s.bk:Int)=(c.epochLen - 1)+c.epochLen*(q - 1):=by
  rw[Int.mul_sub,Int.mul_one];omega
 rw[h2,Int.add_mul_ediv_left _ _ (by omega),Int.ediv_eq_zero_of_lt (by omega) (by omega)]
 omega
theorem epo_same {c:Cfg} (hc:CfOk c) {s:St} (hz:((s.bk+1:Nat):Int) % c.epochLen≠0):epo c {s with bk:=s.bk+1} = epo c s:=by
 have hel:=hc.el
 unfold epo
 have h1:=Int.emod_add_mul_ediv (s.bk:Int) c.epochLen
 have h2:=Int.emod_lt_of_pos (s.bk:Int) (show 0<c.epochLen by omega)
 have h0:=Int.emod_nonneg (s.bk:Int) (show c.epochLen≠0 by omega)
 show((s.bk+1:Nat):Int) / c.epochLen=(s.bk:Int) / c.epochLen
 have h3:((s.bk+1:Nat):Int)=((s.bk:Int) % c.epochLen+1)+c.epochLen*((s.bk:Int) / c.epochLen):=by omega
 have h4:(s.bk:Int) % c.epochLen+1<c.epochLen:=by
  rcases (by omega:(s.bk:Int) % c.epochLen+1<c.epochLen∨(s.bk:Int) % c.epochLen+1=c.epochLen) with h|h
  ·exact h
  ·exfalso
   apply hz
   rw[h3,h,Int.add_mul_emod_self_left,Int.emod_self]
 rw[h3,Int.add_mul_ediv_left _ _ (by omega),Int.ediv_eq_zero_of_lt (by omega) h4]
 omega
theorem due_parts (l:List (Int × Nat)) (e:Int):(l.map (·.2)).Perm ((l.filter fun x=>decide (x.1≠e)).map (·.2)++(l.filter fun x=>decide (x.1=e)).map (·.2)):=by
 rw[← List.map_append]
 apply List.Perm.map
 have:=List.filter_append_perm (fun x:Int × Nat=>decide (x.1≠e)) l
 have e1:(fun x:Int × Nat=>decide (x.1=e))=fun x=>!decide (x.1≠e):=by funext x;simp
 rw[e1];exact this.symm
theorem boundM_inv {c:Cfg} (hc:CfOk c) {s:St} (h:Inv c s) (hb:s.bk<1000000000) (hz:((s.bk+1:Nat):Int) % c.epochLen=0):Inv c (boundM c {s with bk:=s.bk+1}).s:=by
 have hep:=epo_next hc hz
 have he0:=epo_range hc (s:=s) (by have:=h.bk;omega)
 have hun:=hc.un
 obtain ⟨e,he⟩:∃ e,epo c {s with bk:=s.bk+1} = e:=⟨_,rfl⟩
 have he1:epo c s=e - 1:=by omega
 have hval:=h.val
 have hbw:=h.bw
 rw[he1] at hval hbw
 have hg:(s.V.map (leaveV e)).map (ripeV e)=s.V.map (gV e):=by rw[List.map_map];rfl
 obtain ⟨V2,hV2⟩:∃ V2,s.V.map (gV e)=V2:=⟨_,rfl⟩
 have g2:∀ i:Nat,V2[i]? = (s.V[i]?).map (gV e):=fun i=>by rw[← hV2,List.getElem?_map]
 have v2:∀ (i:Nat) u,V2[i]? = some u→VOk c e u:=fun i u hu=>by
  rw[g2] at hu
  obtain ⟨v,hv,rfl⟩:=Option.map_eq_some_iff.1 hu
  exact gV_ok hc (by omega) (hval i v hv)
 have b2:bals V2=bals s.V:=by rw[← hV2];exact bals_map (gV_bal e) _
 have pe2:Ix V2 pend' s.pe:=hV2 ▸ h.pe.map _ fun i v hv=>by
  have:=gV_cases hc (by omega) (hval i v hv);unfold pend';omega
 have ex2:Ix V2 wait' (s.fo++s.vo):=hV2 ▸ h.ex.map _ fun i v hv=>by
  have:=gV_cases hc (by omega) (hval i v hv);have:=gV_wd e v;unfold wait';omega
 have lv2:Ix V2 leave' []:=⟨by simp,fun i=>by
  constructor
  ·intro h;simp at h
  ·rintro⟨u,hu,hl⟩
   exfalso
   rw[g2] at hu
   obtain ⟨v,hv,rfl⟩:=Option.map_eq_some_iff.1 hu
   have q1:=gV_cases hc (by omega) (hval i v hv);have q2:=gV_wd e v;have q3:=(hval i v hv).e3
   unfold leave' at hl;omega⟩
 obtain ⟨due,hdue⟩:∃ due,(s.bo.filter fun x=>decide (x.1=e)).map (·.2)=due:=⟨_,rfl⟩
 obtain ⟨re,hre⟩:∃ re,(due.filter fun i=>decide (e<((s.V.map (leaveV e)).getD i Val.zero).wd))=re:=⟨_,rfl⟩
 have wd1:∀ (i:Nat) v,s.V[i]? = some v→((s.V.map (leaveV e)).getD i Val.zero).wd=v.wd:=fun i v hv=>by
  rw[getD_some (v:=leaveV e v) (by rw[List.getElem?_map,hv];rfl),leaveV_wd]
 have bo2:Ix V2 bond' ((s.bo.filter fun x=>decide (x.1≠e)).map (·.2)++re):=by
  have hp:=due_parts s.bo e
  have hnd:=(hp.nodup_iff.1 h.bo.nd)
  rw[hdue] at hnd
  refine⟨hnd.sublist (List.Sublist.append_left (by rw[← hre];exact List.filter_sublist) _),fun i=>?_⟩
  constructor
  ·intro hi
   have hx:∃ x∈s.bo,x.2=i∧∀ v,s.V[i]? = some v→e<v.wd:=by
    rcases List.mem_append.1 hi with hi|hi
    ·obtain ⟨x,hx,rfl⟩:=List.mem_map.1 hi
     obtain ⟨hx1,hx2⟩:=List.mem_filter.1 hx
     refine⟨x,hx1,rfl,fun v hv=>?_⟩
     have h1:=(hbw x hx1).1
     have h2:=(hbw x hx1).2 v hv
     have h3:x.1≠e:=by simpa using hx2
     omega
    ·rw[← hre] at hi
     obtain ⟨h1,h2⟩:=List.mem_filter.1 hi
     rw[← hdue] at h1
     obtain ⟨x,hx,rfl⟩:=List.mem_map.1 h1
     refine⟨x,(List.mem_filter.1 hx).1,rfl,fun v hv=>?_⟩
     rw[wd1 x.2 v hv] at h2
     simpa using h2
   obtain ⟨x,hx,rfl,hw⟩:=hx
   obtain ⟨v,hv,hbv⟩:=(h.bo.mem x.2).1 (List.mem_map.2 ⟨x,hx,rfl⟩)
   refine⟨gV e v,by rw[g2,hv];rfl,?_⟩
   have:=hw v hv
   have q1:=gV_cases hc (by omega) (hval _ v hv);have q2:=gV_wd e v;have q3:=(hval _ v hv).e3
   unfold bond' at hbv ⊢;omega
  ·rintro⟨u,hu,hq⟩
   rw[g2] at hu
   obtain ⟨v,hv,rfl⟩:=Option.map_eq_some_iff.1 hu
   have q1:=gV_cases hc (by omega) (hval _ v hv);have q2:=gV_wd e v;have q3:=(hval _ v hv).e3;have q4:=(hval _ v hv).ex;have q5:=(gV_ok hc (by omega) (hval _ v hv)).w4
   have hbv:bond' v∧e<v.wd:=by unfold bond' at hq ⊢;omega
   obtain ⟨x,hx,rfl⟩:=List.mem_map.1 ((h.bo.mem i).2 ⟨v,hv,hbv.1⟩)
   by_cases hxe:x.1=e
   ·refine List.mem_append.2 (.inr ?_)
    rw[← hre,← hdue]
    refine List.mem_filter.2 ⟨List.mem_map.2 ⟨x,List.mem_filter.2 ⟨hx,by simpa using hxe⟩,rfl⟩,?_⟩
    rw[wd1 x.2 v hv];simpa using hbv.2
   ·exact List.mem_append.2 (.inl (List.mem_map.2 ⟨x,List.mem_filter.2 ⟨hx,by simpa using hxe⟩,rfl⟩))
 obtain ⟨t,ht⟩:∃ t,takeW (bals V2) (granted s.ca (churn c V2)) (s.fo++s.vo)=t:=⟨_,rfl⟩
 have ht1:t.1≤(s.fo++s.vo).length:=by rw[← ht];exact takeW_le _ _ _
 obtain ⟨ix,hix⟩:∃ ix,(s.fo++s.vo).take t.1=ix:=⟨_,rfl⟩
 have hixn:ix.Nodup:=by rw[← hix];exact h.ex.nd.sublist (List.take_sublist _ _)
 have hixw:∀ i∈ix,∃ v,V2[i]? = some v∧wait' v:=fun i hi=>(ex2.mem i).1 (List.mem_of_mem_take (hix ▸ hi))
 obtain ⟨V3,hV3⟩:∃ V3,mods (setAsg c (e+1)) V2 ix=V3:=⟨_,rfl⟩
 have g3:∀ i:Nat,V3[i]? = if i∈ix then (V2[i]?).map (setAsg c (e+1)) else V2[i]?:=fun i=>by rw[← hV3];exact mods_get _ _ _ _ hixn
 have v3:∀ (i:Nat) u,V3[i]? = some u→VOk c e u:=fun i u hu=>by
  rw[g3] at hu
  split at hu
  ·rename_i hi
   obtain ⟨v,hv,rfl⟩:=Option.map_eq_some_iff.1 hu
   obtain ⟨v',hv',hw⟩:=hixw i hi
   rw[hv] at hv';cases hv'
   have o:=v2 i v hv
   have a1:=o.b;have a2:=o.st;have a10:=o.rq;have a11:=o.wd;have a13:=o.sl;have a14:=o.dl
   unfold wait' at hw
   have hm1:v.wd≤max v.wd (e+1+c.unbonding)∧e+1+c.unbonding≤max v.wd (e+1+c.unbonding)∧(max v.wd (e+1+c.unbonding)=v.wd∨max v.wd (e+1+c.unbonding)=e+1+c.unbonding):=by omega
   unfold setAsg
   generalize max v.wd (e+1+c.unbonding)=mw at *
   constructor<;>(try simp only)<;>first|omega|(intros;trivial)|(intro;omega)|(intro hs;have:=a13 hs;omega)|(intros;exact .inr trivial)
  ·exact v2 i u hu
 have b3:bals V3=bals s.V:=by rw[← hV3,bals_mods (f:=setAsg c (e+1)) (fun _=>rfl),b2]
 have pe3:Ix V3 pend' s.pe:=hV3 ▸ pe2.mods_same _ hixn fun i hi v hv=>by simp[pend',setAsg]
 have ex3:Ix V3 wait' ((s.fo++s.vo).drop t.1):=by
  rw[← hV3,← hix]
  exact ex2.mods_drop _ fun i hi v hv=>by simp[wait',setAsg];omega
 have lv3:Ix V3 leave' ix:=by
  have:=lv2.mods_add (setAsg c (e+1)) hixn fun i hi=>by
   obtain ⟨v,hv,hw⟩:=hixw i hi
   exact⟨v,hv,by unfold wait' at hw;unfold leave';omega,by unfold wait' at hw;unfold leave' setAsg;simp only;omega⟩
  rw[hV3] at this;simpa using this
 have bo3:Ix V3 bond' ((s.bo.filter fun x=>decide (x.1≠e)).map (·.2)++re++ix):=hV3 ▸ bo2.mods_add _ hixn fun i hi=>by
  obtain ⟨v,hv,hw⟩:=hixw i hi
  exact⟨v,hv,by unfold wait' at hw;unfold bond';omega,by unfold wait' at hw;unfold bond' setAsg;simp only;omega⟩
 obtain ⟨n,hn⟩:∃ n,actN (bals V3) (churn c V2) s.pe=n:=⟨_,rfl⟩
 obtain ⟨V4,hV4⟩:∃ V4,mods actV V3 (s.pe.take n)=V4:=⟨_,rfl⟩
 have hpn:(s.pe.take n).Nodup:=h.pe.nd.sublist (List.take_sublist _ _)
 have hpw:∀ i∈s.pe.take n,∃ v,V3[i]? = some v∧pend' v:=fun i hi=>(pe3.mem i).1 (List.mem_of_mem_take hi)
 have g4:∀ i:Nat,V4[i]? = if i∈s.pe.take n then (V3[i]?).map actV else V3[i]?:=fun i=>by rw[← hV4];exact mods_get _ _ _ _ hpn
 have s4:Vs c e V4 (s.pe.drop n) ((s.fo++s.vo).drop t.1) ix ((s.bo.filter fun x=>decide (x.1≠e)).map (·.2)++re++ix) s.V.length (bals s.V).sum:=by
  have hs:∀ {p':Val→Prop} {l:List Nat},Ix V3 p' l→(∀ v,p' v→v.st≠1∧v.st≠2)→Ix V4 p' l:=fun hx hp=>hV4 ▸ hx.mods_same _ hpn fun i hi v hv=>by
   obtain ⟨v',hv',hw⟩:=hpw i hi
   rw[hv] at hv';cases hv'
   exact⟨fun q=>absurd rfl (hp _ q).2,fun q=>absurd hw (hp _ q).1⟩
  refine⟨by rw[← hV4,mods_len,← hV3,mods_len,← hV2,List.length_map],fun i u hu=>?_,by rw[← hV4,bals_mods (f:=actV) (fun _=>rfl),b3],?_,hs ex3 fun v hv=>by unfold wait' at hv;omega,hs lv3 fun v hv=>by unfold leave' at hv;omega,hs bo3 fun v hv=>by unfold bond' at hv;omega⟩
  ·rw[g4] at hu
   split at hu
   ·rename_i hi
    obtain ⟨v,hv,rfl⟩:=Option.map_eq_some_iff.1 hu
    obtain ⟨v',hv',hw⟩:=hpw i hi
    rw[hv] at hv';cases hv'
    have o:=v3 i v hv
    have a1:=o.b;have a4:=o.mb;have a10:=o.rq;have a11:=o.wd;have a12:=o.w1;have a13:=o.sl;have a14:=o.dl
    unfold pend' at hw
    unfold actV
    constructor<;>(try simp only)<;>first|omega|(intros;trivial)|(intro;omega)|(intro hs;have:=a13 hs;omega)
   ·exact v3 i u hu
  ·rw[← hV4]
   exact pe3.mods_drop _ fun i hi v hv=>by simp[pend',actV]
 have w4:∀ i:Nat,(V4[i]?).map (·.wd)=(V3[i]?).map (·.wd):=fun i=>by
  rw[g4];split
  ·rw[Option.map_map];rfl
  ·rfl
 obtain ⟨s5,w5⟩:=s4.mers hc (s.me.take c.merges.toNat)
 have hgr:0≤granted s.ca (churn c V2)∧granted s.ca (churn c V2)≤18446744073709551615:=by
  have:=h.ca
  have hch:0≤churn c V2:=by have:=hc.mc;unfold churn;omega
  unfold granted;omega
 have htr:=takeW_rest (bals V2) (by rw[b2];exact h.bal0) (s.fo++s.vo) _ hgr.1
 rw[ht] at htr
 have hlen5:=s5.len
 have hql:=h.ql
 have key:(boundM c {s with bk:=s.bk+1}).s={s with bk:=s.bk+1,V:=(s.me.take c.merges.toNat).foldl (Go.Proofs.YtjbfcacmdahnhaaGreat.merV c) V4,fo:=s.fo.drop t.1,vo:=s.vo.drop (t.1 - s.fo.length),ca:=(if t.1=(s.fo++s.vo).length then 0 else t.2),pe:=s.pe.drop n,me:=s.me.drop c.merges.toNat,lv:=ix,bo:=(s.bo.filter fun x=>decide (x.1≠e))++(re.map fun i=>(((s.V.map (leaveV e)).getD i Val.zero).wd,i))++(ix.map fun i=>((V3.getD i Val.zero).wd,i))}:=by
  simp only[boundM,he,hg,hV2,ht,hix,hV3,hn,hV4,hdue,hre]
 rw[key]
 have hel:epo c {s with bk:=s.bk+1} = e:=he
 refine⟨by simp only[hlen5];exact h.cap,fun i v hv=>?_,by simp only[s5.sum,h.sum],by simp only[s5.sum];exact h.sup,h.tot,s5.pe,?_,s5.lv,?_,?_,?_,?_,?_,?_,?_,?_⟩
 ·show VOk c (epo c {s with bk:=s.bk+1}) v
  rw[hel];exact s5.val i v hv
 ·have:s.fo.drop t.1++s.vo.drop (t.1 - s.fo.length)=(s.fo++s.vo).drop t.1:=by rw[List.drop_append]
  rw[this];exact s5.ex
 ·simp only[List.map_append,List.map_map,Function.comp_def,List.map_id']
  exact s5.bo
 ·intro x hx
  show epo c {s with bk:=s.bk+1} < x.1∧∀ u,((s.me.take c.merges.toNat).foldl (Go.Proofs.YtjbfcacmdahnhaaGreat.merV c) V4)[x.2]? = some u→x.1≤u.wd
  rw[hel]
  have hwd:∀ (i:Nat) u,((s.me.take c.merges.toNat).foldl (Go.Proofs.YtjbfcacmdahnhaaGreat.merV c) V4)[i]? = some u→∃ v,V3[i]? = some v∧v.wd=u.wd:=fun i u hu=>by
   have:=w5 i
   rw[w4,hu] at this
   simp only[Option.map_some] at this
   obtain ⟨v,hv,hw⟩:=Option.map_eq_some_iff.1 this.symm
   exact⟨v,hv,hw⟩
  have hwd2:∀ (i:Nat) u,V3[i]? = some u→∃ v,s.V[i]? = some v∧v.wd≤u.wd:=fun i u hu=>by
   rw[g3] at hu
   split at hu
   ·obtain ⟨v',hv',rfl⟩:=Option.map_eq_some_iff.1 hu
    rw[g2] at hv'
    obtain ⟨v,hv,rfl⟩:=Option.map_eq_some_iff.1 hv'
    exact⟨v,hv,by have:=(gV_wd e v).1;unfold setAsg;simp only;omega⟩
   ·rw[g2] at hu
    obtain ⟨v,hv,rfl⟩:=Option.map_eq_some_iff.1 hu
    exact⟨v,hv,by have:=(gV_wd e v).1;omega⟩
  rcases List.mem_append.1 hx with hx|hx
  ·rcases List.mem_append.1 hx with hx|hx
   ·obtain ⟨hx1,hx2⟩:=List.mem_filter.1 hx
    have h1:=(hbw x hx1).1
    have h3:x.1≠e:=by simpa using hx2
    refine⟨by omega,fun u hu=>?_⟩
    obtain ⟨v,hv,hw⟩:=hwd _ u hu
    obtain ⟨v',hv',hw'⟩:=hwd2 _ v hv
    have:=(hbw x hx1).2 v' hv'
    omega
   ·obtain ⟨i,hi,rfl⟩:=List.mem_map.1 hx
    have hi':=hi
    rw[← hre] at hi'
    have h2:=(List.mem_filter.1 hi').2
    refine⟨by simpa using h2,fun u hu=>?_⟩
    obtain ⟨v,hv,hw⟩:=hwd _ u hu
    obtain ⟨v',hv',hw'⟩:=hwd2 _ v hv
    simp only[wd1 i v' hv'];omega
  ·obtain ⟨i,hi,rfl⟩:=List.mem_map.1 hx
   obtain ⟨v2',hv2,hw2⟩:=hixw i hi
   have e3:V3[i]? = some (setAsg c (e+1) v2'):=by rw[g3,if_pos hi,hv2];rfl
   simp only[getD_some e3]
   refine⟨by unfold setAsg;simp only;omega,fun u hu=>?_⟩
   obtain ⟨v,hv,hw⟩:=hwd _ u hu
   rw[e3] at hv;cases hv;omega
 ·simp only[List.length_drop];omega
 ·intro p hp
  have:=h.me p (List.mem_of_mem_drop hp)
  simp only[hlen5];exact this
 ·intro p hp
  have:=h.pa p hp
  simp only[hlen5];exact this
 ·simp only[hlen5];exact h.at'
 ·simp only
  split
  ·omega
  ·omega
 ·simp only;omega
end
section
open Go.RowKit
def amS (l:List Pm):Int:=(l.map (·.am)).sum
theorem availV_range {c:Cfg} (v:Val) (hv:0≤v.bal) (hm:1≤c.minBalance):0≤availV c v∧availV c v≤v.bal∧(0<availV c v→v.st=2∧v.sl=false∧availV c v=v.bal - c.minBalance):=by
  unfold availV
  split
  · omega
  · rename_i h
    refine⟨by omega,by omega,fun _=>⟨by omega,by cases hs:v.sl<;>simp_all,rfl⟩⟩
theorem Vs.parV {c:Cfg} (hc:CfOk c) {e:Int} {Z:List Val × List Pm} {pe ex lv bo:List Nat} {m:Nat} {S:Int} (h:Vs c e Z.1 pe ex lv bo m S) (r:Nat × Int) (hr:1≤r.2) (hl:r.1<m) :
    ∃ x,0≤x∧Vs c e (parV c Z r).1 pe ex lv bo m (S - x)∧amS (parV c Z r).2=amS Z.2+x∧(parV c Z r).2.length≤Z.2.length+1∧((∀ p∈Z.2,0<p.am)→∀ p∈(parV c Z r).2,0<p.am)∧(∀ i:Nat,((parV c Z r).1[i]?).map (·.wd)=(Z.1[i]?).map (·.wd))∧(∀ i:Nat,((parV c Z r).1[i]?).map (·.st)=(Z.1[i]?).map (·.st)):=by
  have hmb:=hc.mb
  unfold Go.Proofs.YtjbfcacmdahnhaaGreat.parV
  cases hv:Z.1[r.1]? with
  | none =>
    have:=h.len
    rw[List.getElem?_eq_none_iff] at hv;omega
  | some v =>
    have o:=h.val _ _ hv
    obtain ⟨k1,k2,k3⟩:=availV_range (c:=c) v o.b hmb.1
    obtain ⟨x,hx⟩:∃ x,min r.2 (availV c v)=x:=⟨_,rfl⟩
    obtain ⟨v',hv'⟩:∃ v':Val,v'={v with bal:=v.bal - x}:=⟨_,rfl⟩
    simp only[hx,← hv']
    have hx0:0≤x∧x≤availV c v:=by omega
    have o':VOk c e v':=by
      subst hv'
      have a1:=o.b;have a2:=o.st;have a3:=o.fin;have a4:=o.mb;have a5:=o.ex;have a6:=o.e3;have a7:=o.e4;have a8:=o.w4;have a9:=o.w5;have a10:=o.rq;have a11:=o.wd;have a12:=o.w1;have a13:=o.sl;have a14:=o.dl
      constructor<;>(try simp only)<;>first|assumption|omega|(intro;omega)
    have hs1:∀ {p':Val→Prop} {l:List Nat},Ix Z.1 p' l→(p' v'↔p' v)→Ix (Z.1.set r.1 v') p' l:=fun hx hp=>hx.set_same hv hp
    obtain ⟨l1,m1⟩:=List.getElem?_eq_some_iff.1 hv
    refine⟨x,hx0.1,⟨by simpa using h.len,fun i u hu=>?_,?_,hs1 h.pe (by rw[hv'];exact Iff.rfl),hs1 h.ex (by rw[hv'];exact Iff.rfl),hs1 h.lv (by rw[hv'];exact Iff.rfl),hs1 h.bo (by rw[hv'];exact Iff.rfl)⟩,?_,?_,?_,fun i=>?_,fun i=>?_⟩
    · rcases getE_set hu with⟨_,rfl⟩|⟨_,hu⟩
      · exact o'
      · exact h.val i u hu
    · rw[bals_set,sum_set _ _ _ _ (bals_get hv),h.sum,hv'];simp only;omega
    · split
      · simp[amS]
      · have:x=0:=by omega
        simp[this]
    · split<;>simp
    · intro hp p hpm
      split at hpm
      · rcases List.mem_append.1 hpm with hpm|hpm
        · exact hp p hpm
        · simp at hpm;subst hpm;assumption
      · exact hp p hpm
    · rw[List.getElem?_set]
      by_cases q:r.1=i
      · subst q;simp[l1,m1,hv']
      · simp[q]
    · rw[List.getElem?_set]
      by_cases q:r.1=i
      · subst q;simp[l1,m1,hv']
      · simp[q]
theorem Vs.pars {c:Cfg} (hc:CfOk c) {e:Int} {pe ex lv bo:List Nat} {m:Nat}:∀ (q:List (Nat × Int)) {Z:List Val × List Pm} {S:Int},Vs c e Z.1 pe ex lv bo m S→(∀ r∈q,r.1<m∧1≤r.2) →
    ∃ x,0≤x∧Vs c e (q.foldl (Go.Proofs.YtjbfcacmdahnhaaGreat.parV c) Z).1 pe ex lv bo m (S - x)∧amS (q.foldl (Go.Proofs.YtjbfcacmdahnhaaGreat.parV c) Z).2=amS Z.2+x∧(q.foldl (Go.Proofs.YtjbfcacmdahnhaaGreat.parV c) Z).2.length≤Z.2.length+q.length∧((∀ p∈Z.2,0<p.am)→∀ p∈(q.foldl (Go.Proofs.YtjbfcacmdahnhaaGreat.parV c) Z).2,0<p.am)∧(∀ i:Nat,((q.foldl (Go.Proofs.YtjbfcacmdahnhaaGreat.parV c) Z).1[i]?).map (·.wd)=(Z.1[i]?).map (·.wd))∧∀ i:Nat,((q.foldl (Go.Proofs.YtjbfcacmdahnhaaGreat.parV c) Z).1[i]?).map (·.st)=(Z.1[i]?).map (·.st)
  | [],Z,S,h,_=>⟨0,by omega,by simpa using h,by simp,by simp,fun h=>h,fun _=>rfl,fun _=>rfl⟩
  | r::q,Z,S,h,hr=>by
    obtain ⟨x,h0,h1,h2,h3,h4,h5,h6⟩:=h.parV hc r (hr r (by simp)).2 (hr r (by simp)).1
    obtain ⟨y,k0,k1,k2,k3,k4,k5,k6⟩:=Vs.pars hc q h1 fun r hr'=>hr r (by simp[hr'])
    refine ⟨x + y, by omega, by rw [List.foldl_cons]; have e : S - (x + y) = S - x - y := by omega
                                rw[e];exact k1,by rw[List.foldl_cons,k2,h2];omega,by rw[List.foldl_cons,List.length_cons];omega,fun h=>by rw[List.foldl_cons];exact k4 (h4 h),fun i=>(k5 i).trans (h5 i),fun i=>(k6 i).trans (h6 i)⟩
theorem mod_step (a j n:Nat):((a % n+1) % n+j) % n=(a+(j+1)) % n:=by
  rw[Nat.mod_add_mod,show a % n+1+j=a % n+(j+1) by omega,Nat.mod_add_mod]
theorem sweepGo_spec (V:List Val) (pays:Nat):∀ (k a:Nat) (l:List Nat),∃ m,(sweepGo V pays k a l).1=l++m∧m.Sublist ((List.range k).map fun j=>(a+j) % V.length)∧(∀ i∈m,(V.getD i Val.zero).st=5)∧(sweepGo V pays k a l).2.1≤k∧(l.length≤pays→l.length+m.length≤pays)∧(0<V.length→(sweepGo V pays k a l).2.2<V.length∨(sweepGo V pays k a l).2.2=a)
  | 0,a,l=>⟨[],by simp[sweepGo],by simp,by simp,by simp[sweepGo],by simp,fun _=>.inr rfl⟩
  | k+1,a,l=>by
    rw[sweepGo]
    split
    · exact⟨[],by simp,by simp,by simp,by simp,by simp,fun _=>.inr rfl⟩
    · rename_i hl
      have hr:(List.range (k+1)).map (fun j=>(a+j) % V.length)=a % V.length::(List.range k).map fun j=>(a+(j+1)) % V.length:=by
        rw[List.range_succ_eq_map];simp[Function.comp_def]
      by_cases h5:(V.getD (a % V.length) Val.zero).st=5
      · obtain ⟨m,h1,h2,h3,h4,h6,h7⟩:=sweepGo_spec V pays k ((a % V.length+1) % V.length) (l++[a % V.length])
        simp only[mod_step] at h2
        simp only[h5,if_true]
        refine⟨a % V.length::m,by rw[h1];simp,by rw[hr];exact h2.cons_cons _,fun i hi=>?_,by omega,fun h=>?_,fun hV=>.inl ?_⟩
        · rcases List.mem_cons.1 hi with rfl|hi
          · exact h5
          · exact h3 i hi
        · have:=h6 (by simp;omega);simp at this ⊢;omega
        · rcases h7 hV with h|h
          · exact h
          · rw[h];exact Nat.mod_lt _ hV
      · obtain ⟨m,h1,h2,h3,h4,h6,h7⟩:=sweepGo_spec V pays k ((a % V.length+1) % V.length) l
        simp only[mod_step] at h2
        simp only[h5,if_false]
        refine⟨m,h1,by rw[hr];exact h2.cons _,h3,by omega,h6,fun hV=>.inl ?_⟩
        rcases h7 hV with h|h
        · exact h
        · rw[h];exact Nat.mod_lt _ hV
theorem mods_nodup {n a:Nat}:∀ k,k≤n→((List.range k).map fun j=>(a+j) % n).Nodup:=by
  intro k hk
  rw[List.nodup_iff_pairwise_ne,List.pairwise_map]
  have hp:(List.range k).Pairwise (· < ·):=List.pairwise_lt_range
  refine hp.imp_of_mem ?_
  intro x y hx hy hlt heq
  have hx:=List.mem_range.1 hx
  have hy:=List.mem_range.1 hy
  have h1:(a+x) % n=(a+y) % n:=heq
  have h2:=Nat.mod_add_div (a+x) n
  have h3:=Nat.mod_add_div (a+y) n
  rw[h1] at h2
  have h4:n*((a+y) / n)=n*((a+x) / n)+(y - x):=by omega
  have h5:n*((a+y) / n) - n*((a+x) / n)=y - x:=by omega
  rw[← Nat.mul_sub] at h5
  rcases Nat.eq_zero_or_pos ((a+y) / n - (a+x) / n) with h6|h6
  · rw[h6] at h5;omega
  · have:=Nat.le_mul_of_pos_right n h6;omega
theorem sum_zero:∀ (l:List Nat) (W W':List Int),l.Nodup→W'.length=W.length→(∀ i:Nat,W'[i]? = if i∈l then (W[i]?).map (fun _=>(0:Int)) else W[i]?)→W'.sum=W.sum - (l.map (wAt W)).sum
  | [],W,W',_,_,h=>by
    have:W'=W:=List.ext_getElem? fun i=>by rw[h i];simp
    simp[this]
  | j::r,W,W',hn,hlen,h=>by
    have hj:=(List.nodup_cons.1 hn).1
    have ih:=sum_zero r (W.set j 0) W' (List.nodup_cons.1 hn).2 (by simpa using hlen) fun i=>by
      rw[h i,List.getElem?_set]
      by_cases hji:j=i
      · subst hji
        simp only[List.mem_cons,true_or,if_true,hj,if_false]
        by_cases hl:j<W.length<;>simp[hl]
      · have:i≠j:=Ne.symm hji
        simp[hji,this]
    rw[ih]
    have e:r.map (wAt (W.set j 0))=r.map (wAt W):=by
      apply List.map_congr_left
      intro i hi
      have hij:j≠i:=fun e=>hj (e ▸ hi)
      simp[wAt,List.getD_eq_getElem?_getD,List.getElem?_set,hij]
    rw[e,List.map_cons,List.sum_cons]
    cases hW:W[j]? with
    | none =>
      have h0:wAt W j=0:=by simp[wAt,List.getD_eq_getElem?_getD,hW]
      have:W.set j 0=W:=List.set_eq_of_length_le (List.getElem?_eq_none_iff.1 hW)
      rw[this,h0];omega
    | some x =>
      have h0:wAt W j=x:=by simp[wAt,List.getD_eq_getElem?_getD,hW]
      rw[sum_set W j x 0 hW,h0];omega
structure PayOk (c:Cfg) (s:St) (Z:List Val × List Pm) (l:List Nat):Prop where
  vi:(payM c s).vi≤c.visits.toNat
  pm:(payM c s).pm=Z.2++l.map fun (i:Nat)=>(⟨i,(Z.1.getD i Val.zero).bal,true⟩:Pm)
  np:(payM c s).pm.length≤c.payments.toNat
  V:(payM c s).s.V=mods payV Z.1 l
  nd:l.Nodup
  st:∀ i∈l,∃ v,Z.1[i]? = some v∧v.st=5
theorem payM_inv {c:Cfg} (hc:CfOk c) {s:St} (h:Inv c s):Inv c (payM c s).s∧∃ l,PayOk c s ((s.pa.take c.partials.toNat).foldl (parV c) (s.V,[])) l:=by
  have hpa:=hc.pa
  have hvi:=hc.vi
  have hpy:=hc.py
  obtain ⟨q,hq⟩:∃ q,s.pa.take c.partials.toNat=q:=⟨_,rfl⟩
  have hql:q.length≤c.partials.toNat:=by rw[← hq,List.length_take];omega
  have hqr:∀ r∈q,r.1<s.V.length∧1≤r.2:=fun r hr=>by
    have:=h.pa r (List.mem_of_mem_take (hq ▸ hr));omega
  obtain ⟨x,h0,h1,h2,h3,h3b,h4,h5⟩:=Vs.pars hc q (Z:=(s.V,[])) (m:=s.V.length) ⟨rfl,h.val,h.sum,h.pe,h.ex,h.lv,h.bo⟩ hqr
  obtain ⟨Z,hZ⟩:∃ Z,q.foldl (parV c) (s.V,[])=Z:=⟨_,rfl⟩
  rw[hZ] at h1 h2 h3 h3b h4 h5
  simp only[List.length_nil,Nat.zero_add] at h3
  obtain ⟨m,k1,k2,k3,k4,k5,k6⟩:=sweepGo_spec Z.1 (c.payments.toNat - Z.2.length) (min (c.visits.toNat - q.length) Z.1.length) s.at' []
  obtain ⟨r,hr⟩:∃ r,sweepGo Z.1 (c.payments.toNat - Z.2.length) (min (c.visits.toNat - q.length) Z.1.length) s.at' []=r:=⟨_,rfl⟩
  rw[hr] at k1 k4 k6
  simp only[List.nil_append,List.length_nil,Nat.zero_add] at k1 k5
  have hmn:m.Nodup:=(mods_nodup _ (Nat.min_le_right _ _)).sublist k2
  have hm5:∀ i∈m,∃ v,Z.1[i]? = some v∧v.st=5:=fun i hi=>by
    have:=k3 i hi
    cases hv:Z.1[i]? with
    | none=>rw[List.getD_eq_getElem?_getD,hv] at this;simp[Val.zero] at this
    | some v=>rw[getD_some hv] at this;exact⟨v,rfl,this⟩
  have key:payM c s=⟨Z.2++m.map fun (i:Nat)=>(⟨i,(Z.1.getD i Val.zero).bal,true⟩:Pm),q.length+r.2.1,{s with V:=mods payV Z.1 m,pa:=s.pa.drop c.partials.toNat,at':=r.2.2,pd:=s.pd+amS (Z.2++m.map fun (i:Nat)=>(⟨i,(Z.1.getD i Val.zero).bal,true⟩:Pm))}⟩:=by
    simp only[payM,hq,hZ,hr,k1,amS]
  have hlen:=h1.len
  have hg:∀ i:Nat,(mods payV Z.1 m)[i]? = if i∈m then (Z.1[i]?).map payV else Z.1[i]?:=fun i=>mods_get _ _ _ _ hmn
  have hsum:(bals (mods payV Z.1 m)).sum=(bals Z.1).sum - (m.map (wAt (bals Z.1))).sum:=sum_zero m _ _ hmn (by simp[bals,mods_len]) fun i=>by
    simp only[bals,List.getElem?_map,hg]
    split
    · cases Z.1[i]?<;>simp[payV]
    · rfl
  have ham:amS (Z.2++m.map fun (i:Nat)=>(⟨i,(Z.1.getD i Val.zero).bal,true⟩:Pm))=amS Z.2+(m.map (wAt (bals Z.1))).sum:=by
    simp only[amS,List.map_append,List.map_map,sum_app]
    congr 2
    apply List.map_congr_left
    intro i hi
    obtain ⟨v,hv,_⟩:=hm5 i hi
    have hb:=bals_get hv
    simp[wAt,List.getD_eq_getElem?_getD,hb,hv]
  have hwn:0≤(m.map (wAt (bals Z.1))).sum:=sum_nonneg _ fun y hy=>by
    obtain ⟨i,hi,rfl⟩:=List.mem_map.1 hy
    obtain ⟨v,hv,_⟩:=hm5 i hi
    have:=(h1.val i v hv).b
    simpa[wAt,List.getD_eq_getElem?_getD,bals_get hv] using this
  have hs1:∀ {p':Val→Prop} {l:List Nat},Ix Z.1 p' l→(∀ v,p' v→v.st≠5∧v.st≠6)→Ix (mods payV Z.1 m) p' l:=fun hx hp=>hx.mods_same _ hmn fun i hi v hv=>by
    obtain ⟨v',hv',hw⟩:=hm5 i hi
    rw[hv] at hv';cases hv'
    exact⟨fun q=>absurd rfl (hp _ q).2,fun q=>absurd hw (hp _ q).1⟩
  have htot:=h.tot
  have hsup:=h.sup
  have hS:=h.sum
  have hs2:=h1.sum
  have h20:amS Z.2=x:=by rw[h2];simp[amS]
  have hmlen:Z.2.length+m.length≤c.payments.toNat:=by have:=k5 (by omega);omega
  refine⟨?_,m,⟨by rw[key];simp only;omega,by rw[key,hq,hZ],by rw[key];simp;omega,by rw[key,hq,hZ],hmn,by rw[hq,hZ];exact hm5⟩⟩
  rw[key]
  refine⟨by simp only[mods_len,hlen];exact h.cap,fun i v hv=>?_,by simp only[hsum,ham];omega,by simp only[hsum];omega,by simp only[ham];omega,hs1 h1.pe fun v hv=>by unfold pend' at hv;omega,hs1 h1.ex fun v hv=>by unfold wait' at hv;omega,hs1 h1.lv fun v hv=>by unfold leave' at hv;omega,hs1 h1.bo fun v hv=>by unfold bond' at hv;omega,fun y hy=>?_,?_,fun p hp=>?_,fun p hp=>?_,?_,h.ca,h.bk⟩
  · show VOk c (epo c s) v
    simp only[hg] at hv
    split at hv
    · rename_i hi
      obtain ⟨u,hu,rfl⟩:=Option.map_eq_some_iff.1 hv
      obtain ⟨v',hv',hw⟩:=hm5 i hi
      rw[hu] at hv';cases hv'
      have o:=h1.val i u hu
      have a1:=o.b;have a2:=o.st;have a5:=o.ex;have a7:=o.e4;have a9:=o.w5;have a10:=o.rq;have a11:=o.wd;have a12:=o.w1;have a13:=o.sl;have a14:=o.dl
      unfold payV
      constructor<;>(try simp only)<;>first|assumption|omega|(intro;omega)|(intros;trivial)|(intro hs;have:=a13 hs;omega)
    · exact h1.val i v hv
  · refine⟨(h.bw y hy).1,fun u hu=>?_⟩
    simp only[hg] at hu
    have hw:∃ v,s.V[y.2]? = some v∧v.wd=u.wd:=by
      have h4':=h4 y.2
      split at hu
      · obtain ⟨v',hv',rfl⟩:=Option.map_eq_some_iff.1 hu
        rw[hv'] at h4'
        obtain ⟨v,hv,hw⟩:=Option.map_eq_some_iff.1 h4'.symm
        exact⟨v,hv,hw⟩
      · rw[hu] at h4'
        obtain ⟨v,hv,hw⟩:=Option.map_eq_some_iff.1 h4'.symm
        exact⟨v,hv,hw⟩
    obtain ⟨v,hv,hw⟩:=hw
    have:=(h.bw y hy).2 v hv
    omega
  · have:=h.ql;simp only[List.length_drop];omega
  · have:=h.me p hp
    simp only[mods_len,hlen];exact this
  · have:=h.pa p (List.mem_of_mem_drop hp)
    simp only[mods_len,hlen];exact this
  · simp only[mods_len,hlen]
    rcases Nat.eq_zero_or_pos Z.1.length with hz|hz
    · have e:min (c.visits.toNat - q.length) Z.1.length=0:=by omega
      rw[e] at hr
      have:r.2.2=s.at':=by rw[← hr];rfl
      rw[this];exact h.at'
    · rcases k6 hz with h6|h6
      · left;omega
      · rw[h6];exact h.at'
theorem tickM_inv {c:Cfg} (hc:CfOk c) {s:St} (h:Inv c s) (hb:s.bk<1000000000):Inv c (tickM c s).2∧(tickM c s).2.bk=s.bk+1:=by
  unfold tickM
  simp only
  split
  · rename_i hz
    have h1:=boundM_inv hc h hb hz
    exact⟨(payM_inv hc h1).1,rfl⟩
  · rename_i hz
    have he:=epo_same hc hz
    have h1:Inv c {s with bk:=s.bk+1}:=⟨h.cap,fun i v hv=>by rw[he];exact h.val i v hv,h.sum,h.sup,h.tot,h.pe,h.ex,h.lv,h.bo,fun y hy=>by rw[he];exact h.bw y hy,h.ql,h.me,h.pa,h.at',h.ca,by simp only;omega⟩
    exact⟨(payM_inv hc h1).1,rfl⟩
theorem opM_bk (c:Cfg) (s:St) (o:Opn):(opM c s o).s.bk=s.bk:=by
  unfold opM opDep opLeave opSlash opMerge opPart no'
  repeat'(first|rfl|split|dsimp only)
theorem stepM_inv {c:Cfg} (hc:CfOk c) {s:St} (h:Inv c s) (hb:s.bk<1000000000) (o:Opn) (ho:U64 o.am):Inv c (stepM c s o).2∧(stepM c s o).2.bk≤s.bk+1:=by
  unfold stepM
  split
  · have:=tickM_inv hc h hb;exact⟨this.1,by omega⟩
  · exact⟨opM_inv hc h o ho,by simp only[opM_bk];omega⟩
end
section
open Go.RowKit Go.Maps
open Go.ChangeMaps (setBlock)
def updF (k:Int) (v:Value) (p:Value × Value):Value × Value:=match p.1 with
 | .int .i64 x=>if x=k then (.int .i64 k,v) else p
 | _=>p
theorem updF_hit (k:Int) (v u:Value):updF k v (.int .i64 k,u)=(.int .i64 k,v):=by simp[updF]
theorem updF_miss {k:Int} {v:Value} {p:Value × Value} (h:p.1≠.int .i64 k):updF k v p=p:=by
 unfold updF
 split
 ·rename_i x hx
  rw[if_neg]
  intro e
  exact h (by rw[hx,e])
 ·rfl
theorem updF_key (k:Int) (v:Value) (p:Value × Value):(updF k v p).1=p.1:=by
 unfold updF
 split
 ·rename_i x hx
  split
  ·rename_i e;rw[hx,e]
  ·rfl
 ·rfl
def updP (k:Int) (v:Value) (L:List (Value × Value)):List (Value × Value):=L.map (updF k v)
theorem updP_keys (k:Int) (v:Value) (L:List (Value × Value)):(updP k v L).map (·.1)=L.map (·.1):=by
 unfold updP
 rw[List.map_map]
 apply List.map_congr_left
 intro p _
 exact updF_key k v p
theorem nodup_at {α:Type} {l:List α} (h:l.Nodup) {i j:Nat} {x:α} (hi:l[i]? = some x) (hj:l[j]? = some x):i=j:=by
 rw[List.nodup_iff_pairwise_ne,List.pairwise_iff_getElem] at h
 obtain ⟨h1,h2⟩:=List.getElem?_eq_some_iff.1 hi
 obtain ⟨h3,h4⟩:=List.getElem?_eq_some_iff.1 hj
 rcases Nat.lt_trichotomy i j with hlt|rfl|hlt
 ·exact absurd (h2.trans h4.symm) (h i j h1 h3 hlt)
 ·rfl
 ·exact absurd (h4.trans h2.symm) (h j i h3 h1 hlt)
section
variable {P:Program} {w:World} {b:Nat} {L:List (Value × Value)} {T K E:TypeId}
theorem run_mapUpdate_hit (hT:P.underlying T=some (.map K E)) (hK:Keyed P K) {k:Int} {v0 v:Value} {l:Lit} (hk:keyOf P K (.int .i64 k)=some l) (hm:MapIs P K w b L) (hin:(.int .i64 k,v0)∈L) :
  ∃ w',(Instr.mapUpdate T (.map (some b)) (.int .i64 k) v).run P w=.ok () w'∧MapIs P K w' b (updP k v L)∧Touch b w w':=by
 obtain ⟨es,clk,hb,hp,hl,hn⟩:=hm
 have hkeys:∀ e∈es.toList,∃ l,keyOf P K e.key=some l:=fun e he=>hl (e.key,e.val) (hp.mem_iff.1 (List.mem_map.2 ⟨e,he,rfl⟩))
 rcases hK.find w hk es.toList hkeys with⟨_,h1⟩|⟨j,e,h1,h2,h3⟩
 ·exfalso
  obtain ⟨e,he,hkv⟩:=List.mem_map.1 (hp.mem_iff.2 hin)
  exact h1 e he (congrArg Prod.fst hkv)
 ·have hj:es[j]? = some e:=by simpa using h2
  have hnd:(es.toList.map (·.key)).Nodup:=by
   have:=(hp.map (·.1)).nodup_iff.2 hn.1
   simpa[pairs,Function.comp_def] using this
  have hpairs:pairs (es.modify j fun e=>{e with key:=.int .i64 k,val:=v})=updP k v (pairs es):=by
   simp only[pairs,updP,Array.toList_modify,List.map_map]
   apply List.ext_getElem?
   intro i
   simp only[List.getElem?_map,List.getElem?_modify,Function.comp_def]
   by_cases hij:j=i
   ·subst hij
    rw[h2]
    simp only[if_true,Option.map_some,h3,updF_hit]
    rfl
   ·cases he:es.toList[i]? with
    | none=>simp
    | some e' =>
     have hne:e'.key≠.int .i64 k:=fun hh=>by
      rw[← h3] at hh
      have i1:=(List.getElem?_eq_some_iff.1 he).1
      have i2:=(List.getElem?_eq_some_iff.1 h2).1
      exact hij (nodup_at hnd (by rw[List.getElem?_map,h2];rfl) (by rw[List.getElem?_map,he];simp[hh]))
     simp only[hij,if_false,Option.map_some]
     show some (e'.key,e'.val)=_
     rw[updF_miss (p:=(e'.key,e'.val)) hne]
  refine⟨setBlock w b (.map (es.modify j fun e=>{e with key:=.int .i64 k,val:=v}) clk),?_,⟨es.modify j fun e=>{e with key:=.int .i64 k,val:=v},clk,?_,?_,?_,?_,?_⟩,touch_setBlock w b _⟩
  ·have hkt:(Instr.keyThatStays (.int .i64 k) (.int .i64 k)).run P w=.ok (.int .i64 k) w:=by simp[Instr.keyThatStays,Instr.sameBits]
   simp[Instr.mapUpdate,run_underlying hT,MapKept.run_getObj_map hb,hK.check w false hk,h1,hj,h3,hkt,MapKept.run_setObj_map _ hb,Result.andThen,setBlock]
  ·have:=(Array.getElem?_eq_some_iff.1 hb).1
   simp[setBlock,this]
  ·rw[hpairs];exact hp.map _
  ·intro p hp'
   obtain ⟨q,hq,rfl⟩:=List.mem_map.1 hp'
   rw[updF_key]
   exact hl q hq
  ·rw[updP_keys];exact hn.1
  ·have hb1:(es.modify j fun e=>{e with key:=.int .i64 k,val:=v}).toList.map (·.born)=es.toList.map (·.born):=by
    apply List.ext_getElem?
    intro i
    simp only[Array.toList_modify,List.getElem?_map,List.getElem?_modify]
    by_cases hij:j=i
    ·subst hij;rw[h2];simp
    ·simp[hij]
   refine⟨by rw[hb1];exact hn.2.1,fun e' he'=>?_⟩
   have:e'.born∈es.toList.map (·.born):=by rw[← hb1];exact List.mem_map.2 ⟨e',he',rfl⟩
   obtain ⟨e2,he2,hbe⟩:=List.mem_map.1 this
   rw[← hbe];exact hn.2.2 e2 he2
end
section
variable {o:Oper} {n:Nat} {l:List (Nat × Value)} {L:List Asn} {C:Value→List Asn→Prop}
theorem ac_mapHit {t:TypeId} {x y z:Operand} (ho:o.op=.mapUpdate t x y z) {b:Nat} (hx:evl l x=some (.map (some b))) {k:Int} {v0 v:Value} (hy:evl l y=some (.int .i64 k)) (hz:evl l z=some v) {K E:TypeId} (ht:MT t K E) {q:Lit} (hk:keyOf Tryz.prog K (.int .i64 k)=some q) {P:List (Value × Value)} {L2:List Asn} (hp:Rep L (mp b K P) (mp b K (updP k v P)) L2) (hin:(.int .i64 k,v0)∈P) (h:C undef L2):AC o l L n C:=fun G a w F M=>by
 obtain ⟨L',h1,h2⟩:=hp.both
 obtain ⟨w',e,hm,ht'⟩:=run_mapUpdate_hit (v:=v) ht.k ht.h hk (gives_mp (h1.app G) w M) hin
 have:(execOp a.eval o).run Tryz.prog w=.ok .skip w':=by
  unfold execOp
  rw[ho]
  simp[F.eval hx,F.eval hy,F.eval hz,e]
 rw[this]
 refine⟨L2,h,M.rep (hp.app G) fun s hs=>?_⟩
 obtain ⟨rfl,_⟩:=hs.now
 exact⟨ht'.chg,[b],ok_mp hm,fun x hx=>.inl hx⟩
end
end
end Go.Proofs.YtjbfcacmdahnhaaGreat
