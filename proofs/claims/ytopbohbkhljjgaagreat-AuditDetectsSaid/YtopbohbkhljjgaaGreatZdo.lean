import Derived.Test.YtopbohbkhljjgaaGreatZdn
set_option linter.unusedVariables false
set_option linter.unusedSimpArgs false
set_option maxRecDepth 100000
set_option maxHeartbeats 8000000
namespace Go.Proofs.YtopbohbkhljjgaaGreat
def zk129:List Nat:=[0,1,2,6,7,9,10,11,12,13,18]
section
open Go.RowKit
def allA (c:FuncId) (b:Nat) (caps:Array Value) (A:Asn):Asn:=exA fun _:Unit=>[pt b [.func (.func c) #[] caps] 170,A]
theorem allA_open (c:FuncId) {w:World} {L:List Asn} {b:Nat} {caps:Array Value} {A:Asn} (M:Mem w (allA c b caps A::L)):Mem w (pt b [.func (.func c) #[] caps] 170::A::L):=by
 obtain ⟨_,M⟩:=M.exo
 exact M
theorem allA_close (c:FuncId) {w:World} {L:List Asn} {b:Nat} {caps:Array Value} {A:Asn} (M:Mem w (pt b [.func (.func c) #[] caps] 170::A::L)):Mem w (allA c b caps A::L):=Mem.exc (f:=fun _:Unit=>[pt b [.func (.func c) #[] caps] 170,A]) () M
section
variable (c:FuncId) [hfk:FK c] (p:Val→Bool) (V:List Val) (v:Value) (R:List Asn) (hg:GS R 7 v V.length (V.flatMap valL)) (hlen:V.length≤1000000)
include hg hlen hfk in
theorem sum_spec (hcl:∀ x∈V,∀ R,Spec c [valV x] R fun u L'=>u=.bool (p x)∧L'=R) (hb:∀ x∈V,U64 x.bal) (h:SlH) (xs:List Int) (hxs:∀ z∈xs,U64 z) (hxl:xs.length≤10) :
  Spec 106 [v,.func (.func c) #[] #[],sl h] (ownT 23 u64L 1 (sl h) xs::R) fun u L'=>u=.tuple [.int .u64 (addR (xs++((V.filter p).map (·.bal)))).1,.bool (addR (xs++((V.filter p).map (·.bal)))).2].toArray∧L'=R:=by
 have ha:∀ {L:List Asn} {v:Value} {zs:List Int},(∀ z∈zs,U64 z)→GS L 1 v zs.length (zs.flatMap u64L)→Reads 39 [v] (.tuple [.int .u64 (addR zs).1,.bool (addR zs).2].toArray) L:=fun hz hg=>gadd_reads _ _ hz hg
 (intro G w M;refine sx_enter (vs:=([v,.func (.func c) #[] #[],sl h]:List Value)) Tryz.func106 (n:=29) rfl rfl rfl rfl ?_;intro a F;(try simp only[zc,zn] at M))
 have hG:GS (R++G) 7 v V.length (V.flatMap valL):=Gives.app hg
 (repeat'(first|(first|refine sx_nil ?_|fail);try replace F:=F.filt zk129 rfl|refine zn1 F M ?_;clear F M a;(try clear w);intro a w F M|refine zT F ?_|refine zY ?_;go_step|fail))
 refine svLoop F M ((0,h):Nat × SlH) (fun s=>[(12,.int .i64 s.1),(2,sl s.2)]) (fun s=>[ownT 23 u64L 1 (sl s.2) (xs++((V.take s.1).filter p).map (·.bal))]) (fun s=>s.1≤V.length) (fun s=>V.length - s.1) [9] (Nat.zero_le _) ?_ (hR:=by simp only[List.take_zero,List.filter_nil,List.map_nil,List.append_nil];exact .cons .here .nil)
 (rintro⟨k,h⟩ q1 a w F M;(try simp only[zc,zn] at F M q1 ⊢))
 have hfl:((V.take k).filter p).length≤V.length:=Nat.le_trans (List.length_filter_le _ _) (by rw[List.length_take];omega)
 by_cases hlt:k<V.length
 ·obtain ⟨x,hx⟩:∃ x,V[k]? = some x:=⟨V[k],by simp[hlt]⟩
  have hs:=hcl x (List.mem_of_getElem? hx)
  have ht:((V.take (k+1)).filter p).map (·.bal)=((V.take k).filter p).map (·.bal)++(if p x=true then [x.bal] else []):=by
   rw[List.take_add_one,hx,List.filter_append,List.map_append];cases hp:p x<;>simp[hp]
  cases hp:p x
  all_goals rw[hp] at hs ht
  ·(repeat'(first|(first|refine sx_nil ?_|fail);try replace F:=F.filt zk129 rfl|refine zn1 F M ?_;clear F M a;(try clear w);intro a w F M|refine sv2 F M ?_;clear F M a;intro nb a w F M|((first|refine svC F M ?_|fail);((first|((refine acW (k:=c) (hs _) ?_);rintro u L' ⟨rfl,rfl⟩)|fail));(first|clear F M a;intro a w F M|fail))|refine zT F ?_|((with_reducible refine isK ?_);refine svB F ?_ ?_<;>intro hc<;>try exact no hc)|refine zY ?_;go_step|fail))
   rw[if_neg (by decide),List.append_nil] at ht
   rw[← ht] at M
   refine sv_again F M (k+1,h) kpA permsA (by simp only;omega) (by simp only;omega)
  ·(repeat'(first|(first|refine sx_nil ?_|fail);try replace F:=F.filt zk129 rfl|refine zn1 F M ?_;clear F M a;(try clear w);intro a w F M|refine sv2 F M ?_;clear F M a;intro nb a w F M|((first|refine svC F M ?_|fail);((first|((refine acW (k:=c) (hs _) ?_);rintro u L' ⟨rfl,rfl⟩)|(refine ac_appendH rfl rfl inferInstance rfl rfl pullA inferInstance (ys:=[x.bal]) gsA rfl rfl (by simp;omega) ?_;intro nv)));(first|clear F M a;intro a w F M|fail))|refine zT F ?_|((with_reducible refine isK ?_);refine svB F ?_ ?_<;>intro hc<;>try exact no hc)|refine zY ?_;go_step|fail))
   rw[if_pos rfl] at ht
   rw[List.append_assoc,← ht] at M
   refine sv_again F M (k+1,nv) kpA permsA (by simp only;omega) (by simp only;omega)
 ·obtain rfl:k=V.length:=by omega
  rw[List.take_length] at M
  have hall:∀ z∈xs++(V.filter p).map (·.bal),U64 z:=fun z hz=>by
   rcases List.mem_append.1 hz with hz|hz
   ·exact hxs z hz
   ·obtain ⟨y,hy,rfl⟩:=List.mem_map.1 hz
    exact hb y (List.mem_filter.1 hy).1
  (repeat'(first|(first|refine sx_nil ?_|fail);try replace F:=F.filt zk129 rfl|refine zn1 F M ?_;clear F M a;(try clear w);intro a w F M|((first|refine svC F M ?_|fail);(((refine acCall (k:=39) ?_);(refine Spec.of_reads (ha hall (gs_own pullA)) rfl ?_)));(first|clear F M a;intro a w F M|fail))|refine zT F ?_|((with_reducible refine isK ?_);refine svB F ?_ ?_<;>intro hc<;>try exact no hc)|refine zY ?_;go_step|fail))
  all_goals exact zX F M
include hg hlen hfk in
theorem idxV_spec (caps:Array Value) (A:Asn) (hcl:∀ x∈V,∀ R,Spec c (valV x::caps.toList) (A::R) fun u L'=>u=.bool (p x)∧L'=A::R) :
  Spec 247 [v,.func (.func c) #[] caps] (A::R) fun u L'=>u=.int .i64 (idxP p V 0)∧L'=A::R:=by
 generalize hX:idxP p V 0=X
 (intro G w M;refine sx_enter (vs:=([v,.func (.func c) #[] caps]:List Value)) Tryz.func247 (n:=19) rfl rfl rfl rfl ?_;intro a F;(try simp only[zc,zn] at M))
 have hG:GS (R++G) 7 v V.length (V.flatMap valL):=Gives.app hg
 (repeat'(first|(first|refine sx_nil ?_|fail);try replace F:=F.filt zk36 rfl|refine zn1 F M ?_;clear F M a;(try clear w);intro a w F M|refine zT F ?_|refine zY ?_;go_step|fail))
 refine svLoop F M (0:Nat) (fun k=>[(8,.int .i64 k)]) (fun _=>[]) (fun k=>k≤V.length∧idxP p (V.drop k) k=X) (fun k=>V.length - k) [5] ⟨by omega,by simpa using hX⟩ ?_
 (rintro k ⟨q1,q2⟩ a w F M;(try simp only[zc,zn] at F M q1 q2 ⊢))
 by_cases hlt:k<V.length
 ·obtain ⟨x,hx⟩:∃ x,V[k]? = some x:=⟨V[k],by simp[hlt]⟩
  rw[drop_cons hx,idxP] at q2
  have hs:=hcl x (List.mem_of_getElem? hx)
  cases hp:p x
  all_goals rw[hp] at hs q2
  ·(repeat'(first|(first|refine sx_nil ?_|fail);try replace F:=F.filt zk36 rfl|refine zn1 F M ?_;clear F M a;(try clear w);intro a w F M|((first|refine svC F M ?_|fail);(((refine acK (k:=c) (hs _) ?_);rintro u L' ⟨rfl,rfl⟩));(first|clear F M a;intro a w F M|fail))|refine zT F ?_|((with_reducible refine isK ?_);refine svB F ?_ ?_<;>intro hc<;>try exact no hc)|refine zY ?_;go_step|fail))
   refine sv_again F M (k+1) kpA permsA ⟨by omega,by simpa using q2⟩ (by omega)
  ·simp only[if_true] at q2
   (repeat'(first|(first|refine sx_nil ?_|fail);try replace F:=F.filt zk36 rfl|refine zn1 F M ?_;clear F M a;(try clear w);intro a w F M|((first|refine svC F M ?_|fail);(((refine acK (k:=c) (hs _) ?_);rintro u L' ⟨rfl,rfl⟩));(first|clear F M a;intro a w F M|fail))|refine zT F ?_|((with_reducible refine isK ?_);refine svB F ?_ ?_<;>intro hc<;>try exact no hc)|refine zY ?_;go_step|fail))
   (all_goals(refine zE F M ?_;exact⟨_,_,rfl,⟨by rw[← q2];rfl,rfl⟩,M.perms permsA⟩))
 ·rw[List.drop_of_length_le (by omega)] at q2
  simp only[idxP] at q2
  (repeat'(first|(first|refine sx_nil ?_|fail);try replace F:=F.filt zk36 rfl|refine zn1 F M ?_;clear F M a;(try clear w);intro a w F M|refine zT F ?_|((with_reducible refine isK ?_);refine svB F ?_ ?_<;>intro hc<;>try exact no hc)|refine zY ?_;go_step|fail))
  (all_goals(refine zE F M ?_;exact⟨_,_,rfl,⟨by rw[← q2];rfl,rfl⟩,M.perms permsA⟩))
theorem idxP_any (p:Val→Bool) (V:List Val):decide (0≤idxP p V 0)=V.any p:=by
 rcases idxP_spec p V 0 with⟨h1,h2⟩|⟨i,x,h1,h2,h3,h4⟩
 ·rw[h1,List.any_eq_false.2 fun x hx=>by rw[h2 x hx];decide];rfl
 ·rw[h2,List.any_eq_true.2 ⟨x,List.mem_of_getElem? h1,h4⟩];simp
include hg hlen hfk in
theorem conV_spec (caps:Array Value) (A:Asn) (hcl:∀ x∈V,∀ R,Spec c (valV x::caps.toList) (A::R) fun u L'=>u=.bool (p x)∧L'=A::R) :
  Spec 186 [v,.func (.func c) #[] caps] (A::R) fun u L'=>u=.bool (V.any p)∧L'=A::R:=by
 have hi:=fun (R:List Asn) hg=>idxV_spec c p V v R hg hlen caps A hcl
 (intro G w M;refine sx_enter (vs:=([v,.func (.func c) #[] caps]:List Value)) Tryz.func186 (n:=9) rfl rfl rfl rfl ?_;intro a F;(try simp only[zc,zn] at M))
 have hG:GS (R++G) 7 v V.length (V.flatMap valL):=Gives.app hg
 (repeat'(first|(first|refine sx_nil ?_|fail);try replace F:=F.filt zk43 rfl|refine zn1 F M ?_;clear F M a;(try clear w);intro a w F M|((first|refine svC F M ?_|fail);(((refine acK (k:=247) (hi _ hG) ?_);rintro u L' ⟨rfl,rfl⟩));(first|clear F M a;intro a w F M|fail))|refine zT F ?_|refine zY ?_;go_step|fail))
 (all_goals(refine zE F M ?_;exact⟨_,_,rfl,⟨by rw[← idxP_any];rfl,rfl⟩,M.perms permsA⟩))
include hfk in
theorem allN_spec (b:Nat) (caps:Array Value) (A:Asn) (x:Val) (hcl:∀ R,Spec c (valV x::caps.toList) (A::R) fun u L'=>u=.bool (p x)∧L'=A::R) (R:List Asn) :
  Spec 187 [valV x,ptr b] (allA c b caps A::R) fun u L'=>u=.bool (!p x)∧L'=allA c b caps A::R:=by
 intro G w M
 have M2:=allA_open c (L:=R++G) M;clear M;have M:=M2;clear M2
 (refine sx_enter (vs:=([valV x,ptr b]:List Value)) Tryz.func187 (n:=8) rfl rfl rfl rfl ?_;intro a F;(try simp only[zc,zn] at M))
 (repeat'(first|(first|refine sx_nil ?_|fail);try replace F:=F.filt zk66 rfl|refine zn1 F M ?_;clear F M a;(try clear w);intro a w F M|refine sv2 F M ?_;clear F M a;intro nb a w F M|((first|refine svC F M ?_|fail);(((refine acK (k:=c) (hcl _) ?_);rintro u L' ⟨rfl,rfl⟩));(first|clear F M a;intro a w F M|fail))|refine zT F ?_|refine zY ?_;go_step|fail))
 all_goals refine zE F M ?_
 exact⟨_,_,rfl,⟨rfl,rfl⟩,allA_close c (M.perms permsA)⟩
include hg hlen hfk in
theorem all_spec (caps:Array Value) (A:Asn) (hcl:∀ x∈V,∀ R,Spec c (valV x::caps.toList) (A::R) fun u L'=>u=.bool (p x)∧L'=A::R) :
  Spec 118 [v,.func (.func c) #[] caps] (A::R) fun u L'=>u=.bool (V.all p)∧L'=A::R:=by
 (intro G w M;refine sx_enter (vs:=([v,.func (.func c) #[] caps]:List Value)) Tryz.func118 (n:=9) rfl rfl rfl rfl ?_;intro a F;(try simp only[zc,zn] at M))
 have hG:GS (R++G) 7 v V.length (V.flatMap valL):=Gives.app hg
 (repeat'(first|(first|refine sx_nil ?_|fail);try replace F:=F.filt zk121 rfl|refine zn1 F M ?_;clear F M a;(try clear w);intro a w F M|refine sv2 F M ?_;clear F M a;intro nb a w F M|refine zT F ?_|refine zY ?_;go_step|fail))
 have M2:=allA_close c M;clear M;have M:=M2;clear M2
 have hi:=fun (R:List Asn) hg=>conV_spec 187 (fun x=>!p x) V v R hg hlen #[ptr nb] (allA c nb caps A) fun x hx R=>allN_spec c p nb caps A x (hcl x hx) R
 (repeat'(first|(first|refine sx_nil ?_|fail);try replace F:=F.filt zk121 rfl|refine zn1 F M ?_;clear F M a;(try clear w);intro a w F M|((first|refine svC F M ?_|fail);(((refine acK (k:=186) (hi _ hG) ?_);rintro u L' ⟨rfl,rfl⟩));(first|clear F M a;intro a w F M|fail))|refine zY ?_;go_step|fail))
 all_goals refine zE F M ?_
 have M:=allA_open c (M.perms (permsA:Perms _ (allA c nb caps A::(R++G))))
 refine⟨_,_,rfl,⟨?_,rfl⟩,M.perms permsA⟩
 simp[tupOf,List.all_eq_not_any_not]
end
end
def zk130:List Nat:=[0,1,2,6,7,9,10,11,12,15,16,17,18,26,27,28,29,35,40]
section
open Go.RowKit Go.Maps
def CntOf (P:List (Value × Value)) (xs:List Int):Prop:=(∀ p∈P,∃ i,i∈xs∧p=(.int .i64 i,.int .i64 (xs.count i:Nat)))∧∀ i∈xs,(Value.int .i64 i,Value.int .i64 (xs.count i:Nat))∈P
theorem CntOf.nil:CntOf [] []:=⟨by simp,by simp⟩
theorem CntOf.vals {P:List (Value × Value)} {xs:List Int} (h:CntOf P xs):∀ p∈P,∃ v,p.2=.int .i64 v:=fun p hp=>by
 obtain ⟨i,_,rfl⟩:=h.1 p hp
 exact⟨_,rfl⟩
theorem CntOf.miss {P:List (Value × Value)} {xs:List Int} (h:CntOf P xs) {i:Int} (hi:i∉xs):∀ p∈P,p.1≠.int .i64 i:=fun p hp e=>by
 obtain ⟨j,hj,rfl⟩:=h.1 p hp
 simp at e
 exact hi (e ▸ hj)
theorem CntOf.new {P:List (Value × Value)} {xs:List Int} (h:CntOf P xs) {i:Int} (hi:i∉xs):CntOf ((.int .i64 i,.int .i64 1)::P) (xs++[i]):=by
 have hc:xs.count i=0:=List.count_eq_zero.2 hi
 refine⟨fun p hp=>?_,fun j hj=>?_⟩
 ·rcases List.mem_cons.1 hp with rfl|hp
  ·exact⟨i,by simp,by simp[List.count_append,hc]⟩
  ·obtain ⟨j,hj,rfl⟩:=h.1 p hp
   have hne:¬i=j:=fun e=>hi (e ▸ hj)
   exact⟨j,by simp[hj],by simp[List.count_append,List.count_cons,hne]⟩
 ·rcases List.mem_append.1 hj with hj|hj
  ·have hne:¬i=j:=fun e=>hi (e ▸ hj)
   refine List.mem_cons_of_mem _ ?_
   have:=h.2 j hj
   simpa[List.count_append,List.count_cons,hne] using this
  ·obtain rfl:j=i:=by simpa using hj
   simp[List.count_append,hc]
theorem CntOf.upd {P:List (Value × Value)} {xs:List Int} (h:CntOf P xs) {i:Int} (hi:i∈xs):CntOf (updP i (.int .i64 ((xs.count i:Nat)+1:Int)) P) (xs++[i]):=by
 refine⟨fun p hp=>?_,fun j hj=>?_⟩
 ·obtain ⟨q,hq,rfl⟩:=List.mem_map.1 hp
  obtain ⟨j,hj,rfl⟩:=h.1 q hq
  by_cases hji:j=i
  ·subst hji
   rw[updF_hit]
   exact⟨j,by simp,by simp[List.count_append]⟩
  ·rw[updF_miss (by simp[hji])]
   exact⟨j,by simp[hj],by simp[List.count_append,List.count_cons,Ne.symm hji]⟩
 ·by_cases hji:j=i
  ·subst hji
   refine List.mem_map.2 ⟨_,h.2 j hi,?_⟩
   rw[updF_hit]
   simp[List.count_append]
  ·have hj':j∈xs:=by
    rcases List.mem_append.1 hj with h|h
    ·exact h
    ·exact absurd (by simpa using h) hji
   refine List.mem_map.2 ⟨_,h.2 j hj',?_⟩
   rw[updF_miss (by simp[hji])]
   simp[List.count_append,List.count_cons,Ne.symm hji]
theorem count_filter_ne {i j:Int} (h:j≠i) (xs:List Int):(xs.filter (fun z=>decide (z≠i))).count j=xs.count j:=by
 rw[List.count_filter (by simp[h])]
theorem CntOf.del {P:List (Value × Value)} {xs:List Int} (h:CntOf P xs) (i:Int):CntOf (delP i P) (xs.filter fun z=>decide (z≠i)):=by
 refine⟨fun p hp=>?_,fun j hj=>?_⟩
 ·obtain ⟨hp1,hp2⟩:=List.mem_filter.1 hp
  obtain ⟨j,hj,rfl⟩:=h.1 p hp1
  have hji:j≠i:=fun e=>by subst e;simp[isInt] at hp2
  exact⟨j,List.mem_filter.2 ⟨hj,by simp[hji]⟩,by rw[count_filter_ne hji]⟩
 ·obtain ⟨hj1,hj2⟩:=List.mem_filter.1 hj
  have hji:j≠i:=by simpa using hj2
  refine List.mem_filter.2 ⟨by rw[count_filter_ne hji];exact h.2 j hj1,by simp[isInt,hji]⟩
theorem CntOf.len {P:List (Value × Value)} {xs:List Int} (h:CntOf P xs):P.length=0↔xs=[]:=by
 constructor
 ·intro hp
  cases xs with
  | nil=>rfl
  | cons x xs =>
   have:=h.2 x (by simp)
   rw[List.length_eq_zero_iff.1 hp] at this
   cases this
 ·rintro rfl
  cases P with
  | nil=>rfl
  | cons p P=>obtain ⟨i,hi,_⟩:=h.1 p (by simp);cases hi
def onceGo (p:Val→Bool):List Val→Nat→List Int→Bool
 | [],_,q=>decide (q=[])
 | v::V,i,q=>decide ((q.count (i:Int):Int)=if p v=true then 1 else 0) && onceGo p V (i+1) (q.filter fun z=>decide (z≠(i:Int)))
section
variable (c:FuncId) [hfk:FK c] (p:Val→Bool) (V:List Val) (v:Value) (R:List Asn) (hg:GS R 7 v V.length (V.flatMap valL)) (hlen:V.length≤1000000)
include hg hlen hfk in
theorem once_spec (hcl:∀ x∈V,∀ R,Spec c [valV x] R fun u L'=>u=.bool (p x)∧L'=R) (hq:SlH) (Q:List (SlH × List Int)) (hl:(catQ Q).length≤1000000) (hn:Q.length≤1000) (hi:∀ z∈catQ Q,I64 z) (hG:∀ p∈Q,GS R 1 (sl p.1) p.2.length (p.2.flatMap intL)) :
  Spec 113 [v,.func (.func c) #[] #[],sl hq] (ownT 24 shL 1 (sl hq) (qsL Q)::R) fun u L'=>u=.bool (onceGo p V 0 (catQ Q))∧L'=R:=by
 generalize hX:onceGo p V 0 (catQ Q)=X
 (intro G w M;refine sx_enter (vs:=([v,.func (.func c) #[] #[],sl hq]:List Value)) Tryz.func113 (n:=47) rfl rfl rfl rfl ?_;intro a F;(try simp only[zc,zn] at M))
 have hG0:GS (R++G) 7 v V.length (V.flatMap valL):=Gives.app hg
 have hG':∀ p∈Q,GS (R++G) 1 (sl p.1) p.2.length (p.2.flatMap intL):=fun p hp=>Gives.app (hG p hp)
 (repeat'(first|(first|refine sx_nil ?_|fail);try replace F:=F.filt zk130 rfl|refine zn1 F M ?_;clear F M a;(try clear w);intro a w F M|((first|refine svC F M ?_|fail);((first|(apply ac_makeMap;(exact rfl);(exact inferInstance);intro nm)|((refine acK (k:=185) (concatI_spec hq Q hl hn (mp nm 3 []::(R++G)) (fun p hp=>GS.tail (hG' p hp))) ?_);rintro u L' ⟨hc,rfl,rfl⟩)));(first|clear F M a;intro a w F M|fail))|refine zT F ?_|refine zY ?_;go_step|fail))
 generalize catQ Q=q at *
 refine svLoop F M ((0,[]):Nat × List (Value × Value)) (fun s=>[(17,.int .i64 s.1)]) (fun s=>[mp nm 3 s.2]) (fun s=>s.1≤q.length∧CntOf s.2 (q.take s.1)) (fun s=>q.length - s.1) [9] ⟨Nat.zero_le _,CntOf.nil⟩ ?_
 (rintro⟨k,P⟩ ⟨q1,q2⟩ a w F M;(try simp only[zc,zn] at F M q1 q2 ⊢))
 by_cases hlt:k<q.length
 ·obtain ⟨z,hz⟩:∃ z,q[k]? = some z:=⟨q[k],by simp[hlt]⟩
  have hst:=hi z (List.mem_of_getElem? hz)
  have ht:q.take (k+1)=q.take k++[z]:=by rw[List.take_add_one,hz];rfl
  have hcl2:(q.take k).count z≤1000000:=Nat.le_trans List.count_le_length (by rw[List.length_take];omega)
  by_cases hm:z∈q.take k
  ·have hin:=q2.2 z hm
   (repeat'(first|((first|refine sv1 F M (h:=?_) (hr:=by((first|(apply rt_hit1;(exact rfl);(exact rfl);(exact rfl);(exact inferInstance);(exact gives_mp pullA);(exact intKey hst);(exact hin))|fail)))|fail);(try(clear F a;intro a F)))|(first|refine sx_nil ?_|fail);try replace F:=F.filt zk130 rfl|refine zn1 F M ?_;clear F M a;(try clear w);intro a w F M|((first|refine svC0 F M ?_|fail);((first|(apply ac_mapHit;(exact rfl);(exact rfl);(exact rfl);(exact rfl);(exact inferInstance);(exact intKey hst);(focus ((repeat (first|exact Rep.here|fail));done));(exact hin))|fail));(clear M;intro w M))|refine zT F ?_|((with_reducible refine isK ?_);refine svB F ?_ ?_<;>intro hc<;>try exact no hc)|refine zY ?_;go_step|fail))
   refine sv_again F M (k+1,_) kpA permsA ⟨by simp only;omega,?_⟩ (by simp only;omega)
   rw[ht];exact q2.upd hm
  ·have hno:=q2.miss hm
   (repeat'(first|((first|refine sv1 F M (h:=?_) (hr:=by(((apply rt_miss1;(exact rfl);(exact rfl);(exact rfl);(exact inferInstance);(exact gives_mp pullA);(exact intKey hst);(exact hno);(exact inferInstance)))))|fail);(try(clear F a;intro a F)))|(first|refine sx_nil ?_|fail);try replace F:=F.filt zk130 rfl|refine zn1 F M ?_;clear F M a;(try clear w);intro a w F M|((first|refine svC0 F M ?_|fail);(((refine ac_mapNew rfl rfl rfl rfl inferInstance (intKey hst) (by(focus ((repeat (first|exact Rep.here|fail));done))) hno (List.Perm.refl _) ?_)));(clear M;intro w M))|refine zT F ?_|((with_reducible refine isK ?_);refine svB F ?_ ?_<;>intro hc<;>try exact no hc)|refine zY ?_;go_step|fail))
   refine sv_again F M (k+1,_) kpA permsA ⟨by simp only;omega,?_⟩ (by simp only;omega)
   rw[ht];exact q2.new hm
 ·obtain rfl:k=q.length:=by omega
  rw[List.take_length] at q2
  (repeat'(first|(first|refine sx_nil ?_|fail);try replace F:=F.filt zk130 rfl|refine zn1 F M ?_;clear F M a;(try clear w);intro a w F M|refine zT F ?_|((with_reducible refine isK ?_);refine svB F ?_ ?_<;>intro hc<;>try exact no hc)|refine zY ?_;go_step|fail))
  refine svLoop F M ((0,P,q):Nat × List (Value × Value) × List Int) (fun s=>[(28,.int .i64 s.1)]) (fun s=>[mp nm 3 s.2.1]) (fun s=>s.1≤V.length∧CntOf s.2.1 s.2.2∧onceGo p (V.drop s.1) s.1 s.2.2=X∧s.2.2.length≤1000000) (fun s=>V.length - s.1) [10,11,12] ⟨Nat.zero_le _,q2,by simpa using hX,hl⟩ ?_
  (rintro⟨k,P,y⟩ ⟨q1,q2,q3,q4⟩ a w F M;(try simp only[zc,zn] at F M q1 q2 q3 q4 ⊢))
  by_cases hlt:k<V.length
  ·obtain ⟨x,hx⟩:∃ x,V[k]? = some x:=⟨V[k],by simp[hlt]⟩
   have hs:=hcl x (List.mem_of_getElem? hx)
   have hst:I64 (k:Int):=⟨by omega,by omega⟩
   have hcl2:y.count (k:Int)≤1000000:=Nat.le_trans List.count_le_length q4
   rw[drop_cons hx,onceGo] at q3
   have hq4:(y.filter fun z=>decide (z≠(k:Int))).length≤1000000:=Nat.le_trans (List.length_filter_le _ _) q4
   have hdel:=q2.del (k:Int)
   by_cases hm:(k:Int)∈y
   ·have hin:=q2.2 _ hm
    cases hp:p x
    all_goals rw[hp] at hs q3
    all_goals(repeat'(first|((first|refine sv1 F M (h:=?_) (hr:=by((first|(apply rt_hit1;(exact rfl);(exact rfl);(exact rfl);(exact inferInstance);(exact gives_mp pullA);(exact intKey hst);(exact hin))|fail)))|fail);(try(clear F a;intro a F)))|(first|refine sx_nil ?_|fail);try replace F:=F.filt zk130 rfl|refine zn1 F M ?_;clear F M a;(try clear w);intro a w F M|refine sv2 F M ?_;clear F M a;intro nb a w F M|((first|refine svC F M ?_|refine svC0 F M ?_|fail);((first|((refine acW (k:=c) (hs _) ?_);rintro u L' ⟨rfl,rfl⟩)|(refine ac_mapDel rfl rfl rfl rfl inferInstance rfl (intKey hst) (by(focus ((repeat (first|exact Rep.here|apply Rep.there));done))) ?_)));(first|clear F M a;intro a w F M|clear M;intro w M))|refine zT F ?_|((with_reducible refine isK ?_);refine svB F ?_ ?_<;>intro hc<;>try exact no hc)|refine zY ?_;go_step|fail))
    all_goals first
     | (refine zE F M ?_;refine⟨_,_,rfl,⟨?_,rfl⟩,M.perms permsA⟩;rw[← q3];simp_all [tupOf];done)
     | (refine sv_again F M (k+1,_,y.filter fun z=>decide (z≠(k:Int))) kpA permsA ⟨by simp only;omega,hdel,by simp_all,hq4⟩ (by simp only;omega))
   ·have hno:=q2.miss hm
    have hc0:y.count (k:Int)=0:=List.count_eq_zero.2 hm
    cases hp:p x
    all_goals rw[hp] at hs q3
    all_goals(repeat'(first|((first|refine sv1 F M (h:=?_) (hr:=by(((apply rt_miss1;(exact rfl);(exact rfl);(exact rfl);(exact inferInstance);(exact gives_mp pullA);(exact intKey hst);(exact hno);(exact inferInstance)))))|fail);(try(clear F a;intro a F)))|(first|refine sx_nil ?_|fail);try replace F:=F.filt zk130 rfl|refine zn1 F M ?_;clear F M a;(try clear w);intro a w F M|refine sv2 F M ?_;clear F M a;intro nb a w F M|((first|refine svC F M ?_|refine svC0 F M ?_|fail);((first|((refine acW (k:=c) (hs _) ?_);rintro u L' ⟨rfl,rfl⟩)|(refine ac_mapDel rfl rfl rfl rfl inferInstance rfl (intKey hst) (by(focus ((repeat (first|exact Rep.here|apply Rep.there));done))) ?_)));(first|clear F M a;intro a w F M|clear M;intro w M))|refine zT F ?_|((with_reducible refine isK ?_);refine svB F ?_ ?_<;>intro hc<;>try exact no hc)|refine zY ?_;go_step|fail))
    all_goals first
     | (refine zE F M ?_;refine⟨_,_,rfl,⟨?_,rfl⟩,M.perms permsA⟩;rw[← q3];simp_all [tupOf];done)
     | (refine sv_again F M (k+1,_,y.filter fun z=>decide (z≠(k:Int))) kpA permsA ⟨by simp only;omega,hdel,by simp_all,hq4⟩ (by simp only;omega))
  ·obtain rfl:k=V.length:=by omega
   rw[List.drop_length] at q3
   (repeat'(first|((first|refine sv1 F M (h:=?_) (hr:=by((apply rt_lenM;(exact rfl);(exact rfl);(exact rfl);(exact inferInstance);(exact gives_mp pullA))))|fail);(try(clear F a;intro a F)))|(first|refine sx_nil ?_|fail);try replace F:=F.filt zk130 rfl|refine zn1 F M ?_;clear F M a;(try clear w);intro a w F M|refine zT F ?_|((with_reducible refine isK ?_);refine svB F ?_ ?_<;>intro hc<;>try exact no hc)|refine zY ?_;go_step|fail))
   all_goals refine zE F M ?_
   refine⟨_,_,rfl,⟨?_,rfl⟩,M.perms permsA⟩
   rw[← q3]
   have hl:=q2.len
   simp[tupOf,onceGo,← hl]
end
end
def zk131:List Nat:=[0,1,2,4,5,6]
def zk132:List Nat:=[0,1,2,3,4,5,6]
def zk133:List Nat:=[0,1,2,4]
section
open Go.RowKit
structure SnD where
 V:List Val
 pe:List Int
 fo:List Int
 vo:List Int
 nM:Nat
 nQ:Nat
structure AuOK (R:List Asn) (x:Sn) (d:SnD) (c:Cfg):Prop where
 gV:GS R 7 (sl x.hV) d.V.length (d.V.flatMap valL)
 gP:GS R 1 (sl x.hP) d.pe.length (d.pe.flatMap intL)
 gF:GS R 1 (sl x.hF) d.fo.length (d.fo.flatMap intL)
 gO:GS R 1 (sl x.hO) d.vo.length (d.vo.flatMap intL)
 gM:∃ cs,GS R 2 (sl x.hM) d.nM cs
 gQ:∃ cs,GS R 2 (sl x.hQ) d.nQ cs
 lV:d.V.length≤1000000
 lP:d.pe.length≤400000
 lF:d.fo.length≤400000
 lO:d.vo.length≤400000
 bal:∀ v∈d.V,U64 v.bal
 ep:∀ v∈d.V,epR v
 iP:∀ z∈d.pe,I64 z
 iF:∀ z∈d.fo,I64 z
 iO:∀ z∈d.vo,I64 z
 pd:U64 x.pd
 bu:U64 x.bu
 bk:I64 x.bk
 el:1≤c.epochLen
theorem AuOK.app {R:List Asn} {x:Sn} {d:SnD} {c:Cfg} (h:AuOK R x d c) (G:List Asn):AuOK (R++G) x d c :=
 {h with gV:=Gives.app h.gV,gP:=Gives.app h.gP,gF:=Gives.app h.gF,gO:=Gives.app h.gO,gM:=h.gM.imp fun _ h=>Gives.app h,gQ:=h.gQ.imp fun _ h=>Gives.app h}
theorem AuOK.tail {R:List Asn} {x:Sn} {d:SnD} {c:Cfg} (h:AuOK R x d c) (A:Asn):AuOK (A::R) x d c :=
 {h with gV:=GS.tail h.gV,gP:=GS.tail h.gP,gF:=GS.tail h.gF,gO:=GS.tail h.gO,gM:=h.gM.imp fun _ h=>GS.tail h,gQ:=h.gQ.imp fun _ h=>GS.tail h}
def mxI (x y:Int):Int:=if y>x then y else x
def isR (l:List Int) (x:Int):Bool:=(addR l).2 && decide ((addR l).1=x)
def rule1 (x:Sn) (d:SnD) (c:Cfg):Bool:=decide ((d.V.length:Int)≤c.capacity)
def rule2 (x:Sn) (d:SnD) (c:Cfg):Bool:=isR ([x.pd,x.bu]++bals d.V) x.dep
def rule3 (x:Sn) (d:SnD) (c:Cfg):Bool:=(addR (bals d.V)).2 && decide ((addR (bals d.V)).1≤c.supplyCap)
def rule4 (x:Sn) (d:SnD) (c:Cfg):Bool:=isR (bals (d.V.filter Val.live)) x.ac
def rule5 (x:Sn) (d:SnD) (c:Cfg):Bool:=onceGo pPend d.V 0 d.pe
def rule6 (x:Sn) (d:SnD) (c:Cfg):Bool:=onceGo pExit d.V 0 (d.fo++d.vo)
def rule7 (x:Sn) (d:SnD) (c:Cfg):Bool:=d.V.all (pEpo c.unbonding)
def rule8 (x:Sn) (d:SnD) (c:Cfg):Bool:=d.V.all pEmp
def rule9 (x:Sn) (d:SnD) (c:Cfg):Bool:=decide (((d.V.filter pBond).length:Int)=x.un)
def rule10 (x:Sn) (d:SnD) (c:Cfg):Bool:=decide (mxI (mxI (mxI (mxI d.pe.length d.fo.length) d.vo.length) d.nM) d.nQ≤c.queueSize)
def rule11 (x:Sn) (d:SnD) (c:Cfg):Bool:=decide (0≤x.bk) && decide (x.ep=x.bk / c.epochLen)
def rule12 (x:Sn) (d:SnD) (c:Cfg):Bool:=d.V.all pSla
theorem filter_true (V:List Val):V.filter (fun _=>true)=V:=by simp
section
variable (x:Sn) (d:SnD) (c:Cfg) (R:List Asn) (h:AuOK R x d c)
include h in
theorem rule1_spec:Spec 104 [snV x,cfgV c] R fun u L'=>u=.bool (rule1 x d c)∧L'=R:=by
 (intro G w M;refine sx_enter (vs:=([snV x,cfgV c]:List Value)) Tryz.func104 (n:=11) rfl rfl rfl rfl ?_;intro a F;(try simp only[zc,zn] at M))
 (have hh:=h.app G;have gV:=hh.gV;have gP:=hh.gP;have gF:=hh.gF;have gO:=hh.gO;have gM:=hh.gM;have gQ:=hh.gQ;obtain ⟨cM,gM⟩:=gM;obtain ⟨cQ,gQ⟩:=gQ)
 (repeat'(first|(first|refine sx_nil ?_|fail);try replace F:=F.filt zk95 rfl|refine zn1 F M ?_;clear F M a;(try clear w);intro a w F M|refine sv2 F M ?_;clear F M a;intro nb a w F M|refine zT F ?_|refine zY ?_;go_step|fail))
 all_goals exact zX F M
include h in
theorem rule2_spec:Spec 105 [snV x,cfgV c] R fun u L'=>u=.bool (rule2 x d c)∧L'=R:=by
 (intro G w M;refine sx_enter (vs:=([snV x,cfgV c]:List Value)) Tryz.func105 (n:=25) rfl rfl rfl rfl ?_;intro a F;(try simp only[zc,zn] at M))
 (have hh:=h.app G;have gV:=hh.gV;have gP:=hh.gP;have gF:=hh.gF;have gO:=hh.gO;have gM:=hh.gM;have gQ:=hh.gQ;obtain ⟨cM,gM⟩:=gM;obtain ⟨cQ,gQ⟩:=gQ)
 have hs:=fun (R:List Asn) hg hh=>sum_spec 107 (fun _=>true) d.V (sl x.hV) R hg h.lV (fun y _ R=>each_spec y R) h.bal hh [x.pd,x.bu] (by simp;exact⟨h.pd,h.bu⟩) (by simp)
 simp only[filter_true] at hs
 (repeat'(first|(first|refine sx_nil ?_|fail);try replace F:=F.filt zk131 rfl|refine zn1 F M ?_;clear F M a;(try clear w);intro a w F M|refine sv2 F M ?_;clear F M a;intro nb a w F M|((first|refine svC F M ?_|fail);(((refine acK (k:=106) (hs _ ?_ ⟨some ⟨nb,0,none⟩,2,2⟩) ?_);(exact gsA);rintro u L' ⟨rfl,rfl⟩));(first|clear F M a;intro a w F M|fail))|refine zh F ?_ ?_<;>(intro hg;rw[hg] at F;try exact no hg)|refine zT F ?_|refine zY ?_;go_step|fail))
 all_goals refine zE F M ?_
 all_goals exact⟨_,_,rfl,⟨by unfold rule2 isR bals;rw[hg];rfl,rfl⟩,M.perms permsA⟩
include h in
theorem sumN_spec (f:FuncId) [FK f] (p:Val→Bool) (hcl:∀ x∈d.V,∀ R,Spec f [valV x] R fun u L'=>u=.bool (p x)∧L'=R):Spec 106 [sl x.hV,.func (.func f) #[] #[],.slice none 0 0] R fun u L'=>u=.tuple [.int .u64 (addR ((d.V.filter p).map (·.bal))).1,.bool (addR ((d.V.filter p).map (·.bal))).2].toArray∧L'=R:=fun G w M=>by
 refine(sum_spec f p d.V (sl x.hV) R h.gV h.lV hcl h.bal ⟨none,0,0⟩ [] (by simp) (by simp) G w (M.own_nil 23 1)).mono ?_
 rintro e w' ⟨u,L',h1,⟨h2,h3⟩,h4⟩
 exact⟨u,L',h1,⟨by simpa using h2,h3⟩,h4⟩
include h in
theorem rule3_spec:Spec 108 [snV x,cfgV c] R fun u L'=>u=.bool (rule3 x d c)∧L'=R:=by
 (intro G w M;refine sx_enter (vs:=([snV x,cfgV c]:List Value)) Tryz.func108 (n:=20) rfl rfl rfl rfl ?_;intro a F;(try simp only[zc,zn] at M))
 have hh:=h.app G
 have hs:=fun (R:List Asn) (h:AuOK R x d c)=>sumN_spec x d c R h 107 (fun _=>true) (fun y _ R=>each_spec y R)
 simp only[filter_true] at hs
 (repeat'(first|(first|refine sx_nil ?_|fail);try replace F:=F.filt zk132 rfl|refine zn1 F M ?_;clear F M a;(try clear w);intro a w F M|refine sv2 F M ?_;clear F M a;intro nb a w F M|((first|refine svC F M ?_|fail);(((refine acW (k:=106) (hs _ ?_) ?_);(exact(hh.tail _).tail _);rintro u L' ⟨rfl,rfl⟩));(first|clear F M a;intro a w F M|fail))|refine zh F ?_ ?_<;>(intro hg;rw[hg] at F;try exact no hg)|refine zT F ?_|refine zY ?_;go_step|fail))
 all_goals refine zE F M ?_
 all_goals exact⟨_,_,rfl,⟨by unfold rule3 bals;rw[hg];rfl,rfl⟩,M.perms permsA⟩
include h in
theorem rule4_spec:Spec 109 [snV x,cfgV c] R fun u L'=>u=.bool (rule4 x d c)∧L'=R:=by
 (intro G w M;refine sx_enter (vs:=([snV x,cfgV c]:List Value)) Tryz.func109 (n:=20) rfl rfl rfl rfl ?_;intro a F;(try simp only[zc,zn] at M))
 have hh:=h.app G
 have hs:=fun (R:List Asn) (h:AuOK R x d c)=>sumN_spec x d c R h 110 Val.live (fun y _ R=>cLive_spec y R)
 (repeat'(first|(first|refine sx_nil ?_|fail);try replace F:=F.filt zk131 rfl|refine zn1 F M ?_;clear F M a;(try clear w);intro a w F M|refine sv2 F M ?_;clear F M a;intro nb a w F M|((first|refine svC F M ?_|fail);(((refine acW (k:=106) (hs _ ?_) ?_);(exact(hh.tail _).tail _);rintro u L' ⟨rfl,rfl⟩));(first|clear F M a;intro a w F M|fail))|refine zh F ?_ ?_<;>(intro hg;rw[hg] at F;try exact no hg)|refine zT F ?_|refine zY ?_;go_step|fail))
 all_goals refine zE F M ?_
 all_goals exact⟨_,_,rfl,⟨by unfold rule4 isR bals;rw[hg];rfl,rfl⟩,M.perms permsA⟩
include h in
theorem rule5_spec:Spec 112 [snV x,cfgV c] R fun u L'=>u=.bool (rule5 x d c)∧L'=R:=by
 (intro G w M;refine sx_enter (vs:=([snV x,cfgV c]:List Value)) Tryz.func112 (n:=11) rfl rfl rfl rfl ?_;intro a F;(try simp only[zc,zn] at M))
 have hh:=h.app G
 have hs:=fun (R:List Asn) (h:AuOK R x d c) hq=>once_spec 114 pPend d.V (sl x.hV) R h.gV h.lV (fun y _ R=>cPend_spec y R) hq [(x.hP,d.pe)] (by simp[catQ];have:=h.lP;omega) (by simp) (by simp[catQ];exact h.iP) (by simp;exact h.gP)
 (repeat'(first|(first|refine sx_nil ?_|fail);try replace F:=F.filt zk133 rfl|refine zn1 F M ?_;clear F M a;(try clear w);intro a w F M|refine sv2 F M ?_;clear F M a;intro nb a w F M|((first|refine svC F M ?_|fail);(((refine acK (k:=113) (hs _ ?_ ⟨some ⟨nb,0,none⟩,1,1⟩) ?_);(exact(hh.tail _).tail _);rintro u L' ⟨rfl,rfl⟩));(first|clear F M a;intro a w F M|fail))|refine zT F ?_|refine zY ?_;go_step|fail))
 all_goals refine zE F M ?_
 all_goals exact⟨_,_,rfl,⟨by simp[tupOf,rule5,catQ],rfl⟩,M.perms permsA⟩
include h in
theorem rule6_spec:Spec 115 [snV x,cfgV c] R fun u L'=>u=.bool (rule6 x d c)∧L'=R:=by
 (intro G w M;refine sx_enter (vs:=([snV x,cfgV c]:List Value)) Tryz.func115 (n:=13) rfl rfl rfl rfl ?_;intro a F;(try simp only[zc,zn] at M))
 have hh:=h.app G
 have hs:=fun (R:List Asn) (h:AuOK R x d c) hq=>once_spec 116 pExit d.V (sl x.hV) R h.gV h.lV (fun y _ R=>cExit_spec y R) hq [(x.hF,d.fo),(x.hO,d.vo)] (by simp[catQ];have:=h.lF;have:=h.lO;omega) (by simp) (by simp[catQ];rintro z (hz|hz);exact h.iF z hz;exact h.iO z hz) (by simp;exact⟨h.gF,h.gO⟩)
 (repeat'(first|(first|refine sx_nil ?_|fail);try replace F:=F.filt zk133 rfl|refine zn1 F M ?_;clear F M a;(try clear w);intro a w F M|refine sv2 F M ?_;clear F M a;intro nb a w F M|((first|refine svC F M ?_|fail);(((refine acK (k:=113) (hs _ ?_ ⟨some ⟨nb,0,none⟩,2,2⟩) ?_);(exact(hh.tail _).tail _);rintro u L' ⟨rfl,rfl⟩));(first|clear F M a;intro a w F M|fail))|refine zT F ?_|refine zY ?_;go_step|fail))
 all_goals refine zE F M ?_
 all_goals exact⟨_,_,rfl,⟨by simp[tupOf,rule6,catQ],rfl⟩,M.perms permsA⟩
end
end
def zd134:List ZR:=[⟨1,[],[],[],[0,1,2,3,4,5,6,7,8,9,10,11,12,13]⟩]
def zk135:List Nat:=[0,1,2,4,5,7,9,10,11,12,16]
section
open Go.RowKit
section
variable (x:Sn) (d:SnD) (c:Cfg) (R:List Asn) (h:AuOK R x d c)
include h in
theorem rule7_spec:Spec 117 [snV x,cfgV c] R fun u L'=>u=.bool (rule7 x d c)∧L'=R:=by
 (intro G w M;refine sx_enter (vs:=([snV x,cfgV c]:List Value)) Tryz.func117 (n:=9) rfl rfl rfl rfl ?_;intro a F;(try simp only[zc,zn] at M))
 have hh:=h.app G
 have hs:=fun (R:List Asn) (h:AuOK R x d c) b=>all_spec 119 (pEpo c.unbonding) d.V (sl x.hV) R h.gV h.lV #[ptr b] (pt b (cfgL c) 30) (fun y hy R=>cEpo_spec y c b (h.ep y hy) R)
 (repeat'(first|(first|refine sx_nil ?_|fail);try replace F:=F.filt zk95 rfl|refine zn1 F M ?_;clear F M a;(try clear w);intro a w F M|refine sv2 F M ?_;clear F M a;intro nb a w F M|((first|refine svC F M ?_|fail);(((refine acK (k:=118) (hs _ ?_ nb) ?_);(exact hh.tail _);rintro u L' ⟨rfl,rfl⟩));(first|clear F M a;intro a w F M|fail))|refine zT F ?_|refine zY ?_;go_step|fail))
 all_goals exact zX F M
include h in
theorem allF_spec (f:FuncId) [FK f] (p:Val→Bool) (hcl:∀ x∈d.V,∀ R,Spec f [valV x] R fun u L'=>u=.bool (p x)∧L'=R):Spec 118 [sl x.hV,.func (.func f) #[] #[]] R fun u L'=>u=.bool (d.V.all p)∧L'=R:=fun G w M=>by
 refine(all_spec f p d.V (sl x.hV) R h.gV h.lV #[] (factA True) (fun y hy R=>hcl y hy _) G w (M.fact trivial)).mono ?_
 rintro e w' ⟨u,L',h1,⟨h2,rfl⟩,h4⟩
 exact⟨u,_,h1,⟨h2,rfl⟩,h4.factO.2⟩
include h in
theorem rule8_spec:Spec 121 [snV x,cfgV c] R fun u L'=>u=.bool (rule8 x d c)∧L'=R:=by
 (intro G w M;refine sx_enter (vs:=([snV x,cfgV c]:List Value)) Tryz.func121 (n:=8) rfl rfl rfl rfl ?_;intro a F;(try simp only[zc,zn] at M))
 have hh:=h.app G
 have hs:=fun (R:List Asn) (h:AuOK R x d c)=>allF_spec x d c R h 122 pEmp (fun y _ R=>cEmp_spec y R)
 (repeat'(first|(first|refine sx_nil ?_|fail);try replace F:=F.filt zk133 rfl|refine zn1 F M ?_;clear F M a;(try clear w);intro a w F M|refine sv2 F M ?_;clear F M a;intro nb a w F M|((first|refine svC F M ?_|fail);(((refine acW (k:=118) (hs _ ?_) ?_);(exact(hh.tail _).tail _);rintro u L' ⟨rfl,rfl⟩));(first|clear F M a;intro a w F M|fail))|refine zT F ?_|refine zY ?_;go_step|fail))
 all_goals exact zX F M
include h in
theorem rule12_spec:Spec 128 [snV x,cfgV c] R fun u L'=>u=.bool (rule12 x d c)∧L'=R:=by
 (intro G w M;refine sx_enter (vs:=([snV x,cfgV c]:List Value)) Tryz.func128 (n:=8) rfl rfl rfl rfl ?_;intro a F;(try simp only[zc,zn] at M))
 have hh:=h.app G
 have hs:=fun (R:List Asn) (h:AuOK R x d c)=>allF_spec x d c R h 129 pSla (fun y _ R=>cSla_spec y R)
 (repeat'(first|(first|refine sx_nil ?_|fail);try replace F:=F.filt zk133 rfl|refine zn1 F M ?_;clear F M a;(try clear w);intro a w F M|refine sv2 F M ?_;clear F M a;intro nb a w F M|((first|refine svC F M ?_|fail);(((refine acW (k:=118) (hs _ ?_) ?_);(exact(hh.tail _).tail _);rintro u L' ⟨rfl,rfl⟩));(first|clear F M a;intro a w F M|fail))|refine zT F ?_|refine zY ?_;go_step|fail))
 all_goals exact zX F M
include h in
theorem rule10_spec:Spec 126 [snV x,cfgV c] R fun u L'=>u=.bool (rule10 x d c)∧L'=R:=by
 (intro G w M;refine sx_enter (vs:=([snV x,cfgV c]:List Value)) Tryz.func126 (n:=24) rfl rfl rfl rfl ?_;intro a F;(try simp only[zc,zn] at M))
 (have hh:=h.app G;have gV:=hh.gV;have gP:=hh.gP;have gF:=hh.gF;have gO:=hh.gO;have gM:=hh.gM;have gQ:=hh.gQ;obtain ⟨cM,gM⟩:=gM;obtain ⟨cQ,gQ⟩:=gQ)
 (repeat'(first|((first|refine sv1 F M (h:=?_) (hr:=by((apply rt_max;(exact rfl);(exact rfl);(exact rfl))))|fail);(try(clear F a;intro a F)))|(first|refine sx_nil ?_|fail);try replace F:=F.filt zk95 rfl|refine zn1 F M ?_;clear F M a;(try clear w);intro a w F M|refine sv2 F M ?_;clear F M a;intro nb a w F M|refine zT F ?_|refine zY ?_;go_step|fail))
 all_goals exact zX F M
include h in
theorem rule11_spec:Spec 127 [snV x,cfgV c] R fun u L'=>u=.bool (rule11 x d c)∧L'=R:=by
 have hbk:=h.bk
 have hel:=h.el
 by_cases h0:0≤x.bk
 ·have hd0:0≤x.bk / c.epochLen:=Int.ediv_nonneg (by omega) (by omega)
  have hd1:x.bk / c.epochLen≤x.bk:=Int.ediv_le_self _ (by omega)
  have hw:IntKind.i64.wrap (x.bk / c.epochLen)=x.bk / c.epochLen:=IntWalk.i64_in _ ⟨by have:=hbk.1;omega,by have:=hbk.2;omega⟩
  (intro G w M;refine sx_enter (vs:=([snV x,cfgV c]:List Value)) Tryz.func127 (n:=18) rfl rfl rfl rfl ?_;intro a F;(try simp only[zc,zn] at M))
  have hb:decide (0≤x.bk)=true:=by simp[h0]
  (repeat'(first|(first|refine sx_nil ?_|fail);try replace F:=F.filt zk95 rfl|refine zn1 F M ?_;clear F M a;(try clear w);intro a w F M|refine sv2 F M ?_;clear F M a;intro nb a w F M|refine zp1 ?_|refine zT F ?_|((with_reducible refine isD ?_);((refine zD zd134 F M ?_;clear F M a w)))|refine zY ?_;go_step|fail))
  rw[hb]
  (repeat'(first|(refine pv_nil ?_;intro a w F M);try replace F:=F.filt zk95 rfl|refine zp1 ?_|refine zY ?_;go_step|fail))
  (all_goals(refine zE F M ?_;exact⟨_,_,rfl,⟨by unfold rule11;rw[hb];rfl,rfl⟩,M.perms permsA⟩))
 ·(intro G w M;refine sx_enter (vs:=([snV x,cfgV c]:List Value)) Tryz.func127 (n:=18) rfl rfl rfl rfl ?_;intro a F;(try simp only[zc,zn] at M))
  have hb:decide (0≤x.bk)=false:=by simp[h0]
  (repeat'(first|(first|refine sx_nil ?_|fail);try replace F:=F.filt zk95 rfl|refine zn1 F M ?_;clear F M a;(try clear w);intro a w F M|refine sv2 F M ?_;clear F M a;intro nb a w F M|refine zp1 ?_|refine zT F ?_|((with_reducible refine isD ?_);((refine zD zd134 F M ?_;clear F M a w)))|refine zY ?_;go_step|fail))
  rw[hb]
  (repeat'(first|(refine pv_nil ?_;intro a w F M);try replace F:=F.filt zk95 rfl|refine zp1 ?_|refine zY ?_;go_step|fail))
  (all_goals(refine zE F M ?_;exact⟨_,_,rfl,⟨by unfold rule11;rw[hb];rfl,rfl⟩,M.perms permsA⟩))
include h in
theorem rule9_spec:Spec 124 [snV x,cfgV c] R fun u L'=>u=.bool (rule9 x d c)∧L'=R:=by
 (intro G w M;refine sx_enter (vs:=([snV x,cfgV c]:List Value)) Tryz.func124 (n:=24) rfl rfl rfl rfl ?_;intro a F;(try simp only[zc,zn] at M))
 (have hh:=h.app G;have gV:=hh.gV;have gP:=hh.gP;have gF:=hh.gF;have gO:=hh.gO;have gM:=hh.gM;have gQ:=hh.gQ;obtain ⟨cM,gM⟩:=gM;obtain ⟨cQ,gQ⟩:=gQ)
 have hlV:=h.lV
 (repeat'(first|(first|refine sx_nil ?_|fail);try replace F:=F.filt zk135 rfl|refine zn1 F M ?_;clear F M a;(try clear w);intro a w F M|refine sv2 F M ?_;clear F M a;intro nb a w F M|refine zT F ?_|refine zY ?_;go_step|fail))
 refine svLoop F M (0:Nat) (fun k=>[(11,.int .i64 k),(5,.int .i64 ((d.V.take k).filter pBond).length)]) (fun _=>[]) (fun k=>k≤d.V.length) (fun k=>d.V.length - k) [7] (Nat.zero_le _) ?_
 (rintro k q1 a w F M;(try simp only[zc,zn] at F M q1 ⊢))
 have hfl:((d.V.take k).filter pBond).length≤d.V.length:=Nat.le_trans (List.length_filter_le _ _) (by rw[List.length_take];omega)
 by_cases hlt:k<d.V.length
 ·obtain ⟨y,hy⟩:∃ y,d.V[k]? = some y:=⟨d.V[k],by simp[hlt]⟩
  have ht:((d.V.take (k+1)).filter pBond).length=((d.V.take k).filter pBond).length+(if pBond y=true then 1 else 0):=by
   rw[List.take_add_one,hy,List.filter_append];cases hp:pBond y<;>simp[hp]
  (repeat'(first|(first|refine sx_nil ?_|fail);try replace F:=F.filt zk135 rfl|refine zn1 F M ?_;clear F M a;(try clear w);intro a w F M|refine sv2 F M ?_;clear F M a;intro nb a w F M|((first|refine svC F M ?_|fail);(((refine acW (k:=125) (bonded_spec y _) ?_);rintro u L' ⟨rfl,rfl⟩));(first|clear F M a;intro a w F M|fail))|refine zT F ?_|((with_reducible refine isK ?_);refine svB F ?_ ?_<;>intro hc<;>try exact no hc)|refine zY ?_;go_step|fail))
  ·rw[hc,if_pos rfl] at ht
   have e1:(((d.V.take k).filter pBond).length:Int)+1=(((d.V.take (k+1)).filter pBond).length:Nat):=by omega
   rw[e1] at F
   exact sv_again F M (k+1) kpA permsA (by omega) (by omega)
  ·rw[hc,if_neg (by decide)] at ht
   have e1:((d.V.take k).filter pBond).length=((d.V.take (k+1)).filter pBond).length:=by omega
   rw[e1] at F
   exact sv_again F M (k+1) kpA permsA (by omega) (by omega)
 ·obtain rfl:k=d.V.length:=by omega
  rw[List.take_length] at F
  (repeat'(first|(first|refine sx_nil ?_|fail);try replace F:=F.filt zk135 rfl|refine zn1 F M ?_;clear F M a;(try clear w);intro a w F M|refine zT F ?_|((with_reducible refine isK ?_);refine svB F ?_ ?_<;>intro hc<;>try exact no hc)|refine zY ?_;go_step|fail))
  all_goals exact zX F M
end
end
def zk136:List Nat:=[0,1,2,3,4,5,6,7,8,9,10,18]
def zk137:List Nat:=[0,1,2,3,4,5,11]
section
open Go.RowKit
section
variable {o:Oper} {n:Nat} {l:List (Nat × Value)} {L:List Asn}
theorem rt_fieldV {t:TypeId} {x:Operand} {f:Nat} (ho:o.op=.field t x f) {cs:List Value} (hx:evl l x=some (.agg cs.toArray)) {ft off:Nat} (hu:(match Tryz.prog.underlying t with|some (.struct fs)=>(fs[f]?).map (fun f=>(f.type,f.offset))|_=>none)=some (ft,off)) (hkt:KT ft none) {v:Value} (hv:cs[off]? = some v):RT o l L n v:=fun a w F M=>by
 unfold execOp
 rw[ho]
 split at hu
 ·rename_i fs hus
  cases hfs:fs[f]? with
  | none=>rw[hfs] at hu;cases hu
  | some fd =>
   rw[hfs] at hu
   have h2:=Option.some.inj hu
   simp only[Prod.mk.injEq] at h2
   obtain ⟨h2,h3⟩:=h2
   subst h2;subst h3
   have hv':cs.toArray[fd.offset]? = some v:=by simpa using hv
   simp[F.eval hx,Instr.field,run_underlying hus w,hfs,asAgg,part,(run_isAgg (h:=hkt) w).1,hv,hv']
 ·cases hu
end
def auNs:List (List UInt8):=[[99,97,112,97,99,105,116,121],[115,117,109],[115,117,112,112,108,121],[97,99,116,105,118,101],[112,101,110,100,105,110,103],[101,120,105,116,115],[101,112,111,99,104,115],[101,109,112,116,121],[117,110,98,111,110,100,105,110,103],[113,117,101,117,101,115],[99,108,111,99,107],[115,108,97,115,104,101,100]]
def auFs:List Nat:=[104,105,108,109,112,115,117,121,124,126,127,128]
def auCs:List Value:=(auNs.zip auFs).flatMap fun p=>[str p.1,fnV p.2]
theorem table_spec (R:List Asn):Spec 50 [] R fun u L'=>u=.agg auCs.toArray∧L'=R:=by
 (intro G w M;refine sx_enter (vs:=([]:List Value)) Tryz.func50 (n:=14) rfl rfl rfl rfl ?_;intro a F;(try simp only[zc,zn] at M))
 (repeat'(first|(first|refine sx_nil ?_|fail);try replace F:=F.filt [0] rfl|refine zn1 F M ?_;clear F M a;(try clear w);intro a w F M|refine sv2 F M ?_;clear F M a;intro nb a w F M|refine zT F ?_|refine zY ?_;go_step|fail))
 all_goals refine zE F M ?_
 all_goals exact⟨_,_,rfl,⟨rfl,rfl⟩,M.perms permsA⟩
def ruleN (x:Sn) (d:SnD) (c:Cfg) (k:Nat):Bool :=
 if k=1 then rule1 x d c else if k=2 then rule2 x d c else if k=3 then rule3 x d c else if k=4 then rule4 x d c else if k=5 then rule5 x d c else if k=6 then rule6 x d c else if k=7 then rule7 x d c else if k=8 then rule8 x d c else if k=9 then rule9 x d c else if k=10 then rule10 x d c else if k=11 then rule11 x d c else rule12 x d c
theorem rule_at (x:Sn) (d:SnD) (c:Cfg) (k:Nat) (hk:k<12):∃ f nm,FK f∧(auCs.drop ((k:Int).toNat*2)).take 2=[str nm,.func (.func f) #[] #[]]∧∀ R,AuOK R x d c→Spec f [snV x,cfgV c] R fun u L'=>u=.bool (ruleN x d c (k+1))∧L'=R:=by
 rcases (by omega:k=0∨k=1∨k=2∨k=3∨k=4∨k=5∨k=6∨k=7∨k=8∨k=9∨k=10∨k=11) with rfl|rfl|rfl|rfl|rfl|rfl|rfl|rfl|rfl|rfl|rfl|rfl
 ·exact⟨_,_,inferInstance,rfl,rule1_spec x d c⟩
 ·exact⟨_,_,inferInstance,rfl,rule2_spec x d c⟩
 ·exact⟨_,_,inferInstance,rfl,rule3_spec x d c⟩
 ·exact⟨_,_,inferInstance,rfl,rule4_spec x d c⟩
 ·exact⟨_,_,inferInstance,rfl,rule5_spec x d c⟩
 ·exact⟨_,_,inferInstance,rfl,rule6_spec x d c⟩
 ·exact⟨_,_,inferInstance,rfl,rule7_spec x d c⟩
 ·exact⟨_,_,inferInstance,rfl,rule8_spec x d c⟩
 ·exact⟨_,_,inferInstance,rfl,rule9_spec x d c⟩
 ·exact⟨_,_,inferInstance,rfl,rule10_spec x d c⟩
 ·exact⟨_,_,inferInstance,rfl,rule11_spec x d c⟩
 ·exact⟨_,_,inferInstance,rfl,rule12_spec x d c⟩
def allGo (x:Sn) (d:SnD) (c:Cfg):Nat→Nat→List Int
 | 0,_=>[]
 | n+1,k=>(if ruleN x d c k=true then [] else [(k:Int)])++allGo x d c n (k+1)
def allR (x:Sn) (d:SnD) (c:Cfg):List Int:=allGo x d c 12 1
section
variable (x:Sn) (d:SnD) (c:Cfg) (R:List Asn) (h:AuOK R x d c)
include h in
theorem aall_spec:Spec 19 [snV x,cfgV c] R fun u L'=>∃ r,u=sl r∧L'=ownT 3 intL 1 (sl r) (allR x d c)::R:=by
 generalize hX:allR x d c=X
 (intro G w M;refine sx_enter (vs:=([snV x,cfgV c]:List Value)) Tryz.func19 (n:=26) rfl rfl rfl rfl ?_;intro a F;(try simp only[zc,zn] at M))
 have hh:=h.app G
 have M:=M.own_nil 3 1
 (repeat'(first|(first|refine sx_nil ?_|fail);try replace F:=F.filt zk136 rfl|refine zn1 F M ?_;clear F M a;(try clear w);intro a w F M|refine sv2 F M ?_;clear F M a;intro nb a w F M|((first|refine svC F M ?_|fail);(((refine acW (k:=50) (table_spec _) ?_);rintro u L' ⟨rfl,rfl⟩));(first|clear F M a;intro a w F M|fail))|refine zT F ?_|refine zY ?_;go_step|fail))
 refine svLoop F M ((0,⟨none,0,0⟩,[]):Nat × SlH × List Int) (fun s=>[(9,.int .i64 s.1),(5,sl s.2.1)]) (fun s=>[ownT 3 intL 1 (sl s.2.1) s.2.2]) (fun s=>s.1≤12∧s.2.2++allGo x d c (12 - s.1) (s.1+1)=X∧s.2.2.length≤s.1) (fun s=>12 - s.1) [6,7] ⟨Nat.zero_le _,hX,Nat.zero_le _⟩ ?_ (hR:=.cons (.there (.there .here)) .nil)
 (rintro⟨k,h1,out⟩ ⟨q1,q2,q3⟩ a w F M;(try simp only[zc,zn] at F M q1 q2 q3 ⊢))
 by_cases hk:k<12
 ·obtain ⟨f,nm,hf,hd,hs⟩:=rule_at x d c k hk
  have hk2:12 - k=(12 - (k+1))+1:=by omega
  rw[hk2,allGo] at q2
  cases hb:ruleN x d c (k+1)
  all_goals rw[hb] at q2 hs
  ·(repeat'(first|((first|refine sv1 F M (h:=?_) (hr:=by((apply rt_idxA;(exact rfl);(exact rfl);(exact rfl);(exact inferInstance);(exact inferInstance);omega;omega;(exact hd))))|fail);(try(clear F a;intro a F)))|(first|refine sx_nil ?_|fail);try replace F:=F.filt zk136 rfl|refine zn1 F M ?_;clear F M a;(try clear w);intro a w F M|refine sv2 F M ?_;clear F M a;intro nb a w F M|((first|refine svC F M ?_|fail);((first|((refine acW (k:=f) (hs _ ?_) ?_);(focus ((repeat (first|exact hh|apply AuOK.tail));done));rintro u L' ⟨rfl,rfl⟩)|(refine ac_appendH rfl rfl inferInstance rfl rfl pullA inferInstance (ys:=[(k:Int)+1]) gsA rfl rfl (by simp;omega) ?_;intro nv)));(first|clear F M a;intro a w F M|fail))|refine zT F ?_|((with_reducible refine isK ?_);refine svB F ?_ ?_<;>intro hc<;>try exact no hc)|refine zY ?_;go_step|fail))
   refine sv_again F M (k+1,nv,out++[(k:Int)+1]) kpA permsA ⟨by simp only;omega,by simpa using q2,by simp;omega⟩ (by simp only;omega)
  ·(repeat'(first|((first|refine sv1 F M (h:=?_) (hr:=by((apply rt_idxA;(exact rfl);(exact rfl);(exact rfl);(exact inferInstance);(exact inferInstance);omega;omega;(exact hd))))|fail);(try(clear F a;intro a F)))|(first|refine sx_nil ?_|fail);try replace F:=F.filt zk136 rfl|refine zn1 F M ?_;clear F M a;(try clear w);intro a w F M|refine sv2 F M ?_;clear F M a;intro nb a w F M|((first|refine svC F M ?_|fail);((first|((refine acW (k:=f) (hs _ ?_) ?_);(focus ((repeat (first|exact hh|apply AuOK.tail));done));rintro u L' ⟨rfl,rfl⟩)|fail));(first|clear F M a;intro a w F M|fail))|refine zT F ?_|((with_reducible refine isK ?_);refine svB F ?_ ?_<;>intro hc<;>try exact no hc)|refine zY ?_;go_step|fail))
   refine sv_again F M (k+1,h1,out) kpA permsA ⟨by simp only;omega,by simpa using q2,by simp only;omega⟩ (by simp only;omega)
 ·obtain rfl:k=12:=by omega
  (repeat'(first|(first|refine sx_nil ?_|fail);try replace F:=F.filt zk136 rfl|refine zn1 F M ?_;clear F M a;(try clear w);intro a w F M|refine zT F ?_|refine zY ?_;go_step|fail))
  all_goals refine zE F M ?_
  refine⟨_,_,rfl,⟨h1,rfl,rfl⟩,?_⟩
  rw[← q2]
  simp only[Nat.sub_self,allGo,List.append_nil]
  exact M.perms permsA
def chkR:List Int→Int
 | []=>0
 | k::_=>k
include h in
theorem acheck_spec:Spec 22 [snV x,cfgV c] R fun u L'=>u=.int .i64 (chkR (allR x d c))∧L'=R:=by
 have hs:=aall_spec x d c
 generalize allR x d c=X at hs ⊢
 (intro G w M;refine sx_enter (vs:=([snV x,cfgV c]:List Value)) Tryz.func22 (n:=15) rfl rfl rfl rfl ?_;intro a F;(try simp only[zc,zn] at M))
 have hh:=h.app G
 cases X with
 | nil =>
  (repeat'(first|(first|refine sx_nil ?_|fail);try replace F:=F.filt zk137 rfl|refine zn1 F M ?_;clear F M a;(try clear w);intro a w F M|refine sv2 F M ?_;clear F M a;intro nb a w F M|((first|refine svC F M ?_|fail);(((refine acW (k:=19) (hs _ ((hh.tail _).tail _)) ?_);rintro u L' ⟨r,rfl,rfl⟩));(first|clear F M a;intro a w F M|fail))|refine zT F ?_|refine zY ?_;go_step|fail))
  all_goals exact zX F M
 | cons z X =>
  have hz:(z::X)[Int.toNat 0]? = some z:=rfl
  (repeat'(first|(first|refine sx_nil ?_|fail);try replace F:=F.filt zk137 rfl|refine zn1 F M ?_;clear F M a;(try clear w);intro a w F M|refine sv2 F M ?_;clear F M a;intro nb a w F M|((first|refine svC F M ?_|fail);(((refine acW (k:=19) (hs _ ((hh.tail _).tail _)) ?_);rintro u L' ⟨r,rfl,rfl⟩));(first|clear F M a;intro a w F M|fail))|refine zT F ?_|((with_reducible refine isK ?_);refine svB F ?_ ?_<;>intro hc<;>try exact no hc)|refine zY ?_;go_step|fail))
  all_goals exact zX F M
end
theorem arules_spec (R:List Asn):Spec 24 [] R fun u L'=>u=.int .i64 12∧L'=R:=by
 (intro G w M;refine sx_enter (vs:=([]:List Value)) Tryz.func24 (n:=1) rfl rfl rfl rfl ?_;intro a F;(try simp only[zc,zn] at M))
 (repeat'(first|(first|refine sx_nil ?_|fail);try replace F:=F.filt [0] rfl|refine zn1 F M ?_;clear F M a;(try clear w);intro a w F M|refine zT F ?_|refine zY ?_;go_step|fail))
 all_goals exact zX F M
def auNm (k:Int):List UInt8:=if k<1∨12<k then [] else (auNs[(k - 1).toNat]?).getD []
theorem name_at (k:Nat) (hk:k<12):∃ f,(auCs.drop ((k:Int).toNat*2)).take 2=[str (auNm (k+1)),.func (.func f) #[] #[]]:=by
 rcases (by omega:k=0∨k=1∨k=2∨k=3∨k=4∨k=5∨k=6∨k=7∨k=8∨k=9∨k=10∨k=11) with rfl|rfl|rfl|rfl|rfl|rfl|rfl|rfl|rfl|rfl|rfl|rfl<;>exact⟨_,rfl⟩
theorem aname_spec (k:Int) (hk:I64 k) (R:List Asn):Spec 23 [.int .i64 k] R fun u L'=>u=str (auNm k)∧L'=R:=by
 (intro G w M;refine sx_enter (vs:=([.int .i64 k]:List Value)) Tryz.func23 (n:=14) rfl rfl rfl rfl ?_;intro a F;(try simp only[zc,zn] at M))
 by_cases h1:1≤k∧k≤12
 ·obtain ⟨h1,h2⟩:=h1
  obtain ⟨m,rfl⟩:∃ m:Nat,k=m+1:=⟨(k - 1).toNat,by omega⟩
  obtain ⟨f,hd⟩:=name_at m (by omega)
  have em:(m:Int)+1 - 1=m:=by omega
  (repeat'(first|((first|refine sv1 F M (h:=?_) (hr:=by((first|(apply rt_idxA;(exact rfl);(exact rfl);(rw[em];exact rfl);(exact inferInstance);(exact inferInstance);omega;omega;(exact hd))|(exact rt_fieldV (ft:=9) (off:=0) rfl rfl (by kernel_rfl) inferInstance rfl))))|fail);(try(clear F a;intro a F)))|(first|refine sx_nil ?_|fail);try replace F:=F.filt zk21 rfl|refine zn1 F M ?_;clear F M a;(try clear w);intro a w F M|((first|refine svC F M ?_|fail);(((refine acW (k:=50) (table_spec _) ?_);rintro u L' ⟨rfl,rfl⟩));(first|clear F M a;intro a w F M|fail))|refine zT F ?_|((with_reducible refine isK ?_);refine svB F ?_ ?_<;>intro hc<;>try exact no hc)|refine zY ?_;go_step|fail))
  all_goals exact zX F M
 ·have hn:auNm k=[]:=by rw[auNm,if_pos (by omega)]
  by_cases h3:k<1
  ·(repeat'(first|(first|refine sx_nil ?_|fail);try replace F:=F.filt zk21 rfl|refine zn1 F M ?_;clear F M a;(try clear w);intro a w F M|refine zh F ?_ ?_<;>(intro hg;rw[hg] at F;try exact no hg)|refine zT F ?_|refine zY ?_;go_step|fail))
   (all_goals(refine zE F M ?_;exact⟨_,_,rfl,⟨by rw[hn];rfl,rfl⟩,M.perms permsA⟩))
  ·have h4:12<k:=by omega
   (repeat'(first|(first|refine sx_nil ?_|fail);try replace F:=F.filt zk21 rfl|refine zn1 F M ?_;clear F M a;(try clear w);intro a w F M|refine zh F ?_ ?_<;>(intro hg;rw[hg] at F;try exact no hg)|refine zT F ?_|((with_reducible refine isK ?_);refine svB F ?_ ?_<;>intro hc<;>try exact no hc)|refine zY ?_;go_step|fail))
   (all_goals(refine zE F M ?_;exact⟨_,_,rfl,⟨by rw[hn];rfl,rfl⟩,M.perms permsA⟩))
end
def zk138:List Nat:=[0,1,4,5,10,12,13,14,24]
def zd139:List ZR:=[⟨6,[],[],[],[0,1,2,3,4,5,6,7,8]⟩]
section
open Go.RowKit
theorem eqs_int (u v:Value) (xs ys:List Int) {L:List Asn} (hu:GS L 1 u xs.length (xs.flatMap intL)) (hv:GS L 1 v ys.length (ys.flatMap intL)) :
  Reads 20 [u,v] (.bool (decide (xs=ys))) L:=by
 (intro K hK w M;refine sx_enter Tryz.func20 (n:=26) rfl rfl rfl rfl ?_;intro a F)
 replace hu:=hu.imp hK
 replace hv:=hv.imp hK
 have hlu:=hu.len_le M
 have hlv:=hv.len_le M
 by_cases hl:xs.length=ys.length
 ·have hR:decide (xs=ys)=decide (xs.drop 0=ys.drop 0):=by simp
  generalize decide (xs=ys)=R at *
  (repeat'(first|(first|(refine sx_nil ?_;(try(replace F:=F.filt zk138 rfl)))|(refine sv1 F M (h:=?_);clear F a;intro a F)|fail)|((fail_if_success(with_reducible show wpList _ _ _ _ _ _));(fail_if_success(with_reducible show PW _ _ _ _ _ _ _ _ _ _));(fail_if_success(with_reducible show Code.wp _ (Code.loop _) _ _ _));(first|((with_reducible show Code.wp _ (Code.region _ _ false) _ _ _);(refine sx_region ?_))|((with_reducible show Code.wp _ (Code.cond _ _ _) _ _ _);(((refine svB F (fun hc=>?_) (fun hc=>?_))<;>(try(exact no hc)))))|go_step))))
  refine sv_loop (σ:=Nat) (fun s=>[(0,u),(1,v),(12,.int .i64 xs.length),(13,.int .i64 s)]) (fun _=>K) (fun s=>s≤xs.length∧R=decide (xs.drop s=ys.drop s)) (fun s=>xs.length - s) F M 0 kpA permsA ⟨by omega,hR⟩ ?_
  rintro k ⟨h1,h2⟩ a w F M
  try simp only at h1 h2 F ⊢
  by_cases hlt:k<xs.length
  ·obtain ⟨x,hx⟩:∃ x,xs[k]? = some x:=⟨xs[k],by simp[hlt]⟩
   obtain ⟨y,hy⟩:∃ y,ys[k]? = some y:=⟨ys[k]'(by omega),by rw[List.getElem?_eq_getElem (by omega)]⟩
   rw[drop_cons hx,drop_cons hy] at h2
   by_cases he:x=y
   ·subst he
    (repeat'(first|(first|(refine sx_nil ?_;(try(replace F:=F.filt zk138 rfl)))|(refine sv1 F M (h:=?_);clear F a;intro a F)|fail)|(first|(refine pv1 (h:=?_))|(refine pv_nil ?_;intro a w F M;(try(replace F:=F.filt zk138 rfl))))|((fail_if_success(with_reducible show wpList _ _ _ _ _ _));(fail_if_success(with_reducible show PW _ _ _ _ _ _ _ _ _ _));(fail_if_success(with_reducible show Code.wp _ (Code.loop _) _ _ _));(first|((with_reducible show Code.wp _ (Code.region _ _ false) _ _ _);(refine sx_region ?_))|((with_reducible show Code.wp _ (Code.cond _ _ _) _ _ _);(((refine svB F (fun hc=>?_) (fun hc=>?_))<;>(try(exact no hc)))))|((with_reducible show Code.wp _ (Code.region _ _ true) _ _ _);((refine zD zd139 F M ?_;clear F M a w)))|go_step))))
    (refine sv_again F M (k+1) kpA permsA ?_ ?_)
    ·exact⟨by omega,by rw[h2];simp⟩
    ·omega
   ·(repeat'(first|(first|(refine sx_nil ?_;(try(replace F:=F.filt zk138 rfl)))|(refine sv1 F M (h:=?_);clear F a;intro a F)|fail)|(first|(refine pv1 (h:=?_))|(refine pv_nil ?_;intro a w F M;(try(replace F:=F.filt zk138 rfl))))|((fail_if_success(with_reducible show wpList _ _ _ _ _ _));(fail_if_success(with_reducible show PW _ _ _ _ _ _ _ _ _ _));(fail_if_success(with_reducible show Code.wp _ (Code.loop _) _ _ _));(first|((with_reducible show Code.wp _ (Code.region _ _ false) _ _ _);(refine sx_region ?_))|((with_reducible show Code.wp _ (Code.cond _ _ _) _ _ _);(((refine svB F (fun hc=>?_) (fun hc=>?_))<;>(try(exact no hc)))))|((with_reducible show Code.wp _ (Code.region _ _ true) _ _ _);((refine zD zd139 F M ?_;clear F M a w)))|go_step))))
    (all_goals((first|(refine svEnd F M ?_)|(refine svRet F M ?_));refine⟨?_,M.perms permsA⟩))
    rw[h2];simp[tupOf,he]
  ·(repeat'(first|(first|(refine sx_nil ?_;(try(replace F:=F.filt zk138 rfl)))|(refine sv1 F M (h:=?_);clear F a;intro a F)|fail)|((fail_if_success(with_reducible show wpList _ _ _ _ _ _));(fail_if_success(with_reducible show PW _ _ _ _ _ _ _ _ _ _));(fail_if_success(with_reducible show Code.wp _ (Code.loop _) _ _ _));(first|((with_reducible show Code.wp _ (Code.region _ _ false) _ _ _);(refine sx_region ?_))|((with_reducible show Code.wp _ (Code.cond _ _ _) _ _ _);(((refine svB F (fun hc=>?_) (fun hc=>?_))<;>(try(exact no hc)))))|go_step))))
   (all_goals((first|(refine svEnd F M ?_)|(refine svRet F M ?_));refine⟨?_,M.perms permsA⟩))
   rw[h2,List.drop_of_length_le (by omega),List.drop_of_length_le (by omega)];rfl
 ·have hne:xs≠ys:=fun e=>hl (by rw[e])
  have hl':¬((xs.length:Int)=(ys.length:Int)):=by omega
  (repeat'(first|(first|(refine sx_nil ?_;(try(replace F:=F.filt zk138 rfl)))|(refine sv1 F M (h:=?_);clear F a;intro a F)|fail)|((fail_if_success(with_reducible show wpList _ _ _ _ _ _));(fail_if_success(with_reducible show PW _ _ _ _ _ _ _ _ _ _));(fail_if_success(with_reducible show Code.wp _ (Code.loop _) _ _ _));(first|((with_reducible show Code.wp _ (Code.region _ _ false) _ _ _);(refine sx_region ?_))|((with_reducible show Code.wp _ (Code.cond _ _ _) _ _ _);(((refine svB F (fun hc=>?_) (fun hc=>?_))<;>(try(exact no hc)))))|go_step))))
  (all_goals((first|(refine svEnd F M ?_)|(refine svRet F M ?_));refine⟨?_,M.perms permsA⟩))
  simp[tupOf,hne]
end
end Go.Proofs.YtopbohbkhljjgaaGreat
